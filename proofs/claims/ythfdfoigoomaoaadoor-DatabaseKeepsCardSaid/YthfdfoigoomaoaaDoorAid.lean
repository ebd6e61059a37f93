/- Words for the walks and the rows: cuts with three indexes, what came in as shared, arguments that are structs, arrays or slices of structs, opened. -/
import Derived.Test.YthfdfoigoomaoaaDoorWMore
import Derived.Laws.Slices
import Derived.Lib.SliceRun
import Derived.Lib.SmallJoins
import Derived.Deep.Slices
import Derived.Deep.Fields
import Derived.ChangeSame
import Derived.OpenShut
namespace Go.Proofs.YthfdfoigoomaoaaDoor.Aid
open Go.RowKit Go.Proofs.YthfdfoigoomaoaaDoorW.PrintWords
variable {P : Program} {α : Type}
theorem aid_mid_max_of (enc : α → Value) (d : α) (t e : TypeId) (kl kh : IntKind) {i : TypeInfo} (ht : P.underlying t = some (.slice e)) (hi : P.info? e = some i) (hsz : i.size = 1) (A : Option Addr) (c : Nat) (xs : List α) (a b : Int) (h0 : 0 ≤ a) (h1 : a ≤ b) (hm : b ≤ xs.length) (hc : xs.length ≤ c) :
    ∃ A' : Option Addr, (∀ W : World, (Instr.slice t (.slice A xs.length c) (some (.int kl a)) (some (.int kh b)) (some (.int kh b))).run P W = .ok (.slice A' ((xs.take b.toNat).drop a.toNat).length (b.toNat - a.toNat)) W) ∧
      (∀ w : World, ReadsOf enc d w A xs.length xs → ReadsOf enc d w A' ((xs.take b.toNat).drop a.toNat).length ((xs.take b.toNat).drop a.toNat)) ∧ ((xs.take b.toNat).drop a.toNat).length ≤ b.toNat - a.toNat := by
  have hlt : (xs.take b.toNat).length = b.toNat := by rw [List.length_take]; omega
  have hl : ((xs.take b.toNat).drop a.toNat).length = b.toNat - a.toNat := by rw [List.length_drop, hlt]
  refine ⟨if b.toNat = a.toNat then A else A.map (·.add a.toNat), fun W => ?_, fun w h => ?_, by rw [hl]; omega⟩
  · have hel : P.elem t = e := by simp [Program.elem, ht]
    have hu : P.underlying t = some (.slice (P.elem t)) := by rw [hel]; exact ht
    rw [run_slice_lhm W t A xs.length c hu kl kh kh a b b h0 h1 (Int.le_refl _) (by omega), hel, hl]
    simp [sizeOf, typeInfo, hi, hsz, sliced, Result.andThen]
  · have h2 := (h.take_ b.toNat (by omega)).drop_ (c := b.toNat) a.toNat (by omega) (by omega)
    rw [hl]
    exact h2
/-- A list of Bools by its number. -/
def bo_ (n m : Nat) : Array Bool := ((List.range n).map (Nat.testBit m)).toArray
/-- What came in, told as what is shared: it leads to elder blocks alone. -/
theorem aid_V_of_C {d : Kd α} {e base : Nat} {w : World} {A : Option Addr} {c : Nat} {xs : List α} (hd : Kd.Heap d) (h : d.C w A xs.length xs) (hc : xs.length ≤ c) : Kd.V d e w base (fun k_ => k_ < w.heap.size) (.slice A xs.length c) xs := Kd.V_mk hc (Kd.C_F hd h)
theorem aid_V_string {w : World} {e' src dst e base : Nat} {ok : Nat → Prop} {v : Value} {xs : List Int} (hs : P.underlying src = some (.slice e)) (he : P.underlying e = some (.int .u8)) (hd : P.underlying dst = some .string)
    (h : Kd.V (Kd.int .u8) e' w base ok v xs) : (convert src dst v).run P w = .ok (.string (strOfNums xs)) w := by
  obtain ⟨A, c, rfl, _, hf⟩ := h
  exact Kd.C_string hs he hd (Kd.F_now hf)
theorem aid_less_flip : ∀ a b : List UInt8, (!(Op.bytesLess a b || a == b)) = Op.bytesLess b a
  | [], [] => rfl
  | [], _ :: _ => by simp [Op.bytesLess]
  | _ :: _, [] => by simp [Op.bytesLess]
  | a :: x, b :: y => by
    have ih := aid_less_flip x y
    simp only [Op.bytesLess, List.cons_beq_cons, UInt8.lt_iff_toNat_lt]
    have e : ∀ c d : UInt8, (c == d) = decide (c.toNat = d.toNat) := fun c d => by rw [Bool.eq_iff_iff]; simp [← UInt8.toNat_inj]
    rw [e a b, e b a]
    generalize a.toNat = p
    generalize b.toNat = q
    by_cases h1 : p < q
    · simp [h1, show ¬ q < p by omega, show ¬ q = p by omega]
    · by_cases h2 : q < p
      · simp [h1, h2, show ¬ p = q by omega]
      · obtain rfl : p = q := by omega
        simpa using ih
theorem aid_str_gtr (t : TypeId) (a b : ByteArray) : binOp .gtr t (.string a) (.string b) = pure (.bool (Op.bytesLess b.toList a.toList)) := by rw [← aid_less_flip a.toList b.toList]; simp [binOp, Op.stringOp]
theorem aid_str_leq (t : TypeId) (a b : ByteArray) : binOp .leq t (.string a) (.string b) = pure (.bool (!(Op.bytesLess b.toList a.toList))) := by rw [← aid_less_flip a.toList b.toList]; simp [binOp, Op.stringOp]
theorem aid_ext_size (s : ByteArray) (t : Int) : (s.extract 0 t.toNat).size = min t.toNat s.size := by simp
theorem aid_choose {β : Type} {Q : Nat → β → Prop} : ∀ n : Nat, (∀ i, i < n → ∃ x, Q i x) → ∃ l : List β, l.length = n ∧ ∀ (i : Nat) (x : β), l[i]? = some x → Q i x
  | 0, _ => ⟨[], rfl, fun i x h => by simp at h⟩
  | n + 1, h => by
    obtain ⟨l, hl, hq⟩ := aid_choose n (fun i hi => h i (by omega))
    obtain ⟨x, hx⟩ := h n (by omega)
    refine ⟨l ++ [x], by simp [hl], fun i y hy => ?_⟩
    rcases Nat.lt_or_ge i l.length with hi | hi
    · rw [List.getElem?_append_left hi] at hy
      exact hq i y hy
    · have hlt := (List.getElem?_eq_some_iff.1 hy).1
      rw [List.length_append, List.length_singleton] at hlt
      obtain rfl : i = l.length := by omega
      rw [List.getElem?_append_right (Nat.le_refl _)] at hy
      simp only [Nat.sub_self, List.getElem?_cons_zero, Option.some.injEq] at hy
      subst hy
      rw [hl]
      exact hx
end Go.Proofs.YthfdfoigoomaoaaDoor.Aid
namespace Go.Proofs.YthfdfoigoomaoaaDoor.Aid
open Go.ChangeShapes Go.WideShapes Go.RowKit Go.Deep
section
variable {H : Type} {enc : TypeId × Value → H} {P : Program} {w : World} {base : Nat} {spare : Nat → Bool} {held : Bool}
theorem aid_one {cs : List Value} {j : Nat} (h : j < cs.length) : (cs.drop j).take 1 = [cs[j]] := by
  rw [List.drop_eq_getElem_cons h]
  rfl
/-- A struct of one-cell fields, by value, opened. -/
theorem aid_open_struct {r : Reach} {b0 : Nat} {t : TypeId} {fs : Array Field} {v : Value} {d : DataW H} {p : List MemPlace} (hs : P.underlying t = some (.struct fs)) (hone : oneCellFields P fs = true) (hC : P.cellsOf t = fs.size)
    (hv : Value.okWide P w r b0 t v) (h : DataW.Trod enc P w base spare held t v d p) :
    ∃ (cs : Array Value) (n : Nat), v = .agg cs ∧ cs.size = fs.size ∧ ∀ (j : Nat) (f : Field), fs[j]? = some f → ∃ (c : Value) (y : DataW H × List MemPlace), cs[j]? = some c ∧ DataW.trod enc P w base spare held n f.type [c] = some y := by
  obtain ⟨cs, rfl, hsz⟩ := okWide_struct hs hv
  obtain ⟨fuel, hf⟩ := h
  obtain ⟨ys, n, _, _, _, hlen, hg⟩ := DataW.trod_struct hs hf
  refine ⟨cs, n, rfl, hsz.trans hC, fun j f hj => ?_⟩
  obtain ⟨o, k⟩ := hone_of hone j f hj
  have hjl : j < fs.size := (Array.getElem?_eq_some_iff.1 hj).1
  have hjc : j < cs.size := by rw [hsz, hC]; exact hjl
  have h1 := hg j f hj
  rw [o, k] at h1
  rw [show (Value.agg cs).cells = cs from rfl, aid_one (by simpa using hjc), List.getElem?_eq_getElem (by rw [hlen]; exact hjl)] at h1
  exact ⟨_, _, by rw [← Array.getElem?_toList]; exact List.getElem?_eq_getElem (by simpa using hjc), h1⟩
/-- An array of one-cell elements, by value, opened. -/
theorem aid_open_array {r : Reach} {b0 : Nat} {t e : TypeId} {n : Nat} {v : Value} {d : DataW H} {p : List MemPlace} (ht : P.underlying t = some (.array n e)) (hce : P.cellsOf e = 1) (hC : P.cellsOf t = n)
    (hv : Value.okWide P w r b0 t v) (h : DataW.Trod enc P w base spare held t v d p) :
    ∃ (cs : Array Value) (m : Nat), v = .agg cs ∧ cs.size = n ∧ ∀ (j : Nat), j < n → ∃ (c : Value) (y : DataW H × List MemPlace), cs[j]? = some c ∧ DataW.trod enc P w base spare held m e [c] = some y := by
  obtain ⟨cs, rfl, hsz, _⟩ : ∃ cs, v = .agg cs ∧ cs.size = P.cellsOf t ∧ Row.okWide P w r b0 t cs := by simpa [Value.okWide, ht] using hv
  obtain ⟨fuel, hf⟩ := h
  obtain ⟨ys, m, _, _, _, hlen, hg⟩ := DataW.trod_array ht hf
  refine ⟨cs, m, rfl, hsz.trans hC, fun j hj => ?_⟩
  have hjc : j < cs.size := by rw [hsz, hC]; exact hj
  have h1 := hg j hj
  rw [hce, Nat.mul_one, show (Value.agg cs).cells = cs from rfl, aid_one (by simpa using hjc), List.getElem?_eq_getElem (by rw [hlen]; exact hj)] at h1
  exact ⟨_, _, by rw [← Array.getElem?_toList]; exact List.getElem?_eq_getElem (by simpa using hjc), h1⟩
/-- A slice in a cell: its form. -/
theorem aid_slice_form {t e : TypeId} {n : Nat} {c : Value} {y : DataW H × List MemPlace} (ht : P.underlying t = some (.slice e)) (h : DataW.trod enc P w base spare held n t [c] = some y) :
    ∃ (A : Option Addr) (len cap : Nat), c = .slice A len cap ∧ DataW.Trod enc P w base spare held t (.slice A len cap) y.1 y.2 := by
  rcases open_slice ht h with ⟨h0, _⟩ | ⟨a, l, cp, _, _, _, _, hcs, _⟩
  · obtain rfl : c = _ := by simpa using h0
    exact ⟨_, _, _, rfl, n, by simpa [Value.cells] using h⟩
  · obtain rfl : c = _ := by simpa using hcs
    exact ⟨_, _, _, rfl, n, by simpa [Value.cells] using h⟩
/-- A slice of structs of one-cell fields: each field's cell, with its reading. -/
theorem aid_open_rows {t e : TypeId} {fs : Array Field} {A : Option Addr} {len cap : Nat} {d : DataW H} {p : List MemPlace} (ht : P.underlying t = some (.slice e)) (he : P.underlying e = some (.struct fs))
    (hone : oneCellFields P fs = true) (hC : P.cellsOf e = fs.size) (h : DataW.Trod enc P w base spare held t (.slice A len cap) d p) :
    len ≤ cap ∧ cap ≤ maxLen ∧ (0 < len → ∃ a, A = some a ∧ ∃ n : Nat → Nat, ∀ i, i < len → ∀ (j : Nat) (f : Field), fs[j]? = some f → ∃ (v : Value) (y : DataW H × List MemPlace), w.cell? (a.add (i * fs.size + j)) = some v ∧ DataW.trod enc P w base spare held (n i) f.type [v] = some y) := by
  obtain ⟨fuel, hf⟩ := h
  rcases open_slice ht hf with ⟨h0, _⟩ | ⟨a, l, c, m, n, D, Pl, hcs, hb, hl, hm, hmm, hx, hi⟩
  · simp [Value.cells] at h0
    obtain ⟨rfl, rfl, rfl⟩ := h0
    exact ⟨Nat.le_refl _, Nat.zero_le _, fun h => by omega⟩
  · simp [Value.cells] at hcs
    obtain ⟨rfl, rfl, rfl⟩ := hcs
    have hlm : len ≤ m := by rw [hmm]; split <;> omega
    refine ⟨hl, hm, fun _ => ⟨a, rfl, ?_⟩⟩
    have key : ∀ i, i < len → ∃ n : Nat, ∀ (j : Nat) (f : Field), fs[j]? = some f → ∃ (v : Value) (y : DataW H × List MemPlace), w.cell? (a.add (i * fs.size + j)) = some v ∧ DataW.trod enc P w base spare held n f.type [v] = some y := by
      intro i hil
      obtain ⟨cs', hc, ht'⟩ := hi i (by omega)
      rw [hC] at hc
      obtain ⟨ys, n', hn', hy, hlen, hyl, hf'⟩ := DataW.trod_struct he ht'
      obtain ⟨_, hcl, hat⟩ := World.cells?_some hc
      refine ⟨n', fun j f hj => ?_⟩
      obtain ⟨ho, hk⟩ := hone_of hone j f hj
      have hjl : j < fs.size := (Array.getElem?_eq_some_iff.1 hj).1
      have hcell := hat j hjl
      have h1 := hf' j f hj
      rw [ho, hk, aid_one (by omega), List.getElem?_eq_getElem (by omega)] at h1
      refine ⟨_, _, ?_, h1⟩
      rw [← Go.Deep.add_add, hcell, List.getElem?_eq_getElem (by omega)]
    exact ⟨fun i => if h : i < len then (key i h).choose else 0, fun i hil => by simpa [dif_pos hil] using (key i hil).choose_spec⟩
end
theorem aid_arr2 {α : Type} {cs : Array α} {a0 a1 : α} (h : cs.size = 2) (h0 : cs[0]? = some a0) (h1 : cs[1]? = some a1) : cs = #[a0, a1] := by
  obtain ⟨l⟩ := cs
  match l, h with
  | [b0, b1], _ =>
    simp at h0 h1
    rw [h0, h1]
theorem aid_arr3 {α : Type} {cs : Array α} {a0 a1 a2 : α} (h : cs.size = 3) (h0 : cs[0]? = some a0) (h1 : cs[1]? = some a1) (h2 : cs[2]? = some a2) : cs = #[a0, a1, a2] := by
  obtain ⟨l⟩ := cs
  match l, h with
  | [b0, b1, b2], _ =>
    simp at h0 h1 h2
    rw [h0, h1, h2]
theorem aid_arr4 {α : Type} {cs : Array α} {a0 a1 a2 a3 : α} (h : cs.size = 4) (h0 : cs[0]? = some a0) (h1 : cs[1]? = some a1) (h2 : cs[2]? = some a2) (h3 : cs[3]? = some a3) : cs = #[a0, a1, a2, a3] := by
  obtain ⟨l⟩ := cs
  match l, h with
  | [b0, b1, b2, b3], _ =>
    simp at h0 h1 h2 h3
    rw [h0, h1, h2, h3]
theorem aid_arr9 {α : Type} {cs : Array α} {a0 a1 a2 a3 a4 a5 a6 a7 a8 : α} (h : cs.size = 9) (h0 : cs[0]? = some a0) (h1 : cs[1]? = some a1) (h2 : cs[2]? = some a2) (h3 : cs[3]? = some a3) (h4 : cs[4]? = some a4) (h5 : cs[5]? = some a5) (h6 : cs[6]? = some a6) (h7 : cs[7]? = some a7) (h8 : cs[8]? = some a8) : cs = #[a0, a1, a2, a3, a4, a5, a6, a7, a8] := by
  obtain ⟨l⟩ := cs
  match l, h with
  | [b0, b1, b2, b3, b4, b5, b6, b7, b8], _ =>
    simp at h0 h1 h2 h3 h4 h5 h6 h7 h8
    rw [h0, h1, h2, h3, h4, h5, h6, h7, h8]
end Go.Proofs.YthfdfoigoomaoaaDoor.Aid
