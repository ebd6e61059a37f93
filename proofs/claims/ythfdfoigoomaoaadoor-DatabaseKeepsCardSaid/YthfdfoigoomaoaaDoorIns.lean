/- Copies within and between rows whose elements have several cells, and what slices.Insert makes of a row's cells. -/
import Derived.Test.YthfdfoigoomaoaaDoorStep
import Derived.Test.YthfdfoigoomaoaaDoorAid
import Derived.Shelf.Spec.SlicesInsertGrow
namespace Go.Proofs.YthfdfoigoomaoaaDoor.Aid
open Go Go.Lib Go.RowKit Go.Proofs.YthfdfoigoomaoaaDoorW.PrintWords
set_option linter.unusedVariables false
set_option linter.unusedSimpArgs false
section
variable {P : Program}
theorem ins_copy (w : World) (dT sT ty elem : TypeId) (sz g o dLen dCap : Nat) (a : Addr) (sLen sCap : Nat) (cur : Array Value) (t : TypeId) (cs : List Value)
    (hu : P.underlying dT = some (.slice elem)) (hs : (P.info? elem).map (·.size) = some sz) (hg : w.heap[g]? = some (.cells cur t (0, 0))) (hn : cs.length = Nat.min sLen dLen * sz)
    (hsrc : ∀ j v, cs[j]? = some v → w.cell? (a.add j) = some v) (hfit : o + cs.length ≤ cur.size) (h1 : ∀ v ∈ cs, v.oneCell' = true) :
    (Builtin.copy_ #[dT, sT] ty #[.slice (some ⟨g, o, none⟩) dLen dCap, .slice (some a) sLen sCap]).run P w =
      .ok (goInt (Nat.min sLen dLen)) (w.setRow g (cur.toList.take o ++ cs ++ cur.toList.drop (o + cs.length)).toArray) := by
  have hl := run_loadCells_list (P := P) w a cs hsrc
  have hst := run_storeCells_at P g o t cs 0 cur w hg (by simpa using hfit) h1
  cases hq : P.info? elem with
  | none => simp [hq] at hs
  | some i =>
    have hi : i.size = sz := by simpa [hq] using hs
    simp [Builtin.copy_, run_underlying hu, Builtin.lenOf, Builtin.firstCells, sizeOf, typeInfo, hq, hi, ← hn, hl, hst]
theorem ins_apart (w : World) (tS tR e : TypeId) (ht : P.underlying tS = some (.slice e)) (size : Nat) (hz : ∀ w, (Go.sizeOf e).run P w = .ok size w)
    (a b : Addr) (la ca lb cb : Nat) (hne : a.block ≠ b.block) (tA tB : TypeId) (kA kB : Nat) (hsa : w.shape? a.block = some (tA, kA)) (hsb : w.shape? b.block = some (tB, kB)) (hkA : kA ≠ 0) (hkB : kB ≠ 0)
    (hfb : w.frozen? b = false) (hfe : w.frozen? { block := b.block, off := kB } = false) :
    (Extern.SlicesOverlaps.overlaps #[tS, tS] #[tR] #[.slice (some a) la ca, .slice (some b) lb cb]).run P w = .ok (.bool false) w := by
  have hnb : (a.block != b.block) = true := by simpa using hne
  have hnb' : (a.block == b.block) = false := by simpa using hne
  change Sem.run P (α := Value) (do
    let some t := (#[tS, tS] : Array TypeId)[0]? | stuck "slices.overlaps: no parameter types"
    let .slice elem ← underlying t | stuck "slices.overlaps: slice type expected"
    let size ← sizeOf elem
    match (some a : Option Addr), (some b : Option Addr) with
    | some a, some b =>
      if la = 0 ∨ lb = 0 ∨ size = 0 then pure (Value.bool false)
      else if a.block != b.block && (← frozen a) && (← frozen b) then unsupported .addressObserved
      else do
        if a.block != b.block then do
          noView a; noView b
          if ← mayBeOne a b then return Value.bool ((← choose (.extern "sameAddr.stringBytes" 2)) == 1)
        pure (Value.bool (a.block == b.block && a.off < b.off + lb * size && b.off < a.off + la * size))
    | _, _ => pure (Value.bool false)) w = _
  by_cases h0 : la = 0 ∨ lb = 0 ∨ size = 0
  · simp [run_underlying ht, hz, h0]
  · cases kB with
    | zero => exact absurd rfl hkB
    | succ kB =>
      cases kA with
      | zero => exact absurd rfl hkA
      | succ kA =>
      cases hfa : w.frozen? a <;> cases hfk : w.frozen? { block := a.block, off := kA + 1 } <;>
        simp [run_underlying ht, hz, h0, hnb, hnb', frozen, noView, viewAt, mayBeOne, stringish, shape, Sem.run, hsa, hsb, hfb, hfe, hfa, hfk]
end
theorem ins_other (w : World) (g : Nat) (cs : Array Value) (k : Nat) (h : k ≠ g) : (w.setRow g cs).heap[k]? = w.heap[k]? := by simp [World.setRow, Array.getElem?_modify, Ne.symm h]
theorem ins_below {B g : Nat} {w0 w : World} (hb : Below B w0 w) (hBg : B ≤ g) (cs : Array Value) : Below B w0 (w.setRow g cs) :=
  ⟨hb.os, hb.tape, hb.output, by rw [size_setRow]; exact hb.size, fun k hk => (ins_other w g cs k (by omega)).trans (hb.block k hk)⟩
theorem ins_shape {w : World} {a : Addr} {v : Value} (h : w.cell? a = some v) : ∃ (t : TypeId) (k : Nat), w.shape? a.block = some (t, k) ∧ k ≠ 0 := by
  unfold World.cell? at h
  unfold World.shape?
  split at h
  · rename_i c t fr hc
    refine ⟨t, c.size, by first | rfl | rw [hc], fun h0 => ?_⟩
    split at h
    · cases h
    · have := (Array.getElem?_eq_some_iff.1 h).1
      omega
  · cases h
theorem ins_gone {w : World} {g : Nat} {cur : Array Value} {t : TypeId} {a : Addr} {v : Value} (hg : w.heap[g]? = some (.cells cur t (0, 0))) (h : (w.setRow g #[]).cell? a = some v) : a.block ≠ g := by
  intro e
  subst e
  have h1 := setRow_heap w a.block cur #[] t (0, 0) hg
  unfold World.cell? at h
  rw [h1] at h
  simp at h
/-- What two copies make of a row that has room. -/
theorem ins_room (L inner news : List Value) (p q r : Nat) (hp : p ≤ r) (hq : r + q ≤ L.length) (hi : inner = L.take r) (hn : news.length = q) (L1 : List Value) (h1 : L1 = L.take (p + q) ++ inner.drop p ++ L.drop (p + q + (inner.drop p).length)) :
    L1.length = L.length ∧ L1.take p ++ news ++ L1.drop (p + news.length) = inner.take p ++ news ++ inner.drop p ++ L.drop (r + q) := by
  have hil : inner.length = r := by rw [hi, List.length_take]; omega
  have hdl : (inner.drop p).length = r - p := by rw [List.length_drop, hil]
  have e1 : L1.take p = inner.take p := by
    rw [h1, List.append_assoc, List.take_append_of_le_length (by rw [List.length_take]; omega), List.take_take, Nat.min_eq_left (by omega), hi, List.take_take, Nat.min_eq_left hp]
  have e2 : L1.drop (p + news.length) = inner.drop p ++ L.drop (r + q) := by
    rw [h1, hn, List.append_assoc, List.drop_append_of_le_length (by rw [List.length_take]; omega), List.drop_eq_nil_of_le (by rw [List.length_take]; omega), List.nil_append, hdl, show p + q + (r - p) = r + q by omega]
  refine ⟨?_, by rw [e1, e2, List.append_assoc, List.append_assoc, List.append_assoc]⟩
  rw [h1]
  simp only [List.length_append, List.length_take, List.length_drop, hdl, hil]
  omega
/-- What two copies make of a new row whose head is the old one's. -/
theorem ins_grow (Z inner news : List Value) (p q r : Nat) (hp : p ≤ r) (hil : inner.length = r) (hn : news.length = q) (hz : r + q ≤ p + Z.length) (L1 : List Value)
    (h1 : L1 = (inner.take p ++ Z).take p ++ news ++ (inner.take p ++ Z).drop (p + news.length)) :
    L1.length = p + Z.length ∧ L1.take (p + q) ++ inner.drop p ++ L1.drop (p + q + (inner.drop p).length) = inner.take p ++ news ++ inner.drop p ++ Z.drop (r + q - p) := by
  have htl : (inner.take p).length = p := by rw [List.length_take]; omega
  have hdl : (inner.drop p).length = r - p := by rw [List.length_drop, hil]
  have e0 : L1 = inner.take p ++ news ++ Z.drop q := by
    rw [h1, List.take_left' htl, hn, ← List.drop_drop, List.drop_left' htl]
  have hpl : (inner.take p ++ news).length = p + q := by rw [List.length_append, htl, hn]
  refine ⟨by rw [e0]; simp only [List.length_append, htl, hn, List.length_drop]; omega, ?_⟩
  rw [e0, List.take_left' hpl, ← List.drop_drop, List.drop_left' hpl, List.drop_drop, hdl, show q + (r - p) = r + q - p by omega]
end Go.Proofs.YthfdfoigoomaoaaDoor.Aid
