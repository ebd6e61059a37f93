/- The walks of functions of the translation: each call returns what the plain function beside it says. -/
import Derived.Test.YthfdfoigoomaoaaDoorPDbx0
namespace Go.Proofs.YthfdfoigoomaoaaDoor.PDb
open Go.RowKit Go.Proofs.YthfdfoigoomaoaaDoorW.PrintWords Go.Proofs.YthfdfoigoomaoaaDoorW.PrintLast Go.Proofs.YthfdfoigoomaoaaDoorW.PrintMore Go.Proofs.YthfdfoigoomaoaaDoor.Aid
attribute [local go_sem] max2_int min2_int max_two min_two max_three min_three max_four min_four aid_str_gtr aid_str_leq   -- for this text's walks alone
set_option linter.unusedVariables false
set_option linter.unusedSimpArgs false

/-! ### api_Entry_50: function 50 -/
def api_Entry_50.f (l0 : List S35) (a1 : Int) (l2 : List S35) : Option (List S35) := if 0 ≤ a1 then (if a1 ≤ (l0.length : Int) then (if l0.length + l2.length < 1599289640401 then some (l0.take a1.toNat ++ l2 ++ l0.drop a1.toNat) else none) else none) else none
set_option maxHeartbeats 4000000 in
set_option maxRecDepth 100000 in
theorem api_Entry_50.shift (g cap n i m vc : Nat) (ad : Addr) (cur : Array Value) (inner news : List Value) (w : World) (hi : i < n) (hm : 0 < m) (hroom : n + m ≤ cap) (hc63 : cap ≤ 9223372036854775807) (hne : ad.block ≠ g)
  (hg : w.heap[g]? = some (.cells cur 35 (0, 0))) (hsz : cur.size = cap * 9) (hin : inner = cur.toList.take (n * 9)) (hnl : news.length = m * 9) (hns : ∀ j v, news[j]? = some v → w.cell? (ad.add j) = some v)
  (ga : ∀ v ∈ inner, v.oneCell' = true) (ha : ∀ v ∈ news, v.oneCell' = true) (tA : TypeId) (kA : Nat) (hsa : w.shape? ad.block = some (tA, kA)) (hkA : kA ≠ 0) :
  Calls Tryd.prog 50 #[.slice (some ⟨g, 0, none⟩) n cap, .int .i64 i, .slice (some ad) m vc] w fun e w' =>
   e = .returned (.slice (some ⟨g, 0, none⟩) (n + m) cap) ∧ ∃ fin : List Value, w' = w.drew.setRow g fin.toArray ∧ fin.length = cap * 9 ∧ fin.take ((n + m) * 9) = inner.take (i * 9) ++ news ++ inner.drop (i * 9) := by
 have t0 := Tryd.underlying0; have t3 := Tryd.underlying3; have t4 := Tryd.underlying4; have pa := Tryd.underlying22; have Ja := Tryd.underlying35
 have a3 := Tryd.isAgg3; have a4 := Tryd.isAgg4; have qa := Tryd.isAgg22; have Ka := Tryd.isAgg35
 have z3 := Tryd.sizeOf3; have z4 := Tryd.sizeOf4; have z22 := Tryd.sizeOf22; have z35 := Tryd.sizeOf35
 have u3 := run_underlying Tryd.underlying3; have u4 := run_underlying Tryd.underlying4; have ra := run_underlying Tryd.underlying22
 have mixed : Tryd.prog.follows Departure.mixedOrders = true := by kernel_rfl
 have hz1 : ¬ ((m : Int) = 0) := by omega
 have hz2 : ¬ ((i : Int) = (n : Int)) := by omega
 obtain ⟨i0, ma, _, hsz0, _⟩ := info_parts info35
 have hs9 : (Tryd.prog.info? 35).map (·.size) = some 9 := by rw [ma]; simp [hsz0]
 have hcl : cur.toList.length = cap * 9 := by simpa using hsz
 have hil : inner.length = n * 9 := by rw [hin, List.length_take, hcl]; omega
 have hsb : w.shape? g = some (35, cap * 9) := by simp [World.shape?, hg, hsz]
 have hfr : ∀ o, w.frozen? ⟨g, o, none⟩ = false := fun o => by simp [World.frozen?, hg]
 have hov : ∀ lb cb, (callFunc 65 #[.slice (some ad) m vc, .slice (some ⟨g, (i + m) * 9, none⟩) lb cb]).run Tryd.prog w = .ok (.value (.bool false)) w := fun lb cb => by
  rw [run_callFunc_extern Tryd.func65 (by kernel_rfl) (by kernel_rfl) (by kernel_rfl) (e := Extern.SlicesOverlaps.overlaps #[22, 22] #[4]) (by kernel_rfl),
   ins_apart w 22 4 35 Tryd.underlying22 9 Tryd.sizeOf35 ad ⟨g, (i + m) * 9, none⟩ m vc lb cb hne tA 35 kA (cap * 9) hsa hsb hkA (by omega) (hfr _) (hfr _)]
  rfl
 have hdl : (inner.drop (i * 9)).length = n * 9 - i * 9 := by rw [List.length_drop, hil]
 have hw1 : IntKind.i64.wrap ((i : Int) + (m : Int)) = (i : Int) + (m : Int) := by rw [IntKind.wrap_i64]; omega
 have hb1 : (0 : Int) ≤ (i : Int) + (m : Int) := by omega
 have hin' : i ≤ n := by omega
 have htn : ((i : Int) + (m : Int)).toNat = i + m := by omega
 have hb2 : ¬ (cap = i + m) := by omega
 have hb3 : (i : Int) ≤ (n : Int) + (m : Int) := by omega
 have hb4 : ¬ (cap = i) := by omega
 obtain ⟨L1, hL1⟩ : ∃ L1, L1 = cur.toList.take (i * 9 + m * 9) ++ inner.drop (i * 9) ++ cur.toList.drop (i * 9 + m * 9 + (inner.drop (i * 9)).length) := ⟨_, rfl⟩
 have hR := ins_room cur.toList inner news (i * 9) (m * 9) (n * 9) (by omega) (by rw [hcl]; omega) hin hnl L1 hL1
 have hcp1 : ∀ ty dc sc, (Builtin.copy_ #[22, 22] ty #[.slice (some ⟨g, (i + m) * 9, none⟩) (n + m - (i + m)) dc, .slice (some ⟨g, i * 9, none⟩) (n + m - i) sc]).run Tryd.prog w.drew = .ok (goInt ((n - i : Nat) : Int)) (w.drew.setRow g L1.toArray) := fun ty dc sc => by
  have h := ins_copy (P := Tryd.prog) w.drew 22 22 ty 35 9 g ((i + m) * 9) (n + m - (i + m)) dc ⟨g, i * 9, none⟩ (n + m - i) sc cur 35 (inner.drop (i * 9)) Tryd.underlying22 hs9 hg
   (by rw [hdl]; simp only [Nat.min_def]; split <;> omega)
   (fun j v hj => by
    rw [add_at]
    rw [hin, List.getElem?_drop, List.getElem?_take] at hj
    split at hj
    ·show w.cell? ⟨g, i * 9 + j, none⟩ = some v
     simpa [World.cell?, hg] using hj
    cases hj)
   (by rw [hdl, hsz]; omega) (fun v hv => ga v (List.mem_of_mem_drop hv))
  rw [show Nat.min (n + m - i) (n + m - (i + m)) = n - i by simp only [Nat.min_def]; split <;> omega, show (i + m) * 9 = i * 9 + m * 9 by omega, ← hL1] at h
  rw [show (i + m) * 9 = i * 9 + m * 9 by omega]
  exact h
 obtain ⟨fin, hfin⟩ : ∃ fin, fin = L1.take (i * 9) ++ news ++ L1.drop (i * 9 + news.length) := ⟨_, rfl⟩
 have hF := hfin.trans hR.2
 have HF : Aside0 (fin.length = cap * 9 ∧ fin.take ((n + m) * 9) = inner.take (i * 9) ++ news ++ inner.drop (i * 9)) := by
  refine ⟨?_, ?_⟩
  ·rw [hF]
   simp only [List.length_append, List.length_take, List.length_drop, hil, hnl, hcl]
   omega
  rw [hF]
  exact List.take_left' (by simp only [List.length_append, List.length_take, List.length_drop, hil, hnl]; omega)
 obtain ⟨W1, hW1⟩ : ∃ W1, W1 = w.drew.setRow g L1.toArray := ⟨_, rfl⟩
 have hg1 : W1.heap[g]? = some (.cells L1.toArray 35 (0, 0)) := by rw [hW1]; exact setRow_heap w.drew g cur _ 35 (0, 0) hg
 have hcp2 : ∀ (W : World), W = W1 ∨ W = W1.drew → ∀ ty dc, (Builtin.copy_ #[22, 22] ty #[.slice (some ⟨g, i * 9, none⟩) (n + m - i) dc, .slice (some ad) m vc]).run Tryd.prog W = .ok (goInt m) (W.setRow g fin.toArray) := fun W hW ty dc => by
  have hgW : W.heap[g]? = some (.cells L1.toArray 35 (0, 0)) := by rcases hW with rfl | rfl <;> exact hg1
  have h := ins_copy (P := Tryd.prog) W 22 22 ty 35 9 g (i * 9) (n + m - i) dc ad m vc L1.toArray 35 news Tryd.underlying22 hs9 hgW
   (by rw [hnl]; simp only [Nat.min_def]; split <;> omega)
   (fun j v hj => by
    have h0 := hns j v hj
    have hb : (ad.add j).block = ad.block := by unfold Addr.add; split <;> rfl
    have e : W.heap[(ad.add j).block]? = w.heap[(ad.add j).block]? := by
     rw [hb]
     have e1 : W1.heap[ad.block]? = w.heap[ad.block]? := by rw [hW1]; exact ins_other w.drew g L1.toArray ad.block hne
     rcases hW with rfl | rfl <;> exact e1
    rw [World.cell?_of_block e]; exact h0)
   (by rw [hnl, List.size_toArray, hR.1, hcl]; omega) ha
  rw [show Nat.min m (n + m - i) = m by simp only [Nat.min_def]; split <;> omega] at h
  rw [hfin]
  exact h
 rw [← hW1] at hcp1
 have HW1 := aM_ hW1
 clear hW1 hL1 hin hR hfin hF
 go_enter Tryd.func50, Tryd.ntmps50
 go_wp2_with (simp only [hov])
 go_region_law_o (refine step_copy_runI rfl _ _ 22 22 rfl _ _ (by simp [Act.eval, Act.put]) (by simp [Act.eval, Act.put]) (hcp1 _ _ _) ?_)
 go_wp2_with (at_builtin; refine wpList_copy_runI _ rfl _ _ 22 22 rfl _ _ rfl rfl (hcp2 _ (by first | exact .inl rfl | exact .inr rfl) _ _) ?_)
 go_ret
 exact ⟨rfl, fin, by rw [HW1.out, setRow_setRow], HF.out.1, HF.out.2⟩

set_option maxHeartbeats 4000000 in
set_option maxRecDepth 100000 in
theorem api_Entry_50.grow (g cap n i m vc : Nat) (ad : Addr) (cur : Array Value) (inner news : List Value) (w : World) (hi : i < n) (hm : 0 < m) (hnc : n ≤ cap) (hroom : cap < n + m) (hbig : (n + m) * 88 ≤ 140737488355328) (hvw : ad.block < w.heap.size)
  (hg : w.heap[g]? = some (.cells cur 35 (0, 0))) (hsz : cur.size = cap * 9) (hin : inner = cur.toList.take (n * 9)) (hnl : news.length = m * 9) (hns : ∀ j v, news[j]? = some v → w.cell? (ad.add j) = some v)
  (ga : ∀ v ∈ inner, v.oneCell' = true) (ha : ∀ v ∈ news, v.oneCell' = true) :
  Calls Tryd.prog 50 #[.slice (some ⟨g, 0, none⟩) n cap, .int .i64 i, .slice (some ad) m vc] w fun e w' =>
   ∃ (G : Nat) (fin : List Value), e = .returned (.slice (some ⟨w.heap.size, 0, none⟩) (n + m) G) ∧ n + m ≤ G ∧ G ≤ maxLen ∧ Below w.heap.size w w' ∧ w'.heap[w.heap.size]? = some (.cells fin.toArray 35 (0, 0)) ∧ fin.length = G * 9 ∧ fin.take ((n + m) * 9) = inner.take (i * 9) ++ news ++ inner.drop (i * 9) := by
 have t0 := Tryd.underlying0; have t3 := Tryd.underlying3; have t4 := Tryd.underlying4; have pa := Tryd.underlying22; have Ja := Tryd.underlying35
 have a3 := Tryd.isAgg3; have a4 := Tryd.isAgg4; have qa := Tryd.isAgg22; have Ka := Tryd.isAgg35
 have z3 := Tryd.sizeOf3; have z4 := Tryd.sizeOf4; have z22 := Tryd.sizeOf22; have z35 := Tryd.sizeOf35
 have u3 := run_underlying Tryd.underlying3; have u4 := run_underlying Tryd.underlying4; have ra := run_underlying Tryd.underlying22
 have mixed : Tryd.prog.follows Departure.mixedOrders = true := by kernel_rfl
 obtain ⟨i0, ma, hz0, hsz0, hzb⟩ := info_parts info35
 have hz1 : ¬ ((m : Int) = 0) := by omega
 have hz2 : ¬ ((i : Int) = (n : Int)) := by omega
 have hz3 : (cap : Int) < (n : Int) + (m : Int) := by omega
 have hs9 : (Tryd.prog.info? 35).map (·.size) = some 9 := by rw [ma]; simp [hsz0]
 have hgw : g < w.heap.size := (Array.getElem?_eq_some_iff.1 hg).1
 have hcl : cur.toList.length = cap * 9 := by simpa using hsz
 have hil : inner.length = n * 9 := by rw [hin, List.length_take, hcl]; omega
 have hkk : (n : Int) + (m : Int) - (i : Int) = ((n + m - i : Nat) : Int) := by omega
 have hik : i + (n + m - i) = n + m := by omega
 have hcell : ∀ j v, inner[j]? = some v → w.cell? ⟨g, j, none⟩ = some v := fun j v hj => by
  rw [hin, List.getElem?_take] at hj
  split at hj
  ·simpa [World.cell?, hg] using hj
  cases hj
 have hold : (Builtin.firstCells i0.size i (.slice (some ⟨g, 0, none⟩) i cap)).run Tryd.prog w.drew = .ok (inner.take (i * 9)).toArray w.drew := by
  rw [hsz0]
  exact run_firstCells_some w.drew 9 i ⟨g, 0, none⟩ i cap (inner.take (i * 9)) (by rw [List.length_take, hil]; omega) (fun j v hj => by
   rw [add_at, Nat.zero_add]
   rw [List.getElem?_take] at hj
   split at hj
   ·exact hcell j v hj
   cases hj)
 obtain ⟨z, hz⟩ : ∃ z, z = i0.zero := ⟨_, rfl⟩
 obtain ⟨zv, hzv, hzs⟩ : ∃ zv : Value, i0.zero = some zv ∧ zv.cells.size = 9 := ⟨_, hz0, rfl⟩
 clear hz0 hz z
 have hrz : ∀ ty, (Builtin.append_ #[22, 3] ty #[.slice (some ⟨g, 0, none⟩) i cap, .int .i64 ((n : Int) + (m : Int) - (i : Int))]).run Tryd.prog w =
   .ok (.slice (some ⟨w.heap.size, 0, none⟩) (n + m) (grownCap w (n + m) cap 35)) (w.drew.alloc (.cells ((inner.take (i * 9)).toArray ++ Builtin.zeroCells zv.cells (n + m - i) ++ Builtin.zeroCells zv.cells (grownCap w (n + m) cap 35 - (n + m))) 35)) := fun ty => by
  have h := Lib.run_append_grow_zeros w 22 3 ty 35 i0 zv .i64 .i64 Tryd.underlying22 Tryd.underlying3 ma hzv (some ⟨g, 0, none⟩) i cap (inner.take (i * 9)) hold (n + m - i) (by omega) (by omega) (by omega) (by omega) (by rw [hzb]; omega) (by rw [hzb, hik]; exact growslice_fits hroom hbig)
  rw [hik] at h
  rw [hkk]
  exact h
 obtain ⟨G, hG⟩ : ∃ G, G = grownCap w (n + m) cap 35 := ⟨_, rfl⟩
 have hGn : n + m ≤ G := by rw [hG]; exact grownCap_ge w _ _ _
 have hGx : G ≤ maxLen := by rw [hG]; exact grownCap_le_maxLen w (n + m) cap 35 (by unfold maxLen; omega)
 have hG63 : G ≤ 9223372036854775807 := by unfold maxLen at hGx; omega
 obtain ⟨Z, hZ⟩ : ∃ Z, Z = (Builtin.zeroCells zv.cells (n + m - i) ++ Builtin.zeroCells zv.cells (G - (n + m))).toList := ⟨_, rfl⟩
 have hZl : Z.length = (G - i) * 9 := by
  rw [hZ, Array.length_toList, Array.size_append, size_zeroCells, size_zeroCells, hzs]
  omega
 obtain ⟨ROW, hROW⟩ : ∃ ROW : Array Value, ROW = (inner.take (i * 9) ++ Z).toArray := ⟨_, rfl⟩
 have hRW : (inner.take (i * 9)).toArray ++ Builtin.zeroCells zv.cells (n + m - i) ++ Builtin.zeroCells zv.cells (G - (n + m)) = ROW := by
  rw [hROW, hZ, Array.append_assoc]
  apply Array.ext'
  simp
 rw [← hG] at hrz
 rw [hRW] at hrz
 have htl : (inner.take (i * 9)).length = i * 9 := by rw [List.length_take, hil]; omega
 have hRl : ROW.size = G * 9 := by rw [hROW, List.size_toArray, List.length_append, htl, hZl]; omega
 obtain ⟨L1, hL1⟩ : ∃ L1, L1 = (inner.take (i * 9) ++ Z).take (i * 9) ++ news ++ (inner.take (i * 9) ++ Z).drop (i * 9 + news.length) := ⟨_, rfl⟩
 have hR := ins_grow Z inner news (i * 9) (m * 9) (n * 9) (by omega) hil hnl (by rw [hZl]; omega) L1 hL1
 have hL1l : L1.length = G * 9 := by rw [hR.1, hZl]; omega
 obtain ⟨fin, hfin⟩ : ∃ fin, fin = L1.take (i * 9 + m * 9) ++ inner.drop (i * 9) ++ L1.drop (i * 9 + m * 9 + (inner.drop (i * 9)).length) := ⟨_, rfl⟩
 have hF := hfin.trans hR.2
 have HF : Aside0 (fin.length = G * 9 ∧ fin.take ((n + m) * 9) = inner.take (i * 9) ++ news ++ inner.drop (i * 9)) := by
  refine ⟨?_, ?_⟩
  ·rw [hF]
   simp only [List.length_append, List.length_take, List.length_drop, hil, hnl, hZl]
   omega
  rw [hF]
  exact List.take_left' (by simp only [List.length_append, List.length_take, List.length_drop, hil, hnl]; omega)
 have hdl : (inner.drop (i * 9)).length = n * 9 - i * 9 := by rw [List.length_drop, hil]
 obtain ⟨N, hN⟩ : ∃ N, N = w.heap.size := ⟨_, rfl⟩
 rw [← hN] at hrz hgw hvw
 have hnew : ∀ W : World, W.heap.size = N → (W.alloc (.cells ROW 35)).heap[N]? = some (.cells ROW 35 (0, 0)) := fun W hW => by
  have := heap_alloc_new W (.cells ROW 35)
  rwa [hW] at this
 have hold' : ∀ (W : World) k, W.heap.size = N → k < N → (W.alloc (.cells ROW 35)).heap[k]? = W.heap[k]? := fun W k hW hk => by
  have hb := (bA_ (Below.refl W.heap.size W) (.cells ROW 35)).block k (by rw [hW]; exact hk)
  exact hb
 have hcpA : ∀ (W : World), W.heap[N]? = some (.cells ROW 35 (0, 0)) → (∀ k, k < N → W.heap[k]? = w.heap[k]?) → ∀ ty dc, (Builtin.copy_ #[22, 22] ty #[.slice (some ⟨N, i * 9, none⟩) (n + m - i) dc, .slice (some ad) m vc]).run Tryd.prog W = .ok (goInt m) (W.setRow N L1.toArray) := fun W hgW hk ty dc => by
  have h := ins_copy (P := Tryd.prog) W 22 22 ty 35 9 N (i * 9) (n + m - i) dc ad m vc ROW 35 news Tryd.underlying22 hs9 hgW
   (by rw [hnl]; simp only [Nat.min_def]; split <;> omega)
   (fun j v hj => by
    have hb : (ad.add j).block = ad.block := by unfold Addr.add; split <;> rfl
    rw [World.cell?_of_block (w := w) (by rw [hb]; exact hk _ hvw)]
    exact hns j v hj)
   (by rw [hnl, hRl]; omega) ha
  rw [show Nat.min m (n + m - i) = m by simp only [Nat.min_def]; split <;> omega, hROW] at h
  rw [hL1]
  exact h
 have hcpB : ∀ (W : World), W.heap[N]? = some (.cells L1.toArray 35 (0, 0)) → (∀ k, k < N → W.heap[k]? = w.heap[k]?) → ∀ ty dc sc, (Builtin.copy_ #[22, 22] ty #[.slice (some ⟨N, (i + m) * 9, none⟩) (n + m - (i + m)) dc, .slice (some ⟨g, i * 9, none⟩) (n - i) sc]).run Tryd.prog W = .ok (goInt ((n - i : Nat) : Int)) (W.setRow N fin.toArray) := fun W hgW hk ty dc sc => by
  have h := ins_copy (P := Tryd.prog) W 22 22 ty 35 9 N ((i + m) * 9) (n + m - (i + m)) dc ⟨g, i * 9, none⟩ (n - i) sc L1.toArray 35 (inner.drop (i * 9)) Tryd.underlying22 hs9 hgW
   (by rw [hdl]; simp only [Nat.min_def]; split <;> omega)
   (fun j v hj => by
    rw [add_at, World.cell?_of_block (w := w) (hk g hgw)]
    rw [List.getElem?_drop] at hj
    exact hcell _ v hj)
   (by rw [hdl, List.size_toArray, hL1l]; omega) (fun v hv => ga v (List.mem_of_mem_drop hv))
  rw [show Nat.min (n - i) (n + m - (i + m)) = n - i by simp only [Nat.min_def]; split <;> omega, show (i + m) * 9 = i * 9 + m * 9 by omega] at h
  rw [show (i + m) * 9 = i * 9 + m * 9 by omega, hfin]
  exact h
 obtain ⟨W1, hW1⟩ : ∃ W1, W1 = w.drew.alloc (.cells ROW 35) := ⟨_, rfl⟩
 have hA1 : W1.heap[N]? = some (.cells ROW 35 (0, 0)) := by rw [hW1]; exact hnew w.drew hN.symm
 have hA2 : ∀ k, k < N → W1.heap[k]? = w.heap[k]? := fun k hk => by rw [hW1]; exact hold' w.drew k hN.symm hk
 have hB1 : Below N w W1 := by rw [hW1, hN]; exact bA_ (Below.refl _ _).drew _
 obtain ⟨W2, hW2⟩ : ∃ W2, W2 = W1.setRow N L1.toArray := ⟨_, rfl⟩
 have hC1 : W2.heap[N]? = some (.cells L1.toArray 35 (0, 0)) := by rw [hW2]; exact setRow_heap W1 N ROW _ 35 (0, 0) hA1
 have hC2 : ∀ k, k < N → W2.heap[k]? = w.heap[k]? := fun k hk => by rw [hW2, ins_other W1 N _ k (by omega)]; exact hA2 k hk
 have hB2 : Below N w W2 := by rw [hW2]; exact ins_below hB1 (Nat.le_refl _) _
 have hW0 : (w.drew.alloc (.cells ROW 35)) = W1 := hW1.symm
 have hE1 : (w.alloc (.cells ROW 35)).drew = W1 := by rw [hW1]; rfl
 have hw1 : IntKind.i64.wrap ((i : Int) + (m : Int)) = (i : Int) + (m : Int) := by rw [IntKind.wrap_i64]; omega
 have hb1 : (0 : Int) ≤ (i : Int) + (m : Int) := by omega
 have hin' : i ≤ n := by omega
 have htn : ((i : Int) + (m : Int)).toNat = i + m := by omega
 have hb3 : (i : Int) ≤ (n : Int) := by omega
 have hGi : ¬ (G = i) := by omega
 have hGim : ¬ (G = i + m) := by omega
 have hci : ¬ (cap = i) := by omega
 rw [hW0] at hrz
 have hcA := fun ty dc => hcpA W1 hA1 hA2 ty dc
 have hcB := fun (W : World) (hW : W = W2 ∨ W = W2.drew) ty dc sc => hcpB W (by rcases hW with rfl | rfl <;> exact hC1) (by rcases hW with rfl | rfl <;> exact hC2) ty dc sc
 rw [← hW2] at hcA
 have HB2 := aM_ hB2
 have La := aM_ hC1
 have HN := aM_ hN
 rw [← hN]
 clear hN hkk hik hold hROW hG hRl hRW hZ hZl hL1 hL1l hR hfin hF hW1 hW2 hcpA hcpB hA1 hA2 hC1 hC2 hB1 hB2 hnew hold' hin hcell htl hdl hE1 hW0
 go_enter Tryd.func50, Tryd.ntmps50
 go_wp2_with (first
  | (at_builtin; refine Lib.wpList_append_run _ rfl _ _ _ _ rfl _ _ rfl rfl _ _ (hrz _) ?_)
  | (at_builtin; refine wpList_copy_runI _ rfl _ _ 22 22 rfl _ _ rfl rfl (hcA _ _) ?_)
  | (at_builtin; refine wpList_copy_runI _ rfl _ _ 22 22 rfl _ _ rfl rfl (hcB _ (by first | exact .inl rfl | exact .inr rfl) _ _ _) ?_))
 go_region_law_o (refine step_copy_runI rfl _ _ 22 22 rfl (.slice (some ⟨N, (i + m) * 9, none⟩) (n + m - (i + m)) (G - (i + m))) (.slice (some ⟨g, i * 9, none⟩) (n - i) (cap - i)) (by simp [Act.eval, Act.put]) (by simp [Act.eval, Act.put]) (hcB _ (by first | exact .inl rfl | exact .inr rfl) 3 (G - (i + m)) (cap - i)) ?_)
 go_wp2
 go_ret
 exact ⟨G, fin, rfl, hGn, hGx, ins_below HB2.out.drew (Nat.le_refl _) _, setRow_heap W2.drew N _ _ 35 (0, 0) La.out, HF.out.1, HF.out.2⟩

set_option maxHeartbeats 4000000 in
set_option maxRecDepth 100000 in
theorem api_Entry_50.nothing (A : Option Addr) (n cap i c2 : Nat) (A2 : Option Addr) (w : World) (hi : i ≤ n) (hn : n ≤ cap) : Calls Tryd.prog 50 #[.slice A n cap, .int .i64 i, .slice A2 0 c2] w fun e w' => e = .returned (.slice A n cap) ∧ w' = w := by
 have t0 := Tryd.underlying0; have t3 := Tryd.underlying3; have t4 := Tryd.underlying4; have pa := Tryd.underlying22
 have a3 := Tryd.isAgg3; have a4 := Tryd.isAgg4; have qa := Tryd.isAgg22
 have z3 := Tryd.sizeOf3; have z4 := Tryd.sizeOf4; have z22 := Tryd.sizeOf22; have z35 := Tryd.sizeOf35
 have u3 := run_underlying Tryd.underlying3; have u4 := run_underlying Tryd.underlying4; have ra := run_underlying Tryd.underlying22
 have hz : (0 : Int) ≤ (i : Int) := by omega
 have hi' : (i : Int) ≤ (n : Int) := by omega
 obtain ⟨i07, ea, _, hsz7, _⟩ := info_parts info35
 have hcut7 := cut_from (P := Tryd.prog) 22 35 .i64 Tryd.underlying22 ea 9 hsz7 A n cap (i : Int) (by omega) (by omega)
 obtain ⟨A7, hA7⟩ : ∃ A1, A1 = (if cap = ((i : Int) : Int).toNat then A else (A : Option Addr).map (·.add (((i : Int) : Int).toNat * 9))) := ⟨_, rfl⟩
 obtain ⟨c7, hc7⟩ : ∃ c1, c1 = cap - ((i : Int) : Int).toNat := ⟨_, rfl⟩
 obtain ⟨n7, hn7⟩ : ∃ n1, n1 = n - ((i : Int) : Int).toNat := ⟨_, rfl⟩
 rw [← hn7, ← hA7, ← hc7] at hcut7
 clear hA7 hc7 hn7 ea hsz7
 go_enter Tryd.func50, Tryd.ntmps50
 go_wp2
 go_ret
 exact ⟨rfl, rfl⟩
set_option maxHeartbeats 4000000 in
set_option maxRecDepth 100000 in
theorem api_Entry_50.end (P0_ : Nat → Prop) (A : Option Addr) (cap c2 : Nat) (l0 : List S35) (A2 : Option Addr) (l2 : List S35) (w0 w : World) (hB : Below w0.heap.size w0 w) (Fa : Kd.R k35 35 w w0.heap.size P0_ (.slice A l0.length cap) l0) (hC : Kd.C k35 w A2 l2.length l2) (hm : 0 < l2.length) (hl : l0.length + l2.length < 1599289640401) :
  Calls Tryd.prog 50 #[.slice A l0.length cap, .int .i64 l0.length, .slice A2 l2.length c2] w fun e w' => ∃ Tb : Value, e = .returned Tb ∧ Kd.R k35 35 w' w0.heap.size (fun k_ => (P0_ k_ ∨ w.heap.size ≤ k_)) Tb (l0 ++ l2) ∧ Below w0.heap.size w0 w' ∧ Kept w w' (fun k_ => P0_ k_) := by
 have t0 := Tryd.underlying0; have t3 := Tryd.underlying3; have t4 := Tryd.underlying4; have pa := Tryd.underlying22
 have a3 := Tryd.isAgg3; have a4 := Tryd.isAgg4; have qa := Tryd.isAgg22
 have z3 := Tryd.sizeOf3; have z4 := Tryd.sizeOf4; have z22 := Tryd.sizeOf22; have z35 := Tryd.sizeOf35
 have u3 := run_underlying Tryd.underlying3; have u4 := run_underlying Tryd.underlying4; have ra := run_underlying Tryd.underlying22
 have HP := aM_ (show ∀ k, (Value.slice A l0.length cap).ownBlock = some k → P0_ k from Fa.1)
 have HO := aM_ (show Kd.R k35 35 w w0.heap.size (fun k_ => (P0_ k_ ∨ w.heap.size ≤ k_)) (.slice A l0.length cap) l0 from Kd.R_mono Fa (fun k_ hk => .inl hk))
 replace hC := aM_ hC
 have HB := aM_ hB
 have HS := aM_ hl
 have hz1 : ¬ ((l2.length : Int) = 0) := by omega
 have hn2 : ¬ (l2 = []) := fun e => by rw [e] at hm; exact absurd hm (Nat.lt_irrefl 0)
 have hi' : (l0.length : Int) ≤ (l0.length : Int) := Int.le_refl _
 clear hB Fa hl
 obtain ⟨i07, ea, _, hsz7, _⟩ := info_parts info35
 have hcut7 := cut_from (P := Tryd.prog) 22 35 .i64 Tryd.underlying22 ea 9 hsz7 A l0.length cap (l0.length : Int) (by omega) (by omega)
 obtain ⟨A7, hA7⟩ : ∃ A1, A1 = (if cap = ((l0.length : Int) : Int).toNat then A else (A : Option Addr).map (·.add (((l0.length : Int) : Int).toNat * 9))) := ⟨_, rfl⟩
 obtain ⟨c7, hc7⟩ : ∃ c1, c1 = cap - ((l0.length : Int) : Int).toNat := ⟨_, rfl⟩
 obtain ⟨n7, hn7⟩ : ∃ n1, n1 = l0.length - ((l0.length : Int) : Int).toNat := ⟨_, rfl⟩
 rw [← hn7, ← hA7, ← hc7] at hcut7
 clear hA7 hc7 hn7 ea hsz7
 go_enter Tryd.func50, Tryd.ntmps50
 go_wp2_with (first | ((with_reducible refine gate_builtin (b := .append) (xs := #[.tmp 23, .tmp 24]) rfl ?_); at_builtin; refine Kd.R_append_rows k35 (w0 := w0) w0.heap.size rfl (.tmp 23) (.tmp 24) 22 35 (.agg #[(.string ⟨#[]⟩), (.string ⟨#[]⟩), (.int .u64 0), (.int .i64 0), (.int .i64 0), (.int .i64 0), (.int .i64 0), (.int .i64 0), (.int .i64 0)]) 88 rfl Tryd.underlying22 info35 rfl (by decide) (by omega) (.slice A l0.length cap) l0 l2 _ _ _ (fun k_ => (P0_ k_ ∨ w.heap.size ≤ k_)) (fun _ => False) rfl rfl ?aO ?aR (fun _ _ h => h) (fun _ h => h.elim) ?aF ?aB ?aS ?aL ?_; (case aR => exact hC.out); (case aB => exact HB.out); (case aF => exact (fun k_ hk => .inr hk)); (case aO => exact HO.out); (case aS => exact HB.out.size); (case aL => have := HS.out; omega); intro Xc xd ho hb hg hat; replace HB := aM_ hb; have HK := aM_ (Kept.of_grown (S := (fun k_ => P0_ k_)) hg (Kept.refl w _) (fun k_ e_ => .inl (HP.out k_ e_))); have HR := aM_ ho; clear HO ho hb hg hat))
 go_ret
 exact ⟨_, rfl, HR.out, HB.out, HK.out⟩
theorem api_Entry_50.reps {w' : World} {base : Nat} {ok : Nat → Prop} {l0 l2 : List S35} {inner news : List Value} {w : World} {ok' : Nat → Prop} {base' : Nat} (h0 : Reps (k35.M w base' ok') 9 l0 inner) (h2 : Reps (k35.K w) 9 l2 news) (i : Nat) (hi : i ≤ l0.length) :
  Reps (k35.M w' base ok) 9 (l0.take i ++ l2 ++ l0.drop i) (inner.take (i * 9) ++ news ++ inner.drop (i * 9)) := by
 have r0 : Reps (k35.M w' base ok) 9 l0 inner := h0.imp_ (fun x c h => by
  obtain rfl := k35_openM h
  exact k35_mkM _ _ _ x)
 have r2 : Reps (k35.M w' base ok) 9 l2 news := h2.imp_ (fun x c h => by
  obtain rfl := k35_open h
  exact k35_mkM _ _ _ x)
 exact Kd.reps_append (Kd.reps_append (Kd.reps_take r0 hi) r2) (Kd.reps_drop r0)
theorem api_Entry_50.calls (P0_ : Nat → Prop) (vb : Value) (l0 : List (S35)) (a1 : Int) (A2 : Option Addr) (c2 : Nat) (l2 : List (S35)) (r : List (S35)) (w0 w : World) (hB : Below w0.heap.size w0 w) (Fa : Kd.R k35 35 w w0.heap.size P0_ vb l0) (hr2 : ∀ W_, Kept w W_ (fun k_ => P0_ k_) → Kd.C k35 W_ A2 l2.length l2) (hc2 : l2.length ≤ c2) (h : api_Entry_50.f l0 a1 l2 = some r) :
  Calls Tryd.prog 50 #[vb, .int .i64 a1, .slice A2 l2.length c2] w fun e w' => ∃ Tb : Value, e = .returned (Tb) ∧ Kd.R k35 35 w' w0.heap.size (fun k_ => (P0_ k_ ∨ w.heap.size ≤ k_)) Tb r ∧ Below w0.heap.size w0 w' ∧ Kept w w' (fun k_ => P0_ k_) := by
 unfold api_Entry_50.f at h
 by_cases c1 : 0 ≤ a1
 case neg => rw [if_neg c1] at h; cases h
 by_cases c2' : a1 ≤ (l0.length : Int)
 case neg => rw [if_pos c1, if_neg c2'] at h; cases h
 by_cases c3 : l0.length + l2.length < 1599289640401
 case neg => rw [if_pos c1, if_pos c2', if_neg c3] at h; cases h
 rw [if_pos c1, if_pos c2', if_pos c3] at h
 obtain ⟨i, rfl⟩ := Int.eq_ofNat_of_zero_le c1
 have hi : i ≤ l0.length := by omega
 rw [Int.toNat_natCast] at h
 obtain rfl := Option.some.inj h
 clear h c1 c2'
 obtain ⟨A, cap, hA⟩ := Kd.R_slice Fa
 subst hA
 have hnc : l0.length ≤ cap := (Kd.R_reads' Fa).2.1
 rcases Nat.eq_zero_or_pos l2.length with hz | hm
 ·obtain rfl := List.eq_nil_of_length_eq_zero hz
  refine (api_Entry_50.nothing A l0.length cap i c2 A2 w hi hnc).mono ?_
  rintro e w' ⟨rfl, rfl⟩
  exact ⟨_, rfl, by rw [List.append_nil, List.take_append_drop]; exact Kd.R_mono Fa (fun k_ hk => .inl hk), hB, Kept.refl _ _⟩
 have hC := hr2 w (Kept.refl w _)
 rcases Nat.lt_or_ge i l0.length with hin | hge
 case inr =>
  obtain rfl : i = l0.length := by omega
  rw [List.take_length, List.drop_length, List.append_nil]
  exact api_Entry_50.end P0_ A cap c2 l0 A2 l2 w0 w hB Fa hC hm c3
 obtain ⟨hok, inner, hown, hreps⟩ := Fa
 rcases hown.2 with ⟨_, hn0⟩ | ⟨g, cap', cur, he, hbase, hg, _, hcm, hsz, htk⟩
 ·omega
 injection he with hA _ hc
 subst hA hc
 have hPg : P0_ g := hok g rfl
 obtain ⟨ad, rfl, _⟩ := hC.2.2 hm
 obtain ⟨news, hrn, hcn⟩ := ReadsRow.inner_ hC
 have hnl : news.length = l2.length * 9 := hrn.1
 have ga : ∀ v ∈ inner, v.oneCell' = true := Kd.reps_one hreps (by decide) (fun x c hx u hu => k35.K_one (k35.K_of_M hx) u hu)
 have ha : ∀ v ∈ news, v.oneCell' = true := Kd.reps_one hrn (by decide) (fun x c hx u hu => k35.K_one hx u hu)
 have hp0 : 0 < news.length := by rw [hnl]; omega
 have hb0 : ∀ j, (ad.add j).block = ad.block := fun j => by unfold Addr.add; split <;> rfl
 have hc0 := hcn 0 _ (List.getElem?_eq_getElem hp0)
 have hvw : ad.block < w.heap.size := by rw [← hb0 0]; exact World.block_lt_of_cell? w _ hc0
 have hne : ad.block ≠ g := by
  have hC2 := hr2 (w.setRow g #[]) ⟨by rw [size_setRow]; exact Nat.le_refl _, fun k _ hk => ins_other w g _ k (fun e => hk (by rw [e]; exact hPg))⟩
  obtain ⟨news2, hrn2, hcn2⟩ := ReadsRow.inner_ hC2
  have hp2 : 0 < news2.length := by rw [hrn2.1]; show 0 < l2.length * 9; omega
  have := ins_gone hg (hcn2 0 _ (List.getElem?_eq_getElem hp2))
  rwa [hb0] at this
 obtain ⟨tA, kA, hsa, hkA⟩ := ins_shape hc0
 rw [hb0] at hsa
 have hlen : (l0.take i ++ l2 ++ l0.drop i).length = l0.length + l2.length := by
  simp only [List.length_append, List.length_take, List.length_drop]
  omega
 rcases Nat.lt_or_ge cap (l0.length + l2.length) with hroom | hroom
 ·refine (api_Entry_50.grow g cap l0.length i l2.length c2 ad cur inner news w hin hm hnc hroom (by omega) hvw hg hsz htk.symm hnl hcn ga ha).mono ?_
  rintro e w' ⟨G, fin, rfl, hG, hGx, hbw, hnew, hfl, hft⟩
  refine ⟨_, rfl, ⟨fun k hk => ?_, _, ⟨?_, .inr ⟨w.heap.size, G, fin.toArray, ?_, hB.size, hnew, ?_, hGx, ?_, ?_⟩⟩, api_Entry_50.reps hreps hrn i hi⟩, hB.trans ⟨hbw.os, hbw.tape, hbw.output, hbw.size, fun k hk => hbw.block k (Nat.lt_of_lt_of_le hk hB.size)⟩, Kept.of_below hbw _⟩
  ·exact .inr (by have h9 : some w.heap.size = some k := hk; injection h9 with h9; omega)
  ·rw [hlen, ← hft, List.length_take, hfl, show k35.sz = 9 from rfl]; omega
  ·rw [hlen]
  ·rw [hlen]; exact hG
  ·rw [List.size_toArray, hfl]; rfl
  rw [hlen]; exact hft
 refine (api_Entry_50.shift g cap l0.length i l2.length c2 ad cur inner news w hin hm hroom (by unfold maxLen at hcm; omega) hne hg hsz htk.symm hnl hcn ga ha tA kA hsa hkA).mono ?_
 rintro e w' ⟨rfl, fin, rfl, hfl, hft⟩
 refine ⟨_, rfl, ⟨fun k hk => ?_, _, ⟨?_, .inr ⟨g, cap, fin.toArray, ?_, hbase, setRow_heap w.drew g cur _ 35 (0, 0) hg, ?_, hcm, ?_, ?_⟩⟩, api_Entry_50.reps hreps hrn i hi⟩, ins_below hB.drew hbase _, ⟨by rw [size_setRow]; exact Nat.le_refl _, fun k _ hk => ins_other w.drew g _ k (fun e => hk (by rw [e]; exact hPg))⟩⟩
 ·exact .inl (hok k hk)
 ·rw [hlen, ← hft, List.length_take, hfl, show k35.sz = 9 from rfl]; omega
 ·rw [hlen]
 ·rw [hlen]; exact hroom
 ·rw [List.size_toArray, hfl]; rfl
 rw [hlen]; exact hft

/-! ### api_Entry_51: function 51 -/
def api_Entry_51.f (l0 : List (S35)) : Option (List (S35)) := if l0.length < 1599289640401 then (some l0) else (none)
set_option maxHeartbeats 8000000 in
set_option maxRecDepth 100000 in
theorem api_Entry_51.calls (A0 : Option Addr) (c0 : Nat) (l0 : List (S35)) (r : List (S35)) (w : World) (hr0 : Kd.C k35 w A0 l0.length l0) (hc0 : l0.length ≤ c0) (h : api_Entry_51.f l0 = some r) :
  Calls Tryd.prog 51 #[.slice A0 l0.length c0] w fun e w' => ∃ va : Value, e = .returned (va) ∧ Kd.R k35 35 w' w.heap.size (fun _ => True) va r ∧ Below w.heap.size w w' := by
 have H : (if l0.length < 1599289640401 then (some l0) else (none)) = some r := h
 clear h
 by_cases c1 : l0.length < 1599289640401
 rotate_left
 ·rw [if_neg c1] at H
  cases H
 rw [if_pos c1] at H
 obtain rfl := Option.some.inj H
 have sa := aM_ c1
 clear c1
 cases A0 with
 | none =>
  have hz : l0.length = 0 := by
   by_cases hz : 0 < l0.length
   ·obtain ⟨_, h1, _⟩ := hr0.2.2 hz
    cases h1
   omega
  obtain rfl : l0 = [] := List.eq_nil_of_length_eq_zero hz
  clear hr0 hc0 hz sa H
  have hn := fun w : World => Lib.run_eql_slice_nil (P := Tryd.prog) w 22 35 none 0 c0 0 0 Tryd.underlying22
  go_enter Tryd.func51, Tryd.ntmps51
  go_wp2
  go_ret
  exact ⟨_, rfl, Kd.R_nil _ _ _ _ _, by repeat (first | (with_reducible first | exact Below.refl _ _ | apply bA_ | apply bN_ | apply bD_))⟩
 | some ad =>
  have Oa := aM_ hr0
  have Wa := aM_ hc0
  clear hr0 hc0 H
  have HB := aM_ (Below.refl w.heap.size w)
  have hn := fun w : World => Lib.run_eql_slice_nil (P := Tryd.prog) w 22 35 (some ad) l0.length c0 0 0 Tryd.underlying22
  obtain ⟨la, hy170⟩ : ∃ y_ : List (S35), y_ = (([] : List (S35))) := ⟨_, rfl⟩
  have Ny170 := aM_ hy170
  clear hy170
  have ta : l0 = la ++ l0 := by rw [Ny170.out]; rfl
  have Ny173 := aM_ ta
  clear ta
  go_enter Tryd.func51, Tryd.ntmps51
  go_wp2_with (first | ((with_reducible refine gate_dst (N := 5) rfl ?_); refine Kd.R_lit k35 _ 35 ?hg (N := 5) ?hd (xs := ([] : List (S35))) (inner := []) (ok := fun _ => True) (okp := fun _ => True) ?hr ?hp (fun _ hk => hk) trivial (Below.refl _ _) (Nat.le_refl _) (by simp) ?_; (case hd => rfl); (case hg => rfl); (case hr => first | (go_simp; done) | (go_simp; rfl)); (case hp => exact (Reps.none _ _)); intro Ia w5 ka hb hg_ hnew_; clear hg_ hnew_; (first | rw [← Ny170.out] at ka | (simp only [Int.reduceToNat] at ka; rw [← Ny170.out] at ka)); have na := aM_ (Kd.R_lower ka (below_size (bk_ HB.out))); replace HB := aM_ (below_step (bk_ HB.out) hb); clear hb ka) | ((with_reducible refine gate_builtin (b := .append) (xs := #[.tmp 5, .tmp 6]) rfl ?_); at_builtin; refine Kd.R_append_rows k35 (w0 := w) w.heap.size rfl (.tmp 5) (.tmp 6) 22 35 (.agg #[(.string ⟨#[]⟩), (.string ⟨#[]⟩), (.int .u64 0), (.int .i64 0), (.int .i64 0), (.int .i64 0), (.int .i64 0), (.int .i64 0), (.int .i64 0)]) 88 rfl Tryd.underlying22 info35 rfl (by decide) (by omega) Ia la l0 _ _ _ (fun _ => True) (fun _ => False) rfl rfl ?aO ?aR (fun _ _ h => h) (fun _ h => h.elim) ?aF ?aB ?aS ?aL ?_; (case aR => exact cC_ Oa.out HB.out); (case aB => exact (bk_ HB.out)); (case aF => exact (fun _ _ => trivial)); (case aO => exact (bk_ na.out)); (case aS => exact (below_size (bk_ HB.out))); (case aL => have h1_ := sa.out; have h2_ : la.length = 0 := (by rw [Ny170.out]; rfl); omega); intro Va w7 ho hb hg hat; rw [← Ny173.out] at ho; replace HB := aM_ (hb); have oa := aM_ (ho); clear na; clear ho hb hg hat; obtain ⟨Xa, Ya, Pa⟩ := Kd.R_slice oa.out; subst Pa))
  go_ret
  exact ⟨_, by first | rfl | (simp; done) | (simp [*]; done), by refine bk_ ?_; exact oa.out, hB_⟩

end Go.Proofs.YthfdfoigoomaoaaDoor.PDb
