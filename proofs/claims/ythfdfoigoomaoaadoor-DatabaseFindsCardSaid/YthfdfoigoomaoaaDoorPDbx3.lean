/- The walks of functions of the translation: each call returns what the plain function beside it says. -/
import Derived.Test.YthfdfoigoomaoaaDoorPDbx0
import Derived.Test.YthfdfoigoomaoaaDoorPDbx2
namespace Go.Proofs.YthfdfoigoomaoaaDoor.PDb
open Go.RowKit Go.Proofs.YthfdfoigoomaoaaDoorW.PrintWords Go.Proofs.YthfdfoigoomaoaaDoorW.PrintLast Go.Proofs.YthfdfoigoomaoaaDoorW.PrintMore Go.Proofs.YthfdfoigoomaoaaDoor.Aid
attribute [local go_sem] max2_int min2_int max_two min_two max_three min_three max_four min_four aid_str_gtr aid_str_leq   -- for this text's walks alone
set_option linter.unusedVariables false
set_option linter.unusedSimpArgs false

/-! ### api_Entry_50: function 50 -/
def api_Entry_50.f (l0 : List (S35)) (a1 : Int) (l2 : List (S35)) : Option ((List (S35))) := if 0 ≤ a1 then (if a1 ≤ (l0.length : Int) then (if (l2.length : Int) = 0 then (some l0) else (if a1 = (l0.length : Int) then (if l0.length + l2.length < 1599289640401 then (some (l0 ++ l2)) else (none)) else (none))) else (none)) else (none)
set_option maxHeartbeats 8000000 in
set_option maxRecDepth 100000 in
theorem api_Entry_50.calls (P0_ : Nat → Prop) (u9000_ : Value) (l0 : List (S35)) (a1 : Int) (A2 : Option Addr) (c2 : Nat) (l2 : List (S35)) (r : List (S35)) (w0 w : World) (hB : Below w0.heap.size w0 w) (ho0 : Kd.R k35 35 w w0.heap.size P0_ u9000_ l0) (hr2 : ∀ W_, Kept w W_ (fun k_ => P0_ k_) → Kd.C k35 W_ A2 l2.length l2) (hc2 : l2.length ≤ c2) (h : api_Entry_50.f l0 a1 l2 = some r) :
  Calls Tryd.prog 50 #[u9000_, .int .i64 a1, .slice A2 l2.length c2] w fun e w' => ∃ v0_ : Value, e = .returned (v0_) ∧ Kd.R k35 35 w' w0.heap.size (fun k_ => (P0_ k_ ∨ w.heap.size ≤ k_)) v0_ r ∧ Below w0.heap.size w0 w' ∧ Kept w w' (fun k_ => P0_ k_) := by
 have HO0 := Aside0.mk (show Kd.R k35 35 w w0.heap.size (fun k_ => (P0_ k_ ∨ w.heap.size ≤ k_)) u9000_ l0 from Kd.R_mono ho0 (fun k_ hk => (.inl hk)))
 have HR2 := Aside0.mk hr2
 have HC2 := Aside0.mk hc2
 clear hr2 hc2
 have HK := Aside0.mk (Kept.refl w (fun k_ => P0_ k_))
 have HW0 := Aside0.mk hB.size
 have HB := Aside0.mk hB
 clear hB
 have H : (if 0 ≤ a1 then (if a1 ≤ (l0.length : Int) then (if (l2.length : Int) = 0 then (some l0) else (if a1 = (l0.length : Int) then (if l0.length + l2.length < 1599289640401 then (some (l0 ++ l2)) else (none)) else (none))) else (none)) else (none)) = some r := h
 clear h
 by_cases c4 : 0 ≤ a1
 ·rw [if_pos c4] at H
  have c4b0 := eq_true c4
  have c4b1 : decide (0 ≤ a1) = true := decide_eq_true c4
  clear c4
  by_cases c5 : a1 ≤ (l0.length : Int)
  ·rw [if_pos c5] at H
   have c5b0 := eq_true c5
   have c5b1 : decide (a1 ≤ (l0.length : Int)) = true := decide_eq_true c5
   clear c5
   obtain ⟨y128, hy128⟩ : ∃ y_ : List (S35), y_ = (l0.drop (a1 : Int).toNat) := ⟨_, rfl⟩
   replace H : (if (l2.length : Int) = 0 then (some l0) else (if a1 = (l0.length : Int) then (if l0.length + l2.length < 1599289640401 then (some (l0 ++ l2)) else (none)) else (none))) = some r := by first | (rw [hy128]; with_reducible exact H) | (have H2_ := (Option.bind_some _ _).symm.trans H; rw [hy128]; with_reducible exact H2_) | (have H2_ := (Option.bind_some _ _).symm.trans H; with_reducible exact H2_) | with_reducible exact H | (rw [hy128]; exact H) | exact H
   have Ny128 := Aside0.mk hy128
   clear hy128
   by_cases c6 : (l2.length : Int) = 0
   ·rw [if_pos c6] at H
    have c6b0 : ((l2.length : Int) == 0) = true := beq_iff_eq.mpr c6
    have c6b1 : ((l2.length : Int) != 0) = false := bne_eq_false_iff_eq.mpr c6
    clear c6
    obtain rfl := Option.some.inj H
    obtain ⟨Ao8, co8, eo8⟩ := Kd.R_slice HO0.out
    subst eo8
    have q7 : (a1 : Int) ≤ ((l0.length : Int) : Int) := of_decide_eq_true (by first | (with_reducible assumption) | assumption)
    obtain ⟨i07, hi07, _, hsz7, _⟩ := info_parts info35
    have hroom7 : l0.length ≤ co8 := (Kd.R_reads' HO0.out).2.1
    have hC7 : Kd.C k35 _ Ao8 l0.length l0 := (Kd.R_reads' HO0.out).2.2
    have q07 : (0 : Int) ≤ (a1 : Int) := of_decide_eq_true (by first | (with_reducible assumption) | assumption)
    have hcut7 := cut_from (P := Tryd.prog) 22 35 .i64 Tryd.underlying22 hi07 9 hsz7 Ao8 l0.length co8 a1 q07 q7
    have hr7 := Kd.C_drop (m := (a1 : Int).toNat) (c := co8) hC7 (by omega) hroom7
    obtain ⟨A7, hA7⟩ : ∃ A1, A1 = (if co8 = (a1 : Int).toNat then Ao8 else (Ao8 : Option Addr).map (·.add ((a1 : Int).toNat * 9))) := ⟨_, rfl⟩
    obtain ⟨c7, hc7⟩ : ∃ c1, c1 = co8 - (a1 : Int).toNat := ⟨_, rfl⟩
    have hy7 : y128.length = l0.length - (a1 : Int).toNat := (by rw [Ny128.out, List.length_drop] <;> omega)
    rw [show (l0).drop (a1 : Int).toNat = y128 from Ny128.out.symm] at hr7
    replace hr7 : Kd.C k35 _ A7 y128.length y128 := (by rw [hA7]; exact hr7)
    rw [← hy7, ← hA7, ← hc7] at hcut7
    have HR131 := Aside0.mk hr7
    have HC131 := Aside0.mk (show y128.length ≤ c7 from by rw [hy7, hc7]; exact Nat.sub_le_sub_right hroom7 _)
    clear hr7 hC7 hroom7 hi07 hsz7 hc7
    have KY7 := Aside0.mk hy7
    have KA7 := Aside0.mk hA7
    clear hy7 hA7
    have KL7 := Aside0.mk (show (a1 : Int).toNat ≤ l0.length from by omega)
    replace q7 := eq_true q7
    go_enter Tryd.func50, Tryd.ntmps50
    go_wp2
    repeat (go_quiet (fail); try go_wp2)
    go_ret
    exact ⟨_, by first | rfl | (simp [errW_none, errW_some] <;> rfl) | (simp [*, errW_none, errW_some] <;> rfl), by refine bk_ ?_; exact HO0.out, by repeat (first | (with_reducible first | exact HB.out | apply bA_ | apply bN_ | apply bD_) | exact HB.out), by repeat (first | (with_reducible first | exact HK.out | apply Kept.alloc | apply Kept.drewN | apply Kept.drew) | exact HK.out)⟩
   rw [if_neg c6] at H
   have c6b0 : ((l2.length : Int) == 0) = false := beq_eq_false_iff_ne.mpr c6
   have c6b1 : ((l2.length : Int) != 0) = true := bne_iff_ne.mpr c6
   have c6b2 : ¬ (l2 = []) := fun h_ => c6 (by rw [h_]; rfl)
   by_cases c9 : a1 = (l0.length : Int)
   ·rw [if_pos c9] at H
    have c9b0 : (a1 == (l0.length : Int)) = true := beq_iff_eq.mpr c9
    have c9b1 : (a1 != (l0.length : Int)) = false := bne_eq_false_iff_eq.mpr c9
    clear c9
    by_cases c10 : l0.length + l2.length < 1599289640401
    ·rw [if_pos c10] at H
     have LMc10 := Aside0.mk c10
     clear c10
     obtain ⟨y132, hy132⟩ : ∃ y_ : List (S35), y_ = (l0 ++ l2) := ⟨_, rfl⟩
     replace H : (some y132) = some r := by first | (rw [hy132]; with_reducible exact H) | (have H2_ := (Option.bind_some _ _).symm.trans H; rw [hy132]; with_reducible exact H2_) | (have H2_ := (Option.bind_some _ _).symm.trans H; with_reducible exact H2_) | with_reducible exact H | (rw [hy132]; exact H) | exact H
     have Ny132 := Aside0.mk hy132
     clear hy132
     obtain rfl := Option.some.inj H
     obtain ⟨Ao12, co12, eo12⟩ := Kd.R_slice HO0.out
     subst eo12
     have q11 : (a1 : Int) ≤ ((l0.length : Int) : Int) := of_decide_eq_true (by first | (with_reducible assumption) | assumption)
     obtain ⟨i011, hi011, _, hsz11, _⟩ := info_parts info35
     have hroom11 : l0.length ≤ co12 := (Kd.R_reads' HO0.out).2.1
     have hC11 : Kd.C k35 _ Ao12 l0.length l0 := (Kd.R_reads' HO0.out).2.2
     have q011 : (0 : Int) ≤ (a1 : Int) := of_decide_eq_true (by first | (with_reducible assumption) | assumption)
     have hcut11 := cut_from (P := Tryd.prog) 22 35 .i64 Tryd.underlying22 hi011 9 hsz11 Ao12 l0.length co12 a1 q011 q11
     have hr11 := Kd.C_drop (m := (a1 : Int).toNat) (c := co12) hC11 (by omega) hroom11
     obtain ⟨A11, hA11⟩ : ∃ A1, A1 = (if co12 = (a1 : Int).toNat then Ao12 else (Ao12 : Option Addr).map (·.add ((a1 : Int).toNat * 9))) := ⟨_, rfl⟩
     obtain ⟨c11, hc11⟩ : ∃ c1, c1 = co12 - (a1 : Int).toNat := ⟨_, rfl⟩
     have hy11 : y128.length = l0.length - (a1 : Int).toNat := (by rw [Ny128.out, List.length_drop] <;> omega)
     rw [show (l0).drop (a1 : Int).toNat = y128 from Ny128.out.symm] at hr11
     replace hr11 : Kd.C k35 _ A11 y128.length y128 := (by rw [hA11]; exact hr11)
     rw [← hy11, ← hA11, ← hc11] at hcut11
     have HR131 := Aside0.mk hr11
     have HC131 := Aside0.mk (show y128.length ≤ c11 from by rw [hy11, hc11]; exact Nat.sub_le_sub_right hroom11 _)
     clear hr11 hC11 hroom11 hi011 hsz11 hc11
     have KY11 := Aside0.mk hy11
     have KA11 := Aside0.mk hA11
     clear hy11 hA11
     have KL11 := Aside0.mk (show (a1 : Int).toNat ≤ l0.length from by omega)
     replace q11 := eq_true q11
     go_enter Tryd.func50, Tryd.ntmps50
     go_wp2_with (first | ((with_reducible refine gate_builtin (b := .append) (xs := #[.tmp 23, .tmp 24]) rfl ?_); at_builtin; refine Kd.R_append_rows k35 (w0 := w0) w0.heap.size rfl (.tmp 23) (.tmp 24) 22 35 (.agg #[(.string ⟨#[]⟩), (.string ⟨#[]⟩), (.int .u64 0), (.int .i64 0), (.int .i64 0), (.int .i64 0), (.int .i64 0), (.int .i64 0), (.int .i64 0)]) 88 rfl Tryd.underlying22 info35 rfl (by decide) (by omega) (.slice Ao12 l0.length co12) l0 l2 _ _ _ (fun k_ => (P0_ k_ ∨ w.heap.size ≤ k_)) (fun _ => False) rfl rfl ?aO ?aR (fun _ _ h => h) (fun _ h => h.elim) ?aF ?aB ?aS ?aL ?_; (case aR => exact Kd.C_kept_now HR2.out (by repeat (first | (with_reducible first | exact HK.out | apply Kept.alloc | apply Kept.drewN | apply Kept.drew) | exact HK.out))); (case aB => exact (bk_ HB.out)); (case aF => exact (fun k_ hk => (.inr (Nat.le_trans (by first | exact HK.out.1 | exact (show Kept w _ (fun k_ => P0_ k_) from by repeat (first | (with_reducible first | exact HK.out | apply Kept.alloc | apply Kept.drewN | apply Kept.drew) | exact HK.out)).1) hk)))); (case aO => exact (bk_ HO0.out)); (case aS => exact (below_size (bk_ HB.out))); (case aL => have := LMc10.out; omega); intro v133 w13 ho hb hg hat; rw [← Ny132.out] at ho; have n0_ := Aside0.mk (hb); have n1_ := Aside0.mk (Kept.of_grown (S := (fun k_ => P0_ k_)) hg (by repeat (first | (with_reducible first | exact HK.out | apply Kept.alloc | apply Kept.drewN | apply Kept.drew) | exact HK.out)) (fun k_ e_ => (HO0.out.1 k_ e_))); have n2_ := Aside0.mk (ho); clear HB HK HO0; have HB := n0_; have HK := n1_; have HO134 := n2_; clear n0_ n1_ n2_; clear ho hb hg hat))
     repeat (go_quiet (first | ((with_reducible refine gate_builtin (b := .append) (xs := #[.tmp 23, .tmp 24]) rfl ?_); at_builtin; refine Kd.R_append_rows k35 (w0 := w0) w0.heap.size rfl (.tmp 23) (.tmp 24) 22 35 (.agg #[(.string ⟨#[]⟩), (.string ⟨#[]⟩), (.int .u64 0), (.int .i64 0), (.int .i64 0), (.int .i64 0), (.int .i64 0), (.int .i64 0), (.int .i64 0)]) 88 rfl Tryd.underlying22 info35 rfl (by decide) (by omega) (.slice Ao12 l0.length co12) l0 l2 _ _ _ (fun k_ => (P0_ k_ ∨ w.heap.size ≤ k_)) (fun _ => False) rfl rfl ?aO ?aR (fun _ _ h => h) (fun _ h => h.elim) ?aF ?aB ?aS ?aL ?_; (case aR => exact Kd.C_kept_now HR2.out (by repeat (first | (with_reducible first | exact HK.out | apply Kept.alloc | apply Kept.drewN | apply Kept.drew) | exact HK.out))); (case aB => exact (bk_ HB.out)); (case aF => exact (fun k_ hk => (.inr (Nat.le_trans (by first | exact HK.out.1 | exact (show Kept w _ (fun k_ => P0_ k_) from by repeat (first | (with_reducible first | exact HK.out | apply Kept.alloc | apply Kept.drewN | apply Kept.drew) | exact HK.out)).1) hk)))); (case aO => exact (bk_ HO0.out)); (case aS => exact (below_size (bk_ HB.out))); (case aL => have := LMc10.out; omega); intro v133 w13 ho hb hg hat; rw [← Ny132.out] at ho; have n0_ := Aside0.mk (hb); have n1_ := Aside0.mk (Kept.of_grown (S := (fun k_ => P0_ k_)) hg (by repeat (first | (with_reducible first | exact HK.out | apply Kept.alloc | apply Kept.drewN | apply Kept.drew) | exact HK.out)) (fun k_ e_ => (HO0.out.1 k_ e_))); have n2_ := Aside0.mk (ho); clear HB HK HO0; have HB := n0_; have HK := n1_; have HO134 := n2_; clear n0_ n1_ n2_; clear ho hb hg hat)); try go_wp2_with (first | ((with_reducible refine gate_builtin (b := .append) (xs := #[.tmp 23, .tmp 24]) rfl ?_); at_builtin; refine Kd.R_append_rows k35 (w0 := w0) w0.heap.size rfl (.tmp 23) (.tmp 24) 22 35 (.agg #[(.string ⟨#[]⟩), (.string ⟨#[]⟩), (.int .u64 0), (.int .i64 0), (.int .i64 0), (.int .i64 0), (.int .i64 0), (.int .i64 0), (.int .i64 0)]) 88 rfl Tryd.underlying22 info35 rfl (by decide) (by omega) (.slice Ao12 l0.length co12) l0 l2 _ _ _ (fun k_ => (P0_ k_ ∨ w.heap.size ≤ k_)) (fun _ => False) rfl rfl ?aO ?aR (fun _ _ h => h) (fun _ h => h.elim) ?aF ?aB ?aS ?aL ?_; (case aR => exact Kd.C_kept_now HR2.out (by repeat (first | (with_reducible first | exact HK.out | apply Kept.alloc | apply Kept.drewN | apply Kept.drew) | exact HK.out))); (case aB => exact (bk_ HB.out)); (case aF => exact (fun k_ hk => (.inr (Nat.le_trans (by first | exact HK.out.1 | exact (show Kept w _ (fun k_ => P0_ k_) from by repeat (first | (with_reducible first | exact HK.out | apply Kept.alloc | apply Kept.drewN | apply Kept.drew) | exact HK.out)).1) hk)))); (case aO => exact (bk_ HO0.out)); (case aS => exact (below_size (bk_ HB.out))); (case aL => have := LMc10.out; omega); intro v133 w13 ho hb hg hat; rw [← Ny132.out] at ho; have n0_ := Aside0.mk (hb); have n1_ := Aside0.mk (Kept.of_grown (S := (fun k_ => P0_ k_)) hg (by repeat (first | (with_reducible first | exact HK.out | apply Kept.alloc | apply Kept.drewN | apply Kept.drew) | exact HK.out)) (fun k_ e_ => (HO0.out.1 k_ e_))); have n2_ := Aside0.mk (ho); clear HB HK HO0; have HB := n0_; have HK := n1_; have HO134 := n2_; clear n0_ n1_ n2_; clear ho hb hg hat)))
     go_ret
     exact ⟨_, by first | rfl | (simp [errW_none, errW_some] <;> rfl) | (simp [*, errW_none, errW_some] <;> rfl), by refine bk_ ?_; exact HO134.out, by repeat (first | (with_reducible first | exact HB.out | apply bA_ | apply bN_ | apply bD_) | exact HB.out), by repeat (first | (with_reducible first | exact HK.out | apply Kept.alloc | apply Kept.drewN | apply Kept.drew) | exact HK.out)⟩
    rw [if_neg c10] at H
    exact absurd H (by simp)
   rw [if_neg c9] at H
   exact absurd H (by simp)
  rw [if_neg c5] at H
  exact absurd H (by simp)
 rw [if_neg c4] at H
 exact absurd H (by simp)

/-! ### api_Entry_51: function 51 -/
def api_Entry_51.f (l0 : List (S35)) : Option (List (S35)) := if l0.length < 1599289640401 then (some l0) else (none)
set_option maxHeartbeats 8000000 in
set_option maxRecDepth 100000 in
theorem api_Entry_51.calls (A0 : Option Addr) (c0 : Nat) (l0 : List (S35)) (r : List (S35)) (w : World) (hr0 : Kd.C k35 w A0 l0.length l0) (hc0 : l0.length ≤ c0) (h : api_Entry_51.f l0 = some r) :
  Calls Tryd.prog 51 #[.slice A0 l0.length c0] w fun e w' => ∃ v0_ : Value, e = .returned (v0_) ∧ Kd.R k35 35 w' w.heap.size (fun _ => True) v0_ r ∧ Below w.heap.size w w' := by
 have H : (if l0.length < 1599289640401 then (some l0) else (none)) = some r := h
 clear h
 by_cases c1 : l0.length < 1599289640401
 ·rw [if_pos c1] at H
  obtain rfl := Option.some.inj H
  have LMc3 := Aside0.mk c1
  clear c1
  cases A0 with
  | none =>
   have hz : l0.length = 0 := by
    by_cases hz : 0 < l0.length
    ·obtain ⟨_, h1, _⟩ := hr0.2.2 hz
     cases h1
    omega
   obtain rfl : l0 = [] := List.eq_nil_of_length_eq_zero hz
   clear hr0 hc0 hz LMc3 H
   have hn := fun w : World => Lib.run_eql_slice_nil (P := Tryd.prog) w 22 35 none 0 c0 0 0 Tryd.underlying22
   go_enter Tryd.func51, Tryd.ntmps51
   go_wp2
   go_ret
   exact ⟨_, rfl, Kd.R_nil _ _ _ _ _, by repeat (first | (with_reducible first | exact Below.refl _ _ | apply bA_ | apply bN_ | apply bD_))⟩
  | some ad =>
   have HR0 := Aside0.mk hr0
   have HC0 := Aside0.mk hc0
   clear hr0 hc0 H
   have HB := Aside0.mk (Below.refl w.heap.size w)
   have hn := fun w : World => Lib.run_eql_slice_nil (P := Tryd.prog) w 22 35 (some ad) l0.length c0 0 0 Tryd.underlying22
   obtain ⟨y170, hy170⟩ : ∃ y_ : List (S35), y_ = (([] : List (S35))) := ⟨_, rfl⟩
   have Ny170 := Aside0.mk hy170
   clear hy170
   have e173 : l0 = y170 ++ l0 := by rw [Ny170.out]; rfl
   have Ny173 := Aside0.mk e173
   clear e173
   go_enter Tryd.func51, Tryd.ntmps51
   go_wp2_with (first | ((with_reducible refine gate_dst (N := 5) rfl ?_); refine Kd.R_lit k35 _ 35 ?hg (N := 5) ?hd (xs := ([] : List (S35))) (inner := []) (ok := fun _ => True) (okp := fun _ => True) ?hr ?hp (fun _ hk => hk) trivial (Below.refl _ _) (Nat.le_refl _) (by simp) ?_; (case hd => rfl); (case hg => rfl); (case hr => first | (go_simp; done) | (go_simp; rfl)); (case hp => exact (Reps.none _ _)); intro v171 w5 ho6 hb hg_ hnew_; clear hg_ hnew_; (first | rw [← Ny170.out] at ho6 | (simp only [Int.reduceToNat] at ho6; rw [← Ny170.out] at ho6)); have n0_ := Aside0.mk (Kd.R_lower ho6 (below_size (bk_ HB.out))); have n1_ := Aside0.mk (below_step (bk_ HB.out) hb); clear HB; have HO172 := n0_; have HB := n1_; clear n0_ n1_; clear hb ho6) | ((with_reducible refine gate_builtin (b := .append) (xs := #[.tmp 5, .tmp 6]) rfl ?_); at_builtin; refine Kd.R_append_rows k35 (w0 := w) w.heap.size rfl (.tmp 5) (.tmp 6) 22 35 (.agg #[(.string ⟨#[]⟩), (.string ⟨#[]⟩), (.int .u64 0), (.int .i64 0), (.int .i64 0), (.int .i64 0), (.int .i64 0), (.int .i64 0), (.int .i64 0)]) 88 rfl Tryd.underlying22 info35 rfl (by decide) (by omega) v171 y170 l0 _ _ _ (fun _ => True) (fun _ => False) rfl rfl ?aO ?aR (fun _ _ h => h) (fun _ h => h.elim) ?aF ?aB ?aS ?aL ?_; (case aR => repeat (first | exact (Kd.C_below HR0.out HB.out) | (with_reducible refine Kd.C_alloc ?_ _) | (with_reducible refine Kd.C_drewN ?_ _) | (with_reducible refine Kd.C_drew ?_))); (case aB => exact (bk_ HB.out)); (case aF => exact (fun _ _ => trivial)); (case aO => exact (bk_ HO172.out)); (case aS => exact (below_size (bk_ HB.out))); (case aL => have h1_ := LMc3.out; have h2_ : y170.length = 0 := (by rw [Ny170.out]; rfl); omega); intro v174 w7 ho hb hg hat; rw [← Ny173.out] at ho; have n0_ := Aside0.mk (hb); have n1_ := Aside0.mk (ho); clear HB HO172; have HB := n0_; have HO175 := n1_; clear n0_ n1_; clear ho hb hg hat; obtain ⟨Ao8, co8, eo8⟩ := Kd.R_slice HO175.out; subst eo8))
   go_ret
   exact ⟨_, by first | rfl | (simp; done) | (simp [*]; done), by refine bk_ ?_; exact HO175.out, by repeat (first | (with_reducible first | exact HB.out | apply bA_ | apply bN_ | apply bD_) | exact HB.out)⟩
 rw [if_neg c1] at H
 cases H

/-! ### database_Add: function 25 -/
def database_Add.l0 : Nat → Int → ByteArray → List (S35) → ByteArray → ByteArray → Int → Int → Int → Int → Int → Int → Int → Option (ByteArray × (List (S35)) × Int)
 | 0, _, _, _, _, _, _, _, _, _, _, _, _ => none
 | k + 1, x8, x136000, x136001, x137000, x137001, x137002, x137003, x137004, x137005, x137006, x137007, x137008 => if x8 > 0 then (none) else ((api_Entry_51.f x136001).bind fun t140 => ((api_Entry_50.f t140 x8 (([(⟨x137000, x137001, x137002, x137003, x137004, x137005, x137006, x137007, x137008⟩ : S35)] : List (S35)))).bind fun t146 => (some (x136000, t146, 0))))
def database_Add.f (k : Nat) (a0_0 : ByteArray) (l0_1 : List (S35)) (a1_0 : ByteArray) (a1_1 : ByteArray) (a1_2 : Int) (a1_3 : Int) (a1_4 : Int) (a1_5 : Int) (a1_6 : Int) (a1_7 : Int) (a1_8 : Int) : Option (ByteArray × (List (S35)) × Int) := (database_Check.f k a0_0 l0_1).bind fun t138 => (if t138 = 0 then ((database_CheckEntry.f k a1_0 a1_1 a1_2 a1_3 a1_4 a1_5 a1_6 a1_7 a1_8).bind fun t139 => (if t139 = 0 then (if (l0_1.length : Int) = 60 then (some ((⟨#[]⟩ : ByteArray), ([] : List (S35)), 106)) else (database_Add.l0 k (l0_1.length : Int) a0_0 l0_1 a1_0 a1_1 a1_2 a1_3 a1_4 a1_5 a1_6 a1_7 a1_8)) else (some ((⟨#[]⟩ : ByteArray), ([] : List (S35)), t139)))) else (some ((⟨#[]⟩ : ByteArray), ([] : List (S35)), t138)))
theorem database_Add.mono_l : ∀ k, (∀ y0 y1 y2 y3 y4 y5 y6 y7 y8 y9 y10 y11, LeO (database_Add.l0 k y0 y1 y2 y3 y4 y5 y6 y7 y8 y9 y10 y11) (database_Add.l0 (k + 1) y0 y1 y2 y3 y4 y5 y6 y7 y8 y9 y10 y11))
 | 0 => fun _ _ _ _ _ _ _ _ _ _ _ _ r h => by simp [database_Add.l0] at h
 | k + 1 => by
  have ih0 := database_Add.mono_l k
  intro y0 y1 y2 y3 y4 y5 y6 y7 y8 y9 y10 y11
  unfold database_Add.l0
  repeat' first
  | (with_reducible exact ih0 _ _ _ _ _ _ _ _ _ _ _ _)
  | (with_reducible exact database_Check.mono _ _ _)
  | (with_reducible exact database_CheckEntry.mono _ _ _ _ _ _ _ _ _ _)
  | (with_reducible exact LeO.refl _)
  | (with_reducible exact LeO.none _)
  | (with_reducible refine LeO.ite ?_ ?_)
  | (with_reducible refine LeO.bind ?_ (fun _ => ?_))
  | exact ih0 _ _ _ _ _ _ _ _ _ _ _ _
  | exact database_Check.mono _ _ _
  | exact database_CheckEntry.mono _ _ _ _ _ _ _ _ _ _
  | exact LeO.none _
  | refine LeO.ite ?_ ?_
  | refine LeO.bind ?_ (fun _ => ?_)
theorem database_Add.mono : ∀ a0 a1 a2 a3 a4 a5 a6 a7 a8 a9 a10 k, LeO (database_Add.f k a0 a1 a2 a3 a4 a5 a6 a7 a8 a9 a10) (database_Add.f (k + 1) a0 a1 a2 a3 a4 a5 a6 a7 a8 a9 a10) := by
 intro a0 a1 a2 a3 a4 a5 a6 a7 a8 a9 a10 k
 have ih0 := database_Add.mono_l k
 unfold database_Add.f
 repeat' first
   | (with_reducible exact ih0 _ _ _ _ _ _ _ _ _ _ _ _)
   | (with_reducible exact database_Check.mono _ _ _)
   | (with_reducible exact database_CheckEntry.mono _ _ _ _ _ _ _ _ _ _)
   | (with_reducible exact LeO.refl _)
   | (with_reducible exact LeO.none _)
   | (with_reducible refine LeO.ite ?_ ?_)
   | (with_reducible refine LeO.bind ?_ (fun _ => ?_))
   | exact ih0 _ _ _ _ _ _ _ _ _ _ _ _
   | exact database_Check.mono _ _ _
   | exact database_CheckEntry.mono _ _ _ _ _ _ _ _ _ _
   | exact LeO.none _
   | refine LeO.ite ?_ ?_
   | refine LeO.bind ?_ (fun _ => ?_)
def database_Add.T10 : Bool × List (List Nat × List Nat) := (true,[([], []), ([0], [0]), ([1], [1]), ([2], [2]), ([3, 2], [2, 3]), ([2], [2]), ([5, 2], [2, 5]), ([4, 6, 2], [2, 4, 6]), ([7, 2], [2, 7]), ([2], [2]), ([8, 9, 2, 2], [2, 8, 9]), ([10, 2], [2, 10]), ([2, 11], [2, 11])])
def database_Add.B10 : List Nat := [0, 1, 3, 7, 15, 7, 39, 127, 255, 7, 1023, 2047, 4095]
theorem database_Add.tab10 : rtab .any (opsOf Tryd.f25 10) = database_Add.T10 := by kernel_rfl
theorem database_Add.bits10 : waitsOk database_Add.T10.2 database_Add.B10 = true := by kernel_rfl
def database_Add.T12 : Bool × List (List Nat × List Nat) := (true,[([], []), ([0], [0]), ([1], [1]), ([], []), ([], []), ([4], [4]), ([2, 3, 5, 2], [2, 3, 5]), ([0, 1, 2, 3, 4, 5, 6], []), ([7, 6, 6, 0, 1, 2, 3, 4, 5, 6], [6, 7])])
def database_Add.B12 : List Nat := [0, 1, 3, 0, 0, 16, 63, 127, 255]
theorem database_Add.tab12 : rtab .any (opsOf Tryd.f25 12) = database_Add.T12 := by kernel_rfl
theorem database_Add.bits12 : waitsOk database_Add.T12.2 database_Add.B12 = true := by kernel_rfl
set_option maxHeartbeats 8000000 in
set_option maxRecDepth 100000 in
theorem database_Add.calls (k : Nat) (a0_0 : ByteArray) (A0_1 : Option Addr) (c0_1 : Nat) (l0_1 : List (S35)) (a1_0 : ByteArray) (a1_1 : ByteArray) (a1_2 : Int) (a1_3 : Int) (a1_4 : Int) (a1_5 : Int) (a1_6 : Int) (a1_7 : Int) (a1_8 : Int) (r1 : ByteArray) (r2 : List (S35)) (r3 : Int) (w : World) (hr0_1 : Kd.C k35 w A0_1 l0_1.length l0_1) (hc0_1 : l0_1.length ≤ c0_1) (h : database_Add.f k a0_0 l0_1 a1_0 a1_1 a1_2 a1_3 a1_4 a1_5 a1_6 a1_7 a1_8 = some (r1, r2, r3)) :
  Calls Tryd.prog 25 #[.agg #[.string a0_0, .slice A0_1 l0_1.length c0_1], .agg #[.string a1_0, .string a1_1, .int .u64 a1_2, .int .i64 a1_3, .int .i64 a1_4, .int .i64 a1_5, .int .i64 a1_6, .int .i64 a1_7, .int .i64 a1_8]] w fun e w' => ∃ v1_ : Value, e = .returned (.tuple #[.agg #[.string r1, v1_], .int .i64 r3]) ∧ Kd.R k35 35 w' w.heap.size (fun _ => True) v1_ r2 ∧ Below w.heap.size w w' := by
 have hu24 := Tryd.underlying24
 have hu35 := Tryd.underlying35
 have HR0_1 := Aside0.mk hr0_1
 have HC0_1 := Aside0.mk hc0_1
 clear hr0_1 hc0_1
 have HB := Aside0.mk (Below.refl w.heap.size w)
 have H : ((database_Check.f k a0_0 l0_1).bind fun t138 => (if t138 = 0 then ((database_CheckEntry.f k a1_0 a1_1 a1_2 a1_3 a1_4 a1_5 a1_6 a1_7 a1_8).bind fun t139 => (if t139 = 0 then (if (l0_1.length : Int) = 60 then (some ((⟨#[]⟩ : ByteArray), ([] : List (S35)), 106)) else (database_Add.l0 k (l0_1.length : Int) a0_0 l0_1 a1_0 a1_1 a1_2 a1_3 a1_4 a1_5 a1_6 a1_7 a1_8)) else (some ((⟨#[]⟩ : ByteArray), ([] : List (S35)), t139)))) else (some ((⟨#[]⟩ : ByteArray), ([] : List (S35)), t138)))) = some (r1, r2, r3) := h
 clear h
 replace H := Option.bind_eq_some_iff.mp H
 obtain ⟨t138, A30, H⟩ := H
 replace H : (if t138 = 0 then ((database_CheckEntry.f k a1_0 a1_1 a1_2 a1_3 a1_4 a1_5 a1_6 a1_7 a1_8).bind fun t139 => (if t139 = 0 then (if (l0_1.length : Int) = 60 then (some ((⟨#[]⟩ : ByteArray), ([] : List (S35)), 106)) else (database_Add.l0 k (l0_1.length : Int) a0_0 l0_1 a1_0 a1_1 a1_2 a1_3 a1_4 a1_5 a1_6 a1_7 a1_8)) else (some ((⟨#[]⟩ : ByteArray), ([] : List (S35)), t139)))) else (some ((⟨#[]⟩ : ByteArray), ([] : List (S35)), t138))) = some (r1, r2, r3) := H
 have A3 := Aside0.mk A30
 clear A30
 by_cases c4 : t138 = 0
 ·rw [if_pos c4] at H
  have c4b0 : (t138 == 0) = true := beq_iff_eq.mpr c4
  have c4b1 : (t138 != 0) = false := bne_eq_false_iff_eq.mpr c4
  clear c4
  replace H := Option.bind_eq_some_iff.mp H
  obtain ⟨t139, A50, H⟩ := H
  replace H : (if t139 = 0 then (if (l0_1.length : Int) = 60 then (some ((⟨#[]⟩ : ByteArray), ([] : List (S35)), 106)) else (database_Add.l0 k (l0_1.length : Int) a0_0 l0_1 a1_0 a1_1 a1_2 a1_3 a1_4 a1_5 a1_6 a1_7 a1_8)) else (some ((⟨#[]⟩ : ByteArray), ([] : List (S35)), t139))) = some (r1, r2, r3) := H
  have A5 := Aside0.mk A50
  clear A50
  by_cases c6 : t139 = 0
  ·rw [if_pos c6] at H
   have c6b0 : (t139 == 0) = true := beq_iff_eq.mpr c6
   have c6b1 : (t139 != 0) = false := bne_eq_false_iff_eq.mpr c6
   clear c6
   by_cases c7 : (l0_1.length : Int) = 60
   ·rw [if_pos c7] at H
    have c7b0 : ((l0_1.length : Int) == 60) = true := beq_iff_eq.mpr c7
    have c7b1 : ((l0_1.length : Int) != 60) = false := bne_eq_false_iff_eq.mpr c7
    clear c7
    simp only [Option.some.injEq, Prod.mk.injEq] at H
    obtain ⟨rfl, rfl, rfl⟩ := H
    go_enter Tryd.func25, Tryd.ntmps25
    go_wp2_with (first | ((with_reducible refine gate_dst (N := 2) rfl ?_); refine box_event ?hg (N := 2) ?hd (cs := #[.string a0_0, .slice A0_1 l0_1.length c0_1]) (t := 24) ?hr ?_; (case hd => rfl); (case hg => rfl); (case hr => first | (go_simp; done) | (go_simp; rfl)); intro gb135 hg w8 hbox hb; have n0_ := Aside0.mk (below_step (bk_ HB.out) hb); have n1_ := Aside0.mk (hbox); have n2_ := Aside0.mk ((by rw [hg]; exact (below_size (bk_ HB.out)) : w.heap.size ≤ gb135)); have n3_ := Aside0.mk ((by rw [hg]; exact (below_size (bk_ HB.out)) : w.heap.size ≤ gb135)); clear HB; have HB := n0_; have BK135 := n1_; have GW135 := n2_; have GE135 := n3_; clear n0_ n1_ n2_ n3_; clear hb hbox hg) | ((with_reducible refine gate_dst (N := 3) rfl ?_); refine box_event ?hg (N := 3) ?hd (cs := #[.string a1_0, .string a1_1, .int .u64 a1_2, .int .i64 a1_3, .int .i64 a1_4, .int .i64 a1_5, .int .i64 a1_6, .int .i64 a1_7, .int .i64 a1_8]) (t := 35) ?hr ?_; (case hd => rfl); (case hg => rfl); (case hr => first | (go_simp; done) | (go_simp; rfl)); intro gb136 hg w9 hbox hb; have n0_ := Aside0.mk (blk_below (g := gb135) (o := .cells #[.string a0_0, .slice A0_1 l0_1.length c0_1] 24 (0, 0)) (bk_ BK135.out) hb); have n1_ := Aside0.mk (below_step (by repeat (first | (with_reducible first | exact HB.out | apply bA_ | apply bN_ | apply bD_ | refine bS_ ?_ GE135.out) | exact HB.out)) hb); have n2_ := Aside0.mk (hbox); have n3_ := Aside0.mk ((by rw [hg]; exact (below_size (by repeat (first | (with_reducible first | exact HB.out | apply bA_ | apply bN_ | apply bD_ | refine bS_ ?_ GE135.out) | exact HB.out))) : w.heap.size ≤ gb136)); have n4_ := Aside0.mk ((by rw [hg]; exact (below_size (by repeat (first | (with_reducible first | exact HB.out | apply bA_ | apply bN_ | apply bD_ | refine bS_ ?_ GE135.out) | exact HB.out))) : w.heap.size ≤ gb136)); have n5_ := Aside0.mk ((by rw [hg]; exact Nat.ne_of_lt (blk_lt (g := gb135) (o := .cells #[.string a0_0, .slice A0_1 l0_1.length c0_1] 24 (0, 0)) (bk_ BK135.out)) : gb135 ≠ gb136)); have n6_ := Aside0.mk ((by rw [hg]; exact Nat.ne_of_gt (blk_lt (g := gb135) (o := .cells #[.string a0_0, .slice A0_1 l0_1.length c0_1] 24 (0, 0)) (bk_ BK135.out)) : gb136 ≠ gb135)); clear BK135 HB; have BK135 := n0_; have HB := n1_; have BK136 := n2_; have GW136 := n3_; have GE136 := n4_; have NB135_136 := n5_; have NB136_135 := n6_; clear n0_ n1_ n2_ n3_ n4_ n5_ n6_; clear hb hbox hg) | ((with_reducible refine gate_dst (N := 4) rfl ?_); refine box_event ?hg (N := 4) ?hd (cs := #[.string (⟨#[]⟩ : ByteArray), .slice none 0 0]) (t := 24) ?hr ?_; (case hd => rfl); (case hg => rfl); (case hr => first | (go_simp; done) | (go_simp; rfl)); intro gb137 hg w10 hbox hb; have n0_ := Aside0.mk (blk_below (g := gb135) (o := .cells #[.string a0_0, .slice A0_1 l0_1.length c0_1] 24 (0, 0)) (bk_ BK135.out) hb); have n1_ := Aside0.mk (blk_below (g := gb136) (o := .cells #[.string a1_0, .string a1_1, .int .u64 a1_2, .int .i64 a1_3, .int .i64 a1_4, .int .i64 a1_5, .int .i64 a1_6, .int .i64 a1_7, .int .i64 a1_8] 35 (0, 0)) (bk_ BK136.out) hb); have n2_ := Aside0.mk (below_step (by repeat (first | (with_reducible first | exact HB.out | apply bA_ | apply bN_ | apply bD_ | refine bS_ ?_ GE135.out | refine bS_ ?_ GE136.out) | exact HB.out)) hb); have n3_ := Aside0.mk (hbox); have n4_ := Aside0.mk ((by rw [hg]; exact (below_size (by repeat (first | (with_reducible first | exact HB.out | apply bA_ | apply bN_ | apply bD_ | refine bS_ ?_ GE135.out | refine bS_ ?_ GE136.out) | exact HB.out))) : w.heap.size ≤ gb137)); have n5_ := Aside0.mk ((by rw [hg]; exact (below_size (by repeat (first | (with_reducible first | exact HB.out | apply bA_ | apply bN_ | apply bD_ | refine bS_ ?_ GE135.out | refine bS_ ?_ GE136.out) | exact HB.out))) : w.heap.size ≤ gb137)); have n6_ := Aside0.mk ((by rw [hg]; exact Nat.ne_of_lt (blk_lt (g := gb135) (o := .cells #[.string a0_0, .slice A0_1 l0_1.length c0_1] 24 (0, 0)) (bk_ BK135.out)) : gb135 ≠ gb137)); have n7_ := Aside0.mk ((by rw [hg]; exact Nat.ne_of_gt (blk_lt (g := gb135) (o := .cells #[.string a0_0, .slice A0_1 l0_1.length c0_1] 24 (0, 0)) (bk_ BK135.out)) : gb137 ≠ gb135)); have n8_ := Aside0.mk ((by rw [hg]; exact Nat.ne_of_lt (blk_lt (g := gb136) (o := .cells #[.string a1_0, .string a1_1, .int .u64 a1_2, .int .i64 a1_3, .int .i64 a1_4, .int .i64 a1_5, .int .i64 a1_6, .int .i64 a1_7, .int .i64 a1_8] 35 (0, 0)) (bk_ BK136.out)) : gb136 ≠ gb137)); have n9_ := Aside0.mk ((by rw [hg]; exact Nat.ne_of_gt (blk_lt (g := gb136) (o := .cells #[.string a1_0, .string a1_1, .int .u64 a1_2, .int .i64 a1_3, .int .i64 a1_4, .int .i64 a1_5, .int .i64 a1_6, .int .i64 a1_7, .int .i64 a1_8] 35 (0, 0)) (bk_ BK136.out)) : gb137 ≠ gb136)); clear BK135 BK136 HB; have BK135 := n0_; have BK136 := n1_; have HB := n2_; have BK137 := n3_; have GW137 := n4_; have GE137 := n5_; have NB135_137 := n6_; have NB137_135 := n7_; have NB136_137 := n8_; have NB137_136 := n9_; clear n0_ n1_ n2_ n3_ n4_ n5_ n6_ n7_ n8_ n9_; clear hb hbox hg; have hnb11 := NB135_136.out; have hnc11 := NB136_135.out; have hnb12 := NB135_137.out; have hnc12 := NB137_135.out; have hcz13_0 : w10.cell? ⟨gb135, 0, none⟩ = some (.string a0_0) := (blk_cell BK135.out 0).trans rfl; have hcz13_1 : w10.cell? ⟨gb135, 1, none⟩ = some (.slice A0_1 l0_1.length c0_1) := (blk_cell BK135.out 1).trans rfl; have hfz13_0 := blk_frozen BK135.out 0; have hfz13_1 := blk_frozen BK135.out 1) | ((with_reducible refine gate_callee (f := 10) rfl ?_); refine goesL_ (some 10) rfl rfl Tryd.func10 (by kernel_rfl) rfl #[.agg #[.string a0_0, .slice A0_1 l0_1.length c0_1]] rfl (by (try simp only [List.map_toArray, List.map_cons, List.map_nil]); first | done | rfl | (simp only [List.length_drop, List.length_take]; rfl)) ?_; (with_reducible refine (database_Check.calls k a0_0 _ _ l0_1 t138 _ ?side1 ?side2 A3.out).mono ?_); (case side1 => repeat (first | exact (Kd.C_below HR0_1.out HB.out) | (with_reducible refine Kd.C_alloc ?_ _) | (with_reducible refine Kd.C_drewN ?_ _) | (with_reducible refine Kd.C_drew ?_))); (case side2 => exact HC0_1.out); rintro e w14 ⟨rfl, hb⟩; refine ⟨_, rfl, ?_⟩; have n0_ := Aside0.mk (blk_below (g := gb135) (o := .cells #[.string a0_0, .slice A0_1 l0_1.length c0_1] 24 (0, 0)) (bk_ BK135.out) hb); have n1_ := Aside0.mk (blk_below (g := gb136) (o := .cells #[.string a1_0, .string a1_1, .int .u64 a1_2, .int .i64 a1_3, .int .i64 a1_4, .int .i64 a1_5, .int .i64 a1_6, .int .i64 a1_7, .int .i64 a1_8] 35 (0, 0)) (bk_ BK136.out) hb); have n2_ := Aside0.mk (blk_below (g := gb137) (o := .cells #[.string (⟨#[]⟩ : ByteArray), .slice none 0 0] 24 (0, 0)) (bk_ BK137.out) hb); have n3_ := Aside0.mk (below_step (by repeat (first | (with_reducible first | exact HB.out | apply bA_ | apply bN_ | apply bD_ | refine bS_ ?_ GE135.out | refine bS_ ?_ GE136.out | refine bS_ ?_ GE137.out) | exact HB.out)) hb); clear BK135 BK136 BK137 HB; have BK135 := n0_; have BK136 := n1_; have BK137 := n2_; have HB := n3_; clear n0_ n1_ n2_ n3_; (try clear hb); (try clear hb2); (try clear hk); (try clear hi); have hnb15 := NB136_137.out; have hnc15 := NB137_136.out; have hcz16_0 : w14.cell? ⟨gb136, 0, none⟩ = some (.string a1_0) := (blk_cell BK136.out 0).trans rfl; have hcz16_1 : w14.cell? ⟨gb136, 1, none⟩ = some (.string a1_1) := (blk_cell BK136.out 1).trans rfl; have hcz16_2 : w14.cell? ⟨gb136, 2, none⟩ = some (.int .u64 a1_2) := (blk_cell BK136.out 2).trans rfl; have hcz16_3 : w14.cell? ⟨gb136, 3, none⟩ = some (.int .i64 a1_3) := (blk_cell BK136.out 3).trans rfl; have hcz16_4 : w14.cell? ⟨gb136, 4, none⟩ = some (.int .i64 a1_4) := (blk_cell BK136.out 4).trans rfl; have hcz16_5 : w14.cell? ⟨gb136, 5, none⟩ = some (.int .i64 a1_5) := (blk_cell BK136.out 5).trans rfl; have hcz16_6 : w14.cell? ⟨gb136, 6, none⟩ = some (.int .i64 a1_6) := (blk_cell BK136.out 6).trans rfl; have hcz16_7 : w14.cell? ⟨gb136, 7, none⟩ = some (.int .i64 a1_7) := (blk_cell BK136.out 7).trans rfl; have hcz16_8 : w14.cell? ⟨gb136, 8, none⟩ = some (.int .i64 a1_8) := (blk_cell BK136.out 8).trans rfl; have hfz16_0 := blk_frozen BK136.out 0; have hfz16_1 := blk_frozen BK136.out 1; have hfz16_2 := blk_frozen BK136.out 2; have hfz16_3 := blk_frozen BK136.out 3; have hfz16_4 := blk_frozen BK136.out 4; have hfz16_5 := blk_frozen BK136.out 5; have hfz16_6 := blk_frozen BK136.out 6; have hfz16_7 := blk_frozen BK136.out 7; have hfz16_8 := blk_frozen BK136.out 8) | ((with_reducible refine gate_callee (f := 14) rfl ?_); refine goesL_ (some 16) rfl rfl Tryd.func14 (by kernel_rfl) rfl #[.agg #[.string a1_0, .string a1_1, .int .u64 a1_2, .int .i64 a1_3, .int .i64 a1_4, .int .i64 a1_5, .int .i64 a1_6, .int .i64 a1_7, .int .i64 a1_8]] rfl (by (try simp only [List.map_toArray, List.map_cons, List.map_nil]); first | done | rfl | (simp only [List.length_drop, List.length_take]; rfl)) ?_; (with_reducible refine (database_CheckEntry.calls k a1_0 a1_1 a1_2 a1_3 a1_4 a1_5 a1_6 a1_7 a1_8 t139 _ A5.out).mono ?_); rintro e w17 ⟨rfl, hb⟩; refine ⟨_, rfl, ?_⟩; have n0_ := Aside0.mk (blk_below (g := gb135) (o := .cells #[.string a0_0, .slice A0_1 l0_1.length c0_1] 24 (0, 0)) (bk_ BK135.out) hb); have n1_ := Aside0.mk (blk_below (g := gb136) (o := .cells #[.string a1_0, .string a1_1, .int .u64 a1_2, .int .i64 a1_3, .int .i64 a1_4, .int .i64 a1_5, .int .i64 a1_6, .int .i64 a1_7, .int .i64 a1_8] 35 (0, 0)) (bk_ BK136.out) hb); have n2_ := Aside0.mk (blk_below (g := gb137) (o := .cells #[.string (⟨#[]⟩ : ByteArray), .slice none 0 0] 24 (0, 0)) (bk_ BK137.out) hb); have n3_ := Aside0.mk (below_step (by repeat (first | (with_reducible first | exact HB.out | apply bA_ | apply bN_ | apply bD_ | refine bS_ ?_ GE135.out | refine bS_ ?_ GE136.out | refine bS_ ?_ GE137.out) | exact HB.out)) hb); clear BK135 BK136 BK137 HB; have BK135 := n0_; have BK136 := n1_; have BK137 := n2_; have HB := n3_; clear n0_ n1_ n2_ n3_; (try clear hb); (try clear hb2); (try clear hk); (try clear hi); have hcz18_0 : w17.cell? ⟨gb135, 0, none⟩ = some (.string a0_0) := (blk_cell BK135.out 0).trans rfl; have hcz18_1 : w17.cell? ⟨gb135, 1, none⟩ = some (.slice A0_1 l0_1.length c0_1) := (blk_cell BK135.out 1).trans rfl; have hfz18_0 := blk_frozen BK135.out 0; have hfz18_1 := blk_frozen BK135.out 1; have hcz19_0 : w17.cell? ⟨gb137, 0, none⟩ = some (.string (⟨#[]⟩ : ByteArray)) := (blk_cell BK137.out 0).trans rfl; have hcz19_1 : w17.cell? ⟨gb137, 1, none⟩ = some (.slice none 0 0) := (blk_cell BK137.out 1).trans rfl; have hfz19_0 := blk_frozen BK137.out 0; have hfz19_1 := blk_frozen BK137.out 1))
    refine bodyPost_ret (results_ct rfl _ _ gb137 24 #[.string (⟨#[]⟩ : ByteArray), .slice none 0 0] (0, 0) _ rfl (by refine bk_ ?_; refine blk_put (cs := #[.string (⟨#[]⟩ : ByteArray), .slice none 0 0]) ?_ 1 _ rfl; refine bk_ ?_; refine blk_put (cs := #[.string (⟨#[]⟩ : ByteArray), .slice none 0 0]) ?_ 0 _ rfl; refine bk_ ?_; exact BK137.out) Tryd.underlying24 rfl (by kernel_rfl)) rfl ?_
    exact ⟨_, by first | rfl | (simp [errW_none, errW_some] <;> rfl) | (simp [*, errW_none, errW_some] <;> rfl), by first | exact Kd.R_nil _ _ _ _ _ | exact Kd.N_nil _ _ _ _ _ | exact Kd.V_nil _ _ _ _ _ | exact Kd.Q_nil _ _ _ _ _ | exact Kd.S_nil _ _ _ _ _, by repeat (first | (with_reducible first | exact HB.out | apply bA_ | apply bN_ | apply bD_ | refine bS_ ?_ GE135.out | refine bS_ ?_ GE136.out | refine bS_ ?_ GE137.out) | exact HB.out)⟩
   rw [if_neg c7] at H
   have c7b0 : ((l0_1.length : Int) == 60) = false := beq_eq_false_iff_ne.mpr c7
   have c7b1 : ((l0_1.length : Int) != 60) = true := bne_iff_ne.mpr c7
   have H' := Aside0.mk H
   clear H
   go_enter Tryd.func25, Tryd.ntmps25
   go_wp2_with (first | ((with_reducible refine gate_dst (N := 2) rfl ?_); refine box_event ?hg (N := 2) ?hd (cs := #[.string a0_0, .slice A0_1 l0_1.length c0_1]) (t := 24) ?hr ?_; (case hd => rfl); (case hg => rfl); (case hr => first | (go_simp; done) | (go_simp; rfl)); intro gb135 hg w20 hbox hb; have n0_ := Aside0.mk (below_step (bk_ HB.out) hb); have n1_ := Aside0.mk (hbox); have n2_ := Aside0.mk ((by rw [hg]; exact (below_size (bk_ HB.out)) : w.heap.size ≤ gb135)); have n3_ := Aside0.mk ((by rw [hg]; exact (below_size (bk_ HB.out)) : w.heap.size ≤ gb135)); clear HB; have HB := n0_; have BK135 := n1_; have GW135 := n2_; have GE135 := n3_; clear n0_ n1_ n2_ n3_; clear hb hbox hg) | ((with_reducible refine gate_dst (N := 3) rfl ?_); refine box_event ?hg (N := 3) ?hd (cs := #[.string a1_0, .string a1_1, .int .u64 a1_2, .int .i64 a1_3, .int .i64 a1_4, .int .i64 a1_5, .int .i64 a1_6, .int .i64 a1_7, .int .i64 a1_8]) (t := 35) ?hr ?_; (case hd => rfl); (case hg => rfl); (case hr => first | (go_simp; done) | (go_simp; rfl)); intro gb136 hg w21 hbox hb; have n0_ := Aside0.mk (blk_below (g := gb135) (o := .cells #[.string a0_0, .slice A0_1 l0_1.length c0_1] 24 (0, 0)) (bk_ BK135.out) hb); have n1_ := Aside0.mk (below_step (by repeat (first | (with_reducible first | exact HB.out | apply bA_ | apply bN_ | apply bD_ | refine bS_ ?_ GE135.out) | exact HB.out)) hb); have n2_ := Aside0.mk (hbox); have n3_ := Aside0.mk ((by rw [hg]; exact (below_size (by repeat (first | (with_reducible first | exact HB.out | apply bA_ | apply bN_ | apply bD_ | refine bS_ ?_ GE135.out) | exact HB.out))) : w.heap.size ≤ gb136)); have n4_ := Aside0.mk ((by rw [hg]; exact (below_size (by repeat (first | (with_reducible first | exact HB.out | apply bA_ | apply bN_ | apply bD_ | refine bS_ ?_ GE135.out) | exact HB.out))) : w.heap.size ≤ gb136)); have n5_ := Aside0.mk ((by rw [hg]; exact Nat.ne_of_lt (blk_lt (g := gb135) (o := .cells #[.string a0_0, .slice A0_1 l0_1.length c0_1] 24 (0, 0)) (bk_ BK135.out)) : gb135 ≠ gb136)); have n6_ := Aside0.mk ((by rw [hg]; exact Nat.ne_of_gt (blk_lt (g := gb135) (o := .cells #[.string a0_0, .slice A0_1 l0_1.length c0_1] 24 (0, 0)) (bk_ BK135.out)) : gb136 ≠ gb135)); clear BK135 HB; have BK135 := n0_; have HB := n1_; have BK136 := n2_; have GW136 := n3_; have GE136 := n4_; have NB135_136 := n5_; have NB136_135 := n6_; clear n0_ n1_ n2_ n3_ n4_ n5_ n6_; clear hb hbox hg) | ((with_reducible refine gate_dst (N := 4) rfl ?_); refine box_event ?hg (N := 4) ?hd (cs := #[.string (⟨#[]⟩ : ByteArray), .slice none 0 0]) (t := 24) ?hr ?_; (case hd => rfl); (case hg => rfl); (case hr => first | (go_simp; done) | (go_simp; rfl)); intro gb137 hg w22 hbox hb; have n0_ := Aside0.mk (blk_below (g := gb135) (o := .cells #[.string a0_0, .slice A0_1 l0_1.length c0_1] 24 (0, 0)) (bk_ BK135.out) hb); have n1_ := Aside0.mk (blk_below (g := gb136) (o := .cells #[.string a1_0, .string a1_1, .int .u64 a1_2, .int .i64 a1_3, .int .i64 a1_4, .int .i64 a1_5, .int .i64 a1_6, .int .i64 a1_7, .int .i64 a1_8] 35 (0, 0)) (bk_ BK136.out) hb); have n2_ := Aside0.mk (below_step (by repeat (first | (with_reducible first | exact HB.out | apply bA_ | apply bN_ | apply bD_ | refine bS_ ?_ GE135.out | refine bS_ ?_ GE136.out) | exact HB.out)) hb); have n3_ := Aside0.mk (hbox); have n4_ := Aside0.mk ((by rw [hg]; exact (below_size (by repeat (first | (with_reducible first | exact HB.out | apply bA_ | apply bN_ | apply bD_ | refine bS_ ?_ GE135.out | refine bS_ ?_ GE136.out) | exact HB.out))) : w.heap.size ≤ gb137)); have n5_ := Aside0.mk ((by rw [hg]; exact (below_size (by repeat (first | (with_reducible first | exact HB.out | apply bA_ | apply bN_ | apply bD_ | refine bS_ ?_ GE135.out | refine bS_ ?_ GE136.out) | exact HB.out))) : w.heap.size ≤ gb137)); have n6_ := Aside0.mk ((by rw [hg]; exact Nat.ne_of_lt (blk_lt (g := gb135) (o := .cells #[.string a0_0, .slice A0_1 l0_1.length c0_1] 24 (0, 0)) (bk_ BK135.out)) : gb135 ≠ gb137)); have n7_ := Aside0.mk ((by rw [hg]; exact Nat.ne_of_gt (blk_lt (g := gb135) (o := .cells #[.string a0_0, .slice A0_1 l0_1.length c0_1] 24 (0, 0)) (bk_ BK135.out)) : gb137 ≠ gb135)); have n8_ := Aside0.mk ((by rw [hg]; exact Nat.ne_of_lt (blk_lt (g := gb136) (o := .cells #[.string a1_0, .string a1_1, .int .u64 a1_2, .int .i64 a1_3, .int .i64 a1_4, .int .i64 a1_5, .int .i64 a1_6, .int .i64 a1_7, .int .i64 a1_8] 35 (0, 0)) (bk_ BK136.out)) : gb136 ≠ gb137)); have n9_ := Aside0.mk ((by rw [hg]; exact Nat.ne_of_gt (blk_lt (g := gb136) (o := .cells #[.string a1_0, .string a1_1, .int .u64 a1_2, .int .i64 a1_3, .int .i64 a1_4, .int .i64 a1_5, .int .i64 a1_6, .int .i64 a1_7, .int .i64 a1_8] 35 (0, 0)) (bk_ BK136.out)) : gb137 ≠ gb136)); clear BK135 BK136 HB; have BK135 := n0_; have BK136 := n1_; have HB := n2_; have BK137 := n3_; have GW137 := n4_; have GE137 := n5_; have NB135_137 := n6_; have NB137_135 := n7_; have NB136_137 := n8_; have NB137_136 := n9_; clear n0_ n1_ n2_ n3_ n4_ n5_ n6_ n7_ n8_ n9_; clear hb hbox hg; have hnb23 := NB135_136.out; have hnc23 := NB136_135.out; have hnb24 := NB135_137.out; have hnc24 := NB137_135.out; have hcz25_0 : w22.cell? ⟨gb135, 0, none⟩ = some (.string a0_0) := (blk_cell BK135.out 0).trans rfl; have hcz25_1 : w22.cell? ⟨gb135, 1, none⟩ = some (.slice A0_1 l0_1.length c0_1) := (blk_cell BK135.out 1).trans rfl; have hfz25_0 := blk_frozen BK135.out 0; have hfz25_1 := blk_frozen BK135.out 1) | ((with_reducible refine gate_callee (f := 10) rfl ?_); refine goesL_ (some 10) rfl rfl Tryd.func10 (by kernel_rfl) rfl #[.agg #[.string a0_0, .slice A0_1 l0_1.length c0_1]] rfl (by (try simp only [List.map_toArray, List.map_cons, List.map_nil]); first | done | rfl | (simp only [List.length_drop, List.length_take]; rfl)) ?_; (with_reducible refine (database_Check.calls k a0_0 _ _ l0_1 t138 _ ?side1 ?side2 A3.out).mono ?_); (case side1 => repeat (first | exact (Kd.C_below HR0_1.out HB.out) | (with_reducible refine Kd.C_alloc ?_ _) | (with_reducible refine Kd.C_drewN ?_ _) | (with_reducible refine Kd.C_drew ?_))); (case side2 => exact HC0_1.out); rintro e w26 ⟨rfl, hb⟩; refine ⟨_, rfl, ?_⟩; have n0_ := Aside0.mk (blk_below (g := gb135) (o := .cells #[.string a0_0, .slice A0_1 l0_1.length c0_1] 24 (0, 0)) (bk_ BK135.out) hb); have n1_ := Aside0.mk (blk_below (g := gb136) (o := .cells #[.string a1_0, .string a1_1, .int .u64 a1_2, .int .i64 a1_3, .int .i64 a1_4, .int .i64 a1_5, .int .i64 a1_6, .int .i64 a1_7, .int .i64 a1_8] 35 (0, 0)) (bk_ BK136.out) hb); have n2_ := Aside0.mk (blk_below (g := gb137) (o := .cells #[.string (⟨#[]⟩ : ByteArray), .slice none 0 0] 24 (0, 0)) (bk_ BK137.out) hb); have n3_ := Aside0.mk (below_step (by repeat (first | (with_reducible first | exact HB.out | apply bA_ | apply bN_ | apply bD_ | refine bS_ ?_ GE135.out | refine bS_ ?_ GE136.out | refine bS_ ?_ GE137.out) | exact HB.out)) hb); clear BK135 BK136 BK137 HB; have BK135 := n0_; have BK136 := n1_; have BK137 := n2_; have HB := n3_; clear n0_ n1_ n2_ n3_; (try clear hb); (try clear hb2); (try clear hk); (try clear hi); have hnb27 := NB136_137.out; have hnc27 := NB137_136.out; have hcz28_0 : w26.cell? ⟨gb136, 0, none⟩ = some (.string a1_0) := (blk_cell BK136.out 0).trans rfl; have hcz28_1 : w26.cell? ⟨gb136, 1, none⟩ = some (.string a1_1) := (blk_cell BK136.out 1).trans rfl; have hcz28_2 : w26.cell? ⟨gb136, 2, none⟩ = some (.int .u64 a1_2) := (blk_cell BK136.out 2).trans rfl; have hcz28_3 : w26.cell? ⟨gb136, 3, none⟩ = some (.int .i64 a1_3) := (blk_cell BK136.out 3).trans rfl; have hcz28_4 : w26.cell? ⟨gb136, 4, none⟩ = some (.int .i64 a1_4) := (blk_cell BK136.out 4).trans rfl; have hcz28_5 : w26.cell? ⟨gb136, 5, none⟩ = some (.int .i64 a1_5) := (blk_cell BK136.out 5).trans rfl; have hcz28_6 : w26.cell? ⟨gb136, 6, none⟩ = some (.int .i64 a1_6) := (blk_cell BK136.out 6).trans rfl; have hcz28_7 : w26.cell? ⟨gb136, 7, none⟩ = some (.int .i64 a1_7) := (blk_cell BK136.out 7).trans rfl; have hcz28_8 : w26.cell? ⟨gb136, 8, none⟩ = some (.int .i64 a1_8) := (blk_cell BK136.out 8).trans rfl; have hfz28_0 := blk_frozen BK136.out 0; have hfz28_1 := blk_frozen BK136.out 1; have hfz28_2 := blk_frozen BK136.out 2; have hfz28_3 := blk_frozen BK136.out 3; have hfz28_4 := blk_frozen BK136.out 4; have hfz28_5 := blk_frozen BK136.out 5; have hfz28_6 := blk_frozen BK136.out 6; have hfz28_7 := blk_frozen BK136.out 7; have hfz28_8 := blk_frozen BK136.out 8) | ((with_reducible refine gate_callee (f := 14) rfl ?_); refine goesL_ (some 16) rfl rfl Tryd.func14 (by kernel_rfl) rfl #[.agg #[.string a1_0, .string a1_1, .int .u64 a1_2, .int .i64 a1_3, .int .i64 a1_4, .int .i64 a1_5, .int .i64 a1_6, .int .i64 a1_7, .int .i64 a1_8]] rfl (by (try simp only [List.map_toArray, List.map_cons, List.map_nil]); first | done | rfl | (simp only [List.length_drop, List.length_take]; rfl)) ?_; (with_reducible refine (database_CheckEntry.calls k a1_0 a1_1 a1_2 a1_3 a1_4 a1_5 a1_6 a1_7 a1_8 t139 _ A5.out).mono ?_); rintro e w29 ⟨rfl, hb⟩; refine ⟨_, rfl, ?_⟩; have n0_ := Aside0.mk (blk_below (g := gb135) (o := .cells #[.string a0_0, .slice A0_1 l0_1.length c0_1] 24 (0, 0)) (bk_ BK135.out) hb); have n1_ := Aside0.mk (blk_below (g := gb136) (o := .cells #[.string a1_0, .string a1_1, .int .u64 a1_2, .int .i64 a1_3, .int .i64 a1_4, .int .i64 a1_5, .int .i64 a1_6, .int .i64 a1_7, .int .i64 a1_8] 35 (0, 0)) (bk_ BK136.out) hb); have n2_ := Aside0.mk (blk_below (g := gb137) (o := .cells #[.string (⟨#[]⟩ : ByteArray), .slice none 0 0] 24 (0, 0)) (bk_ BK137.out) hb); have n3_ := Aside0.mk (below_step (by repeat (first | (with_reducible first | exact HB.out | apply bA_ | apply bN_ | apply bD_ | refine bS_ ?_ GE135.out | refine bS_ ?_ GE136.out | refine bS_ ?_ GE137.out) | exact HB.out)) hb); clear BK135 BK136 BK137 HB; have BK135 := n0_; have BK136 := n1_; have BK137 := n2_; have HB := n3_; clear n0_ n1_ n2_ n3_; (try clear hb); (try clear hb2); (try clear hk); (try clear hi); have hcz30_0 : w29.cell? ⟨gb135, 0, none⟩ = some (.string a0_0) := (blk_cell BK135.out 0).trans rfl; have hcz30_1 : w29.cell? ⟨gb135, 1, none⟩ = some (.slice A0_1 l0_1.length c0_1) := (blk_cell BK135.out 1).trans rfl; have hfz30_0 := blk_frozen BK135.out 0; have hfz30_1 := blk_frozen BK135.out 1))
   go_loopg [8] k (fun kq v8 w' => ∃ (x8_1 : Int), v8 = .int .i64 x8_1 ∧ Aside0 (database_Add.l0 kq x8_1 a0_0 l0_1 a1_0 a1_1 a1_2 a1_3 a1_4 a1_5 a1_6 a1_7 a1_8 = some (r1, r2, r3)) ∧ Aside0 (kq ≤ k) ∧ Aside0 (w'.heap[gb135]? = some (.cells #[.string a0_0, (.slice A0_1 l0_1.length c0_1)] 24 (0, 0))) ∧ Aside0 (w'.heap[gb136]? = some (.cells #[.string a1_0, .string a1_1, .int .u64 a1_2, .int .i64 a1_3, .int .i64 a1_4, .int .i64 a1_5, .int .i64 a1_6, .int .i64 a1_7, .int .i64 a1_8] 35 (0, 0))) ∧ Aside0 (w'.heap[gb137]? = some (.cells #[.string (⟨#[]⟩ : ByteArray), (.slice none 0 0)] 24 (0, 0))) ∧ Aside0 (Below w.heap.size w w'))
   case atStart => exact ⟨((l0_1.length : Int)), (by first | rfl | (simp; done) | (simp [*]; done)), H', ⟨Nat.le_refl _⟩, ⟨by refine bk_ ?_; exact BK135.out⟩, ⟨by refine bk_ ?_; exact BK136.out⟩, ⟨by refine bk_ ?_; exact BK137.out⟩, ⟨by repeat (first | (with_reducible first | exact HB.out | apply bA_ | apply bN_ | apply bD_ | refine bS_ ?_ GE135.out | refine bS_ ?_ GE136.out | refine bS_ ?_ GE137.out) | exact HB.out)⟩⟩
   case round =>
    clear H'
    try clear c1
    try clear c2
    try clear p2
    try clear c4
    try clear c4b0
    try clear c4b1
    try clear c6
    try clear c6b0
    try clear c6b1
    try clear c7
    try clear c7b0
    try clear c7b1
    try clear c10
    try clear c11
    try clear c12
    try clear c14
    try clear c15
    try clear c23
    try clear c24
    try clear c25
    try clear c27
    try clear hcz13_0
    try clear hcz13_1
    try clear hcz16_0
    try clear hcz16_1
    try clear hcz16_2
    try clear hcz16_3
    try clear hcz16_4
    try clear hcz16_5
    try clear hcz16_6
    try clear hcz16_7
    try clear hcz16_8
    try clear hcz18_0
    try clear hcz18_1
    try clear hcz19_0
    try clear hcz19_1
    try clear hcz25_0
    try clear hcz25_1
    try clear hcz28_0
    try clear hcz28_1
    try clear hcz28_2
    try clear hcz28_3
    try clear hcz28_4
    try clear hcz28_5
    try clear hcz28_6
    try clear hcz28_7
    try clear hcz28_8
    try clear hcz30_0
    try clear hcz30_1
    try clear hfz13_0
    try clear hfz13_1
    try clear hfz16_0
    try clear hfz16_1
    try clear hfz16_2
    try clear hfz16_3
    try clear hfz16_4
    try clear hfz16_5
    try clear hfz16_6
    try clear hfz16_7
    try clear hfz16_8
    try clear hfz18_0
    try clear hfz18_1
    try clear hfz19_0
    try clear hfz19_1
    try clear hfz25_0
    try clear hfz25_1
    try clear hfz28_0
    try clear hfz28_1
    try clear hfz28_2
    try clear hfz28_3
    try clear hfz28_4
    try clear hfz28_5
    try clear hfz28_6
    try clear hfz28_7
    try clear hfz28_8
    try clear hfz30_0
    try clear hfz30_1
    obtain ⟨x8_1, rfl, HA, HK1, BK135, BK136, BK137, HB⟩ := hrel
    cases gk with
    | zero => exact absurd HA.out (by simp [database_Add.l0])
    | succ k1 =>
     have H := HA.out
     clear HA
     simp only [database_Add.l0] at H
     by_cases c31 : x8_1 > 0
     ·rw [if_pos c31] at H
      have c31b0 : decide (0 < x8_1) = true := decide_eq_true c31
      clear c31
      exact absurd H (by simp)
     rw [if_neg c31] at H
     have c31b0 : decide (0 < x8_1) = false := decide_eq_false c31
     clear c31
     replace H := Option.bind_eq_some_iff.mp H
     obtain ⟨t140, A320, H⟩ := H
     replace H : ((api_Entry_50.f t140 x8_1 (([(⟨a1_0, a1_1, a1_2, a1_3, a1_4, a1_5, a1_6, a1_7, a1_8⟩ : S35)] : List (S35)))).bind fun t146 => (some (a0_0, t146, 0))) = some (r1, r2, r3) := H
     have A32 := Aside0.mk A320
     clear A320
     obtain ⟨y143, hy143⟩ : ∃ y_ : List (S35), y_ = (([(⟨a1_0, a1_1, a1_2, a1_3, a1_4, a1_5, a1_6, a1_7, a1_8⟩ : S35)] : List (S35))) := ⟨_, rfl⟩
     replace H : ((api_Entry_50.f t140 x8_1 y143).bind fun t146 => (some (a0_0, t146, 0))) = some (r1, r2, r3) := by first | (rw [hy143]; with_reducible exact H) | (have H2_ := (Option.bind_some _ _).symm.trans H; rw [hy143]; with_reducible exact H2_) | (have H2_ := (Option.bind_some _ _).symm.trans H; with_reducible exact H2_) | with_reducible exact H | (rw [hy143]; exact H) | exact H
     have Ny143 := Aside0.mk hy143
     clear hy143
     replace H := Option.bind_eq_some_iff.mp H
     obtain ⟨t146, A330, H⟩ := H
     replace H : (some (a0_0, t146, 0)) = some (r1, r2, r3) := H
     have A33 := Aside0.mk A330
     clear A330
     simp only [Option.some.injEq, Prod.mk.injEq] at H
     obtain ⟨rfl, rfl, rfl⟩ := H
     try go_upto_region 10 with fail
     have n0_ := Aside0.mk (blk_drew BK135.out)
     have n1_ := Aside0.mk (blk_drew BK136.out)
     have n2_ := Aside0.mk (blk_drew BK137.out)
     have n3_ := Aside0.mk (bD_ HB.out)
     clear BK135 BK136 BK137 HB
     have BK135 := n0_
     have BK136 := n1_
     have BK137 := n2_
     have HB := n3_
     clear n0_ n1_ n2_ n3_
     refine start_ (n := 13) (S := fun w' => True) (ds := []) #[false,false,false,false,false,false,false,false,false,false,false,false,false] (by kernel_rfl) rfl rfl trivial (fun hHeld => ?_); refine with_tabW database_Add.tab10 database_Add.bits10 (fun HT_ HW_ => ?_)
     generalize wr.drew = w34 at BK135 BK136 BK137 HB hHeld ⊢
     refine pure_ (i := 0) (N := some 29) (v := ?_) (a' := ?_) (bo_ 13 1) rfl rfl (any_of HT_.out (by kernel_rfl)) (fun _ _ _ h => h) (Or.inl ⟨by rfl, ?_⟩) ?_ ?_
     rotate_left; (· intro w'; go_simp; with_reducible rfl)
     rotate_left; (· simp only [Act.put,sA_,sB_,sC_,i64_w,i32_w]; rfl)
     refine pure_ (i := 1) (N := some 30) (v := ?_) (a' := ?_) (bo_ 13 3) rfl rfl (any_of HT_.out (by kernel_rfl)) (fun _ _ _ h => h) (Or.inl ⟨by rfl, ?_⟩) ?_ ?_
     rotate_left; (· intro w'; go_simp; with_reducible rfl)
     rotate_left; (· simp only [Act.put,sA_,sB_,sC_,i64_w,i32_w]; rfl)
     refine pure_ (i := 2) (N := some 31) (v := ?_) (a' := ?_) (bo_ 13 7) rfl rfl (any_of HT_.out (by kernel_rfl)) (fun _ _ _ h => h) (Or.inl ⟨by rfl, ?_⟩) ?_ ?_
     rotate_left; (· intro w'; go_simp; with_reducible rfl)
     rotate_left; (· simp only [Act.put,sA_,sB_,sC_,i64_w,i32_w]; rfl)
     refine pure_ (i := 3) (N := some 32) (v := undef) (a' := ?_) (bo_ 13 15) rfl rfl (any_of HT_.out (by kernel_rfl)) (fun _ _ _ h => h) (Or.inr ⟨by rfl, rfl⟩) ?_ ?_
     rotate_left; (· simp only [Act.put,sA_,sB_,sC_,i64_w,i32_w]; rfl)
     refine pure_ (i := 4) (N := some 33) (v := undef) (a' := ?_) (bo_ 13 31) rfl rfl (any_of HT_.out (by kernel_rfl)) (fun _ _ _ h => h) (Or.inr ⟨by rfl, rfl⟩) ?_ ?_
     rotate_left; (· simp only [Act.put,sA_,sB_,sC_,i64_w,i32_w]; rfl)
     refine pure_ (i := 5) (N := some 34) (v := undef) (a' := ?_) (bo_ 13 63) rfl rfl (any_of HT_.out (by kernel_rfl)) (fun _ _ _ h => h) (Or.inr ⟨by rfl, rfl⟩) ?_ ?_
     rotate_left; (· simp only [Act.put,sA_,sB_,sC_,i64_w,i32_w]; rfl)
     refine pure_ (i := 6) (N := some 35) (v := undef) (a' := ?_) (bo_ 13 127) rfl rfl (any_of HT_.out (by kernel_rfl)) (fun _ _ _ h => h) (Or.inr ⟨by rfl, rfl⟩) ?_ ?_
     rotate_left; (· simp only [Act.put,sA_,sB_,sC_,i64_w,i32_w]; rfl)
     refine pure_ (i := 7) (N := some 36) (v := undef) (a' := ?_) (bo_ 13 255) rfl rfl (any_of HT_.out (by kernel_rfl)) (fun _ _ _ h => h) (Or.inr ⟨by rfl, rfl⟩) ?_ ?_
     rotate_left; (· simp only [Act.put,sA_,sB_,sC_,i64_w,i32_w]; rfl)
     refine pure_ (i := 8) (N := some 37) (v := undef) (a' := ?_) (bo_ 13 511) rfl rfl (any_of HT_.out (by kernel_rfl)) (fun _ _ _ h => h) (Or.inr ⟨by rfl, rfl⟩) ?_ ?_
     rotate_left; (· simp only [Act.put,sA_,sB_,sC_,i64_w,i32_w]; rfl)
     refine pure_ (i := 9) (N := some 38) (v := undef) (a' := ?_) (bo_ 13 1023) rfl rfl (any_of HT_.out (by kernel_rfl)) (fun _ _ _ h => h) (Or.inr ⟨by rfl, rfl⟩) ?_ ?_
     rotate_left; (· simp only [Act.put,sA_,sB_,sC_,i64_w,i32_w]; rfl)
     refine pure_ (i := 10) (N := some 39) (v := undef) (a' := ?_) (bo_ 13 2047) rfl rfl (any_of HT_.out (by kernel_rfl)) (fun _ _ _ h => h) (Or.inr ⟨by rfl, rfl⟩) ?_ ?_
     rotate_left; (· simp only [Act.put,sA_,sB_,sC_,i64_w,i32_w]; rfl)
     refine pure_ (i := 11) (N := some 40) (v := undef) (a' := ?_) (bo_ 13 4095) rfl rfl (any_of HT_.out (by kernel_rfl)) (fun _ _ _ h => h) (Or.inr ⟨by rfl, rfl⟩) ?_ ?_
     rotate_left; (· simp only [Act.put,sA_,sB_,sC_,i64_w,i32_w]; rfl)
     refine pure_ (i := 12) (N := some 41) (v := ?_) (a' := ?_) (bo_ 13 8191) rfl rfl (any_of HT_.out (by kernel_rfl)) (fun _ _ _ h => h) (Or.inl ⟨by rfl, ?_⟩) ?_ ?_
     rotate_left; (· intro w'; go_simp; with_reducible rfl)
     rotate_left; (· simp only [Act.put,sA_,sB_,sC_,i64_w,i32_w]; rfl)
     refine done_ (done_of HT_.out (by kernel_rfl)) ?_
     try go_upto_region 12 with fail
     have n0_ := Aside0.mk (blk_drew BK135.out)
     have n1_ := Aside0.mk (blk_drew BK136.out)
     have n2_ := Aside0.mk (blk_drew BK137.out)
     have n3_ := Aside0.mk (bD_ HB.out)
     clear BK135 BK136 BK137 HB
     have BK135 := n0_
     have BK136 := n1_
     have BK137 := n2_
     have HB := n3_
     clear n0_ n1_ n2_ n3_
     refine start_ (n := 9) (S := fun w' => w'.cell? ⟨gb135, 0, none⟩ = some (.string a0_0) ∧ w'.cell? ⟨gb135, 1, none⟩ = some (.slice A0_1 l0_1.length c0_1) ∧ w'.cell? ⟨gb136, 0, none⟩ = some (.string a1_0) ∧ w'.cell? ⟨gb136, 1, none⟩ = some (.string a1_1) ∧ w'.cell? ⟨gb136, 2, none⟩ = some (.int .u64 a1_2) ∧ w'.cell? ⟨gb136, 3, none⟩ = some (.int .i64 a1_3) ∧ w'.cell? ⟨gb136, 4, none⟩ = some (.int .i64 a1_4) ∧ w'.cell? ⟨gb136, 5, none⟩ = some (.int .i64 a1_5) ∧ w'.cell? ⟨gb136, 6, none⟩ = some (.int .i64 a1_6) ∧ w'.cell? ⟨gb136, 7, none⟩ = some (.int .i64 a1_7) ∧ w'.cell? ⟨gb136, 8, none⟩ = some (.int .i64 a1_8)) (ds := [8]) #[false,false,false,false,false,false,false,false,false] (by kernel_rfl) rfl rfl ⟨(blk_cell BK135.out 0).trans rfl, (blk_cell BK135.out 1).trans rfl, (blk_cell BK136.out 0).trans rfl, (blk_cell BK136.out 1).trans rfl, (blk_cell BK136.out 2).trans rfl, (blk_cell BK136.out 3).trans rfl, (blk_cell BK136.out 4).trans rfl, (blk_cell BK136.out 5).trans rfl, (blk_cell BK136.out 6).trans rfl, (blk_cell BK136.out 7).trans rfl, (blk_cell BK136.out 8).trans rfl⟩ (fun hHeld => ?_); refine with_tabW database_Add.tab12 database_Add.bits12 (fun HT_ HW_ => ?_)
     generalize w34.drew = w35 at BK135 BK136 BK137 HB hHeld ⊢
     refine pure_ (i := 0) (N := some 44) (v := ?_) (a' := ?_) (bo_ 9 1) rfl rfl (any_of HT_.out (by kernel_rfl)) (fun _ _ _ h => h) (Or.inl ⟨by rfl, ?_⟩) ?_ ?_
     rotate_left; (· intro w'; go_simp; with_reducible rfl)
     rotate_left; (· simp only [Act.put,sA_,sB_,sC_,i64_w,i32_w]; rfl)
     refine pure_ (i := 3) (N := some 47) (v := ?_) (a' := ?_) (bo_ 9 9) rfl rfl (any_of HT_.out (by kernel_rfl)) (fun _ _ _ h => h) (Or.inl ⟨by rfl, ?_⟩) ?_ ?_
     rotate_left; (· intro w'; go_simp; with_reducible rfl)
     rotate_left; (· simp only [Act.put,sA_,sB_,sC_,i64_w,i32_w]; rfl)
     refine take_ (i := 1) (N := some 45) (v := ?_) (a' := ?_) (bo_ 9 11) rfl rfl (take_ofW HT_.out HW_.out (by kernel_rfl)) (fun _ _ _ h => h) (Or.inl ⟨by rfl, ?_⟩) hHeld ?_ ?_
     rotate_left; (· rintro w' ⟨s0, s1, s2, s3, s4, s5, s6, s7, s8, s9, s10⟩; go_simp; with_reducible rfl)
     rotate_left; (· simp only [Act.put,sA_,sB_,sC_,i64_w,i32_w]; rfl)
     refine take_ (i := 4) (N := some 48) (v := ?_) (a' := ?_) (bo_ 9 27) rfl rfl (take_ofW HT_.out HW_.out (by kernel_rfl)) (fun _ _ _ h => h) (Or.inl ⟨by rfl, ?_⟩) hHeld ?_ ?_
     rotate_left; (· rintro w' ⟨s0, s1, s2, s3, s4, s5, s6, s7, s8, s9, s10⟩; go_simp; with_reducible rfl)
     rotate_left; (· simp only [Act.put,sA_,sB_,sC_,i64_w,i32_w]; rfl)
     refine join_ (σ := Value × Value) 3 #[true,true,true,true,true,true,false,false,false] (fun s_ => [(46, s_.1), (49, s_.2)]) (fun s_ w' => (w'.cell? ⟨gb135, 0, none⟩ = some (.string a0_0) ∧ w'.cell? ⟨gb135, 1, none⟩ = some (.slice A0_1 l0_1.length c0_1) ∧ w'.cell? ⟨gb136, 0, none⟩ = some (.string a1_0) ∧ w'.cell? ⟨gb136, 1, none⟩ = some (.string a1_1) ∧ w'.cell? ⟨gb136, 2, none⟩ = some (.int .u64 a1_2) ∧ w'.cell? ⟨gb136, 3, none⟩ = some (.int .i64 a1_3) ∧ w'.cell? ⟨gb136, 4, none⟩ = some (.int .i64 a1_4) ∧ w'.cell? ⟨gb136, 5, none⟩ = some (.int .i64 a1_5) ∧ w'.cell? ⟨gb136, 6, none⟩ = some (.int .i64 a1_6) ∧ w'.cell? ⟨gb136, 7, none⟩ = some (.int .i64 a1_7) ∧ w'.cell? ⟨gb136, 8, none⟩ = some (.int .i64 a1_8)) ∧ (Kd.R k35 35 w' w.heap.size (fun k_ => some k_ ≠ (s_.2 : Value).ownBlock ∧ k_ ≠ gb136) s_.1 t140) ∧ (Kd.R k35 35 w' w.heap.size (fun k_ => some k_ ≠ (s_.1 : Value).ownBlock ∧ k_ ≠ gb136) s_.2 y143) ∧ (w'.heap[gb135]? = some (.cells #[.string a0_0, .slice A0_1 l0_1.length c0_1] 24 (0, 0))) ∧ (w'.heap[gb136]? = some (.cells #[.string a1_0, .string a1_1, .int .u64 a1_2, .int .i64 a1_3, .int .i64 a1_4, .int .i64 a1_5, .int .i64 a1_6, .int .i64 a1_7, .int .i64 a1_8] 35 (0, 0))) ∧ (w'.heap[gb137]? = some (.cells #[.string (⟨#[]⟩ : ByteArray), .slice none 0 0] 24 (0, 0))) ∧ (Below w.heap.size w w')) ?_ ?_
     rotate_left
     ·intro hCont
      refine two_ (i := 2) (j := 5) (Ni := some 46) (Nj := some 49) #[true,true,true,true,true,false,false,false,false] #[true,true,false,true,true,true,false,false,false] rfl rfl rfl rfl (two_of HT_.out (by kernel_rfl)) (by decide) (by decide) (fun K hK => ?_) (fun K hK => ?_)
      ·skip
       refine goes_ Tryd.func51 (by kernel_rfl) rfl #[.slice A0_1 l0_1.length c0_1] (by rfl) rfl rfl (by (try simp only [List.map_toArray, List.map_cons, List.map_nil]); first | done | rfl | (simp only [List.length_drop, List.length_take]; rfl)) ?_
       with_reducible refine (api_Entry_51.calls _ _ l0_1 t140 _ ?side1 ?side2 A32.out).mono ?_
       (case side1 => repeat (first | exact (Kd.C_below HR0_1.out HB.out) | (with_reducible refine Kd.C_alloc ?_ _) | (with_reducible refine Kd.C_drewN ?_ _) | (with_reducible refine Kd.C_drew ?_)))
       (case side2 => exact HC0_1.out)
       rintro e w36 ⟨v141, rfl, ho0, hb⟩
       refine ⟨_, rfl, ?_⟩
       have n0_ := Aside0.mk (Kd.R_lower (Kd.R_newB ho0 (g := gb136) (o := .cells #[.string a1_0, .string a1_1, .int .u64 a1_2, .int .i64 a1_3, .int .i64 a1_4, .int .i64 a1_5, .int .i64 a1_6, .int .i64 a1_7, .int .i64 a1_8] 35 (0, 0)) (bk_ BK136.out)) (below_size (by repeat (first | (with_reducible first | exact HB.out | apply bA_ | apply bN_ | apply bD_ | refine bS_ ?_ GE135.out | refine bS_ ?_ GE136.out | refine bS_ ?_ GE137.out) | exact HB.out))))
       have n1_ := Aside0.mk (blk_below (g := gb135) (o := .cells #[.string a0_0, .slice A0_1 l0_1.length c0_1] 24 (0, 0)) (bk_ BK135.out) hb)
       have n2_ := Aside0.mk (blk_below (g := gb136) (o := .cells #[.string a1_0, .string a1_1, .int .u64 a1_2, .int .i64 a1_3, .int .i64 a1_4, .int .i64 a1_5, .int .i64 a1_6, .int .i64 a1_7, .int .i64 a1_8] 35 (0, 0)) (bk_ BK136.out) hb)
       have n3_ := Aside0.mk (blk_below (g := gb137) (o := .cells #[.string (⟨#[]⟩ : ByteArray), .slice none 0 0] 24 (0, 0)) (bk_ BK137.out) hb)
       have n4_ := Aside0.mk (below_step (by repeat (first | (with_reducible first | exact HB.out | apply bA_ | apply bN_ | apply bD_ | refine bS_ ?_ GE135.out | refine bS_ ?_ GE136.out | refine bS_ ?_ GE137.out) | exact HB.out)) hb)
       clear BK135 BK136 BK137 HB
       have HO142 := n0_
       have BK135 := n1_
       have BK136 := n2_
       have BK137 := n3_
       have HB := n4_
       clear n0_ n1_ n2_ n3_ n4_
       (try clear hb)
       (try clear hb2)
       (try clear hk)
       (try clear hi)
       (try clear ho0)
       refine hK.out _ _ ⟨(blk_cell BK135.out 0).trans rfl, (blk_cell BK135.out 1).trans rfl, (blk_cell BK136.out 0).trans rfl, (blk_cell BK136.out 1).trans rfl, (blk_cell BK136.out 2).trans rfl, (blk_cell BK136.out 3).trans rfl, (blk_cell BK136.out 4).trans rfl, (blk_cell BK136.out 5).trans rfl, (blk_cell BK136.out 6).trans rfl, (blk_cell BK136.out 7).trans rfl, (blk_cell BK136.out 8).trans rfl⟩ (fun hHeld => ?_)
       clear hK K
       refine norm_ (a' := ?_) ?_ ?_
       rotate_left; (· show Act.put _ (some 46) _ = _; simp only [Act.put,sA_,sB_,sC_,i64_w,i32_w]; rfl)
       refine one_ (i := 5) (N := some 49) (bo_ 9 63) rfl rfl (one_of HT_.out (by kernel_rfl)) (by decide) (fun K hK => ?_)
       refine Kd.R_lit_step k35 _ 35 ?hg (N := 49) ?hd (xs := ([(⟨a1_0, a1_1, a1_2, a1_3, a1_4, a1_5, a1_6, a1_7, a1_8⟩ : S35)] : List (S35))) (inner := [.string a1_0, .string a1_1, .int .u64 a1_2, .int .i64 a1_3, .int .i64 a1_4, .int .i64 a1_5, .int .i64 a1_6, .int .i64 a1_7, .int .i64 a1_8]) (ok := fun _ => True) (okp := fun _ => True) ?hr ?hp (fun _ hk => hk) trivial (Below.refl _ _) (Nat.le_refl _) (by simp) ?_; (case hd => rfl); (case hg => rfl); (case hr => first | (go_simp; done) | (go_simp; rfl)); (case hp => exact (Reps.c9 (show Kd.M k35 _ _ _ (⟨a1_0, a1_1, a1_2, a1_3, a1_4, a1_5, a1_6, a1_7, a1_8⟩ : S35) [.string a1_0, .string a1_1, .int .u64 a1_2, .int .i64 a1_3, .int .i64 a1_4, .int .i64 a1_5, .int .i64 a1_6, .int .i64 a1_7, .int .i64 a1_8] from (k35_mkM _ _ _ (⟨a1_0, a1_1, a1_2, a1_3, a1_4, a1_5, a1_6, a1_7, a1_8⟩ : S35) )) (Reps.none _ _)))
       intro v144 w37 ho38 hb hg_ hnew_
       clear hg_ hnew_
       (first | rw [← Ny143.out] at ho38 | (simp only [Int.reduceToNat] at ho38; rw [← Ny143.out] at ho38))
       have n0_ := Aside0.mk (Kd.R_elder' (bk_ HO142.out) (Kd.R_base ho38) hb)
       have n1_ := Aside0.mk (Kd.R_lower (Kd.R_newB (Kd.R_new' ho38 (Kd.R_lt (bk_ HO142.out))) (g := gb136) (o := .cells #[.string a1_0, .string a1_1, .int .u64 a1_2, .int .i64 a1_3, .int .i64 a1_4, .int .i64 a1_5, .int .i64 a1_6, .int .i64 a1_7, .int .i64 a1_8] 35 (0, 0)) (bk_ BK136.out)) (below_size (by repeat (first | (with_reducible first | exact HB.out | apply bA_ | apply bN_ | apply bD_ | refine bS_ ?_ GE135.out | refine bS_ ?_ GE136.out | refine bS_ ?_ GE137.out) | exact HB.out))))
       have n2_ := Aside0.mk (blk_below (g := gb135) (o := .cells #[.string a0_0, .slice A0_1 l0_1.length c0_1] 24 (0, 0)) (bk_ BK135.out) hb)
       have n3_ := Aside0.mk (blk_below (g := gb136) (o := .cells #[.string a1_0, .string a1_1, .int .u64 a1_2, .int .i64 a1_3, .int .i64 a1_4, .int .i64 a1_5, .int .i64 a1_6, .int .i64 a1_7, .int .i64 a1_8] 35 (0, 0)) (bk_ BK136.out) hb)
       have n4_ := Aside0.mk (blk_below (g := gb137) (o := .cells #[.string (⟨#[]⟩ : ByteArray), .slice none 0 0] 24 (0, 0)) (bk_ BK137.out) hb)
       have n5_ := Aside0.mk (below_step (by repeat (first | (with_reducible first | exact HB.out | apply bA_ | apply bN_ | apply bD_ | refine bS_ ?_ GE135.out | refine bS_ ?_ GE136.out | refine bS_ ?_ GE137.out) | exact HB.out)) hb)
       clear HO142 BK135 BK136 BK137 HB
       have HO142 := n0_
       have HO145 := n1_
       have BK135 := n2_
       have BK136 := n3_
       have BK137 := n4_
       have HB := n5_
       clear n0_ n1_ n2_ n3_ n4_ n5_
       clear hb ho38
       refine hK.out _ _ ⟨(blk_cell BK135.out 0).trans rfl, (blk_cell BK135.out 1).trans rfl, (blk_cell BK136.out 0).trans rfl, (blk_cell BK136.out 1).trans rfl, (blk_cell BK136.out 2).trans rfl, (blk_cell BK136.out 3).trans rfl, (blk_cell BK136.out 4).trans rfl, (blk_cell BK136.out 5).trans rfl, (blk_cell BK136.out 6).trans rfl, (blk_cell BK136.out 7).trans rfl, (blk_cell BK136.out 8).trans rfl⟩ (fun hHeld => ?_)
       clear hK K
       refine norm_ (a' := ?_) ?_ ?_
       rotate_left; (· show Act.put _ (some 49) _ = _; simp only [Act.put,sA_,sB_,sC_,i64_w,i32_w]; rfl)
       exact norm_ (by simp only [putAll, Act.put, sA_, sB_, sC_]) (hCont (v141, v144) _ ⟨hHeld, (by refine bk_ ?_; exact Kd.R_mono HO142.out (fun _ hk => ⟨hk.2, hk.1.2⟩)), (by refine bk_ ?_; exact Kd.R_mono HO145.out (fun _ hk => ⟨hk.1.2, hk.2⟩)), (bk_ BK135.out), (bk_ BK136.out), (bk_ BK137.out), (by repeat (first | (with_reducible first | exact HB.out | apply bA_ | apply bN_ | apply bD_ | refine bS_ ?_ GE135.out | refine bS_ ?_ GE136.out | refine bS_ ?_ GE137.out) | exact HB.out))⟩)
      skip
      refine Kd.R_lit_step k35 _ 35 ?hg (N := 49) ?hd (xs := ([(⟨a1_0, a1_1, a1_2, a1_3, a1_4, a1_5, a1_6, a1_7, a1_8⟩ : S35)] : List (S35))) (inner := [.string a1_0, .string a1_1, .int .u64 a1_2, .int .i64 a1_3, .int .i64 a1_4, .int .i64 a1_5, .int .i64 a1_6, .int .i64 a1_7, .int .i64 a1_8]) (ok := fun _ => True) (okp := fun _ => True) ?hr ?hp (fun _ hk => hk) trivial (Below.refl _ _) (Nat.le_refl _) (by simp) ?_; (case hd => rfl); (case hg => rfl); (case hr => first | (go_simp; done) | (go_simp; rfl)); (case hp => exact (Reps.c9 (show Kd.M k35 _ _ _ (⟨a1_0, a1_1, a1_2, a1_3, a1_4, a1_5, a1_6, a1_7, a1_8⟩ : S35) [.string a1_0, .string a1_1, .int .u64 a1_2, .int .i64 a1_3, .int .i64 a1_4, .int .i64 a1_5, .int .i64 a1_6, .int .i64 a1_7, .int .i64 a1_8] from (k35_mkM _ _ _ (⟨a1_0, a1_1, a1_2, a1_3, a1_4, a1_5, a1_6, a1_7, a1_8⟩ : S35) )) (Reps.none _ _)))
      intro v144 w36 ho37 hb hg_ hnew_
      clear hg_ hnew_
      (first | rw [← Ny143.out] at ho37 | (simp only [Int.reduceToNat] at ho37; rw [← Ny143.out] at ho37))
      have n0_ := Aside0.mk (Kd.R_lower (Kd.R_newB ho37 (g := gb136) (o := .cells #[.string a1_0, .string a1_1, .int .u64 a1_2, .int .i64 a1_3, .int .i64 a1_4, .int .i64 a1_5, .int .i64 a1_6, .int .i64 a1_7, .int .i64 a1_8] 35 (0, 0)) (bk_ BK136.out)) (below_size (by repeat (first | (with_reducible first | exact HB.out | apply bA_ | apply bN_ | apply bD_ | refine bS_ ?_ GE135.out | refine bS_ ?_ GE136.out | refine bS_ ?_ GE137.out) | exact HB.out))))
      have n1_ := Aside0.mk (blk_below (g := gb135) (o := .cells #[.string a0_0, .slice A0_1 l0_1.length c0_1] 24 (0, 0)) (bk_ BK135.out) hb)
      have n2_ := Aside0.mk (blk_below (g := gb136) (o := .cells #[.string a1_0, .string a1_1, .int .u64 a1_2, .int .i64 a1_3, .int .i64 a1_4, .int .i64 a1_5, .int .i64 a1_6, .int .i64 a1_7, .int .i64 a1_8] 35 (0, 0)) (bk_ BK136.out) hb)
      have n3_ := Aside0.mk (blk_below (g := gb137) (o := .cells #[.string (⟨#[]⟩ : ByteArray), .slice none 0 0] 24 (0, 0)) (bk_ BK137.out) hb)
      have n4_ := Aside0.mk (below_step (by repeat (first | (with_reducible first | exact HB.out | apply bA_ | apply bN_ | apply bD_ | refine bS_ ?_ GE135.out | refine bS_ ?_ GE136.out | refine bS_ ?_ GE137.out) | exact HB.out)) hb)
      clear BK135 BK136 BK137 HB
      have HO145 := n0_
      have BK135 := n1_
      have BK136 := n2_
      have BK137 := n3_
      have HB := n4_
      clear n0_ n1_ n2_ n3_ n4_
      clear hb ho37
      refine hK.out _ _ ⟨(blk_cell BK135.out 0).trans rfl, (blk_cell BK135.out 1).trans rfl, (blk_cell BK136.out 0).trans rfl, (blk_cell BK136.out 1).trans rfl, (blk_cell BK136.out 2).trans rfl, (blk_cell BK136.out 3).trans rfl, (blk_cell BK136.out 4).trans rfl, (blk_cell BK136.out 5).trans rfl, (blk_cell BK136.out 6).trans rfl, (blk_cell BK136.out 7).trans rfl, (blk_cell BK136.out 8).trans rfl⟩ (fun hHeld => ?_)
      clear hK K
      refine norm_ (a' := ?_) ?_ ?_
      rotate_left; (· show Act.put _ (some 49) _ = _; simp only [Act.put,sA_,sB_,sC_,i64_w,i32_w]; rfl)
      refine one_ (i := 2) (N := some 46) (bo_ 9 63) rfl rfl (one_of HT_.out (by kernel_rfl)) (by decide) (fun K hK => ?_)
      refine goes_ Tryd.func51 (by kernel_rfl) rfl #[.slice A0_1 l0_1.length c0_1] (by rfl) rfl rfl (by (try simp only [List.map_toArray, List.map_cons, List.map_nil]); first | done | rfl | (simp only [List.length_drop, List.length_take]; rfl)) ?_
      with_reducible refine (api_Entry_51.calls _ _ l0_1 t140 _ ?side1 ?side2 A32.out).mono ?_
      (case side1 => repeat (first | exact (Kd.C_below HR0_1.out HB.out) | (with_reducible refine Kd.C_alloc ?_ _) | (with_reducible refine Kd.C_drewN ?_ _) | (with_reducible refine Kd.C_drew ?_)))
      (case side2 => exact HC0_1.out)
      rintro e w38 ⟨v141, rfl, ho0, hb⟩
      refine ⟨_, rfl, ?_⟩
      have n0_ := Aside0.mk (Kd.R_elder' (bk_ HO145.out) (Kd.R_base ho0) hb)
      have n1_ := Aside0.mk (Kd.R_lower (Kd.R_newB (Kd.R_new' ho0 (Kd.R_lt (bk_ HO145.out))) (g := gb136) (o := .cells #[.string a1_0, .string a1_1, .int .u64 a1_2, .int .i64 a1_3, .int .i64 a1_4, .int .i64 a1_5, .int .i64 a1_6, .int .i64 a1_7, .int .i64 a1_8] 35 (0, 0)) (bk_ BK136.out)) (below_size (by repeat (first | (with_reducible first | exact HB.out | apply bA_ | apply bN_ | apply bD_ | refine bS_ ?_ GE135.out | refine bS_ ?_ GE136.out | refine bS_ ?_ GE137.out) | exact HB.out))))
      have n2_ := Aside0.mk (blk_below (g := gb135) (o := .cells #[.string a0_0, .slice A0_1 l0_1.length c0_1] 24 (0, 0)) (bk_ BK135.out) hb)
      have n3_ := Aside0.mk (blk_below (g := gb136) (o := .cells #[.string a1_0, .string a1_1, .int .u64 a1_2, .int .i64 a1_3, .int .i64 a1_4, .int .i64 a1_5, .int .i64 a1_6, .int .i64 a1_7, .int .i64 a1_8] 35 (0, 0)) (bk_ BK136.out) hb)
      have n4_ := Aside0.mk (blk_below (g := gb137) (o := .cells #[.string (⟨#[]⟩ : ByteArray), .slice none 0 0] 24 (0, 0)) (bk_ BK137.out) hb)
      have n5_ := Aside0.mk (below_step (by repeat (first | (with_reducible first | exact HB.out | apply bA_ | apply bN_ | apply bD_ | refine bS_ ?_ GE135.out | refine bS_ ?_ GE136.out | refine bS_ ?_ GE137.out) | exact HB.out)) hb)
      clear HO145 BK135 BK136 BK137 HB
      have HO145 := n0_
      have HO142 := n1_
      have BK135 := n2_
      have BK136 := n3_
      have BK137 := n4_
      have HB := n5_
      clear n0_ n1_ n2_ n3_ n4_ n5_
      (try clear hb)
      (try clear hb2)
      (try clear hk)
      (try clear hi)
      (try clear ho0)
      refine hK.out _ _ ⟨(blk_cell BK135.out 0).trans rfl, (blk_cell BK135.out 1).trans rfl, (blk_cell BK136.out 0).trans rfl, (blk_cell BK136.out 1).trans rfl, (blk_cell BK136.out 2).trans rfl, (blk_cell BK136.out 3).trans rfl, (blk_cell BK136.out 4).trans rfl, (blk_cell BK136.out 5).trans rfl, (blk_cell BK136.out 6).trans rfl, (blk_cell BK136.out 7).trans rfl, (blk_cell BK136.out 8).trans rfl⟩ (fun hHeld => ?_)
      clear hK K
      refine norm_ (a' := ?_) ?_ ?_
      rotate_left; (· show Act.put _ (some 46) _ = _; simp only [Act.put,sA_,sB_,sC_,i64_w,i32_w]; rfl)
      exact norm_ (by simp only [putAll, Act.put, sA_, sB_, sC_]) (hCont (v141, v144) _ ⟨hHeld, (by refine bk_ ?_; exact Kd.R_mono HO142.out (fun _ hk => ⟨hk.1.2, hk.2⟩)), (by refine bk_ ?_; exact Kd.R_mono HO145.out (fun _ hk => ⟨hk.2, hk.1.2⟩)), (bk_ BK135.out), (bk_ BK136.out), (bk_ BK137.out), (by repeat (first | (with_reducible first | exact HB.out | apply bA_ | apply bN_ | apply bD_ | refine bS_ ?_ GE135.out | refine bS_ ?_ GE136.out | refine bS_ ?_ GE137.out) | exact HB.out))⟩)
     rintro ⟨v141, v144⟩ w39 ⟨hS_, h0_, h1_, h2_, h3_, h4_, h5_⟩
     have n0_ : Aside0 (Kd.R k35 35 w39 w.heap.size (fun k_ => some k_ ≠ (v144 : Value).ownBlock ∧ k_ ≠ gb136) v141 t140) := ⟨h0_⟩
     have n1_ : Aside0 (Kd.R k35 35 w39 w.heap.size (fun k_ => some k_ ≠ (v141 : Value).ownBlock ∧ k_ ≠ gb136) v144 y143) := ⟨h1_⟩
     have n2_ : Aside0 (w39.heap[gb135]? = some (.cells #[.string a0_0, .slice A0_1 l0_1.length c0_1] 24 (0, 0))) := ⟨h2_⟩
     have n3_ : Aside0 (w39.heap[gb136]? = some (.cells #[.string a1_0, .string a1_1, .int .u64 a1_2, .int .i64 a1_3, .int .i64 a1_4, .int .i64 a1_5, .int .i64 a1_6, .int .i64 a1_7, .int .i64 a1_8] 35 (0, 0))) := ⟨h3_⟩
     have n4_ : Aside0 (w39.heap[gb137]? = some (.cells #[.string (⟨#[]⟩ : ByteArray), .slice none 0 0] 24 (0, 0))) := ⟨h4_⟩
     have n5_ : Aside0 (Below w.heap.size w w39) := ⟨h5_⟩
     clear BK135 BK136 BK137 HB
     clear h0_ h1_ h2_ h3_ h4_ h5_
     have HO142 := n0_
     have HO145 := n1_
     have BK135 := n2_
     have BK136 := n3_
     have BK137 := n4_
     have HB := n5_
     clear n0_ n1_ n2_ n3_ n4_ n5_
     have hHeld : w39.cell? ⟨gb135, 0, none⟩ = some (.string a0_0) ∧ w39.cell? ⟨gb135, 1, none⟩ = some (.slice A0_1 l0_1.length c0_1) ∧ w39.cell? ⟨gb136, 0, none⟩ = some (.string a1_0) ∧ w39.cell? ⟨gb136, 1, none⟩ = some (.string a1_1) ∧ w39.cell? ⟨gb136, 2, none⟩ = some (.int .u64 a1_2) ∧ w39.cell? ⟨gb136, 3, none⟩ = some (.int .i64 a1_3) ∧ w39.cell? ⟨gb136, 4, none⟩ = some (.int .i64 a1_4) ∧ w39.cell? ⟨gb136, 5, none⟩ = some (.int .i64 a1_5) ∧ w39.cell? ⟨gb136, 6, none⟩ = some (.int .i64 a1_6) ∧ w39.cell? ⟨gb136, 7, none⟩ = some (.int .i64 a1_7) ∧ w39.cell? ⟨gb136, 8, none⟩ = some (.int .i64 a1_8) := hS_
     obtain ⟨Ao40, co40, eo40⟩ := Kd.R_slice HO142.out
     (first | subst eo40 | (injection eo40 with f1_ f2_ f3_; have f4_ := f1_.symm; have f5_ := f3_.symm; clear f1_ f2_ f3_; subst f4_; subst f5_))
     obtain ⟨Ao41, co41, eo41⟩ := Kd.R_slice HO145.out
     (first | subst eo41 | (injection eo41 with f1_ f2_ f3_; have f4_ := f1_.symm; have f5_ := f3_.symm; clear f1_ f2_ f3_; subst f4_; subst f5_))
     refine norm_ (a' := ?_) ?_ ?_
     rotate_left; (· simp only [putAll, Act.put, sA_, sB_, sC_]; rfl)
     refine one_ (i := 6) (N := some 50) (bo_ 9 127) rfl rfl (one_of HT_.out (by kernel_rfl)) (by decide) (fun K hK => ?_)
     refine goes_ Tryd.func50 (by kernel_rfl) rfl #[.slice Ao40 t140.length co40, .int .i64 x8_1, .slice Ao41 y143.length co41] (by rfl) rfl rfl (by (try simp only [List.map_toArray, List.map_cons, List.map_nil]); first | done | rfl | (simp only [List.length_drop, List.length_take]; rfl)) ?_
     with_reducible refine (api_Entry_50.calls (fun k_ => some k_ = (.slice Ao40 t140.length co40 : Value).ownBlock) (.slice Ao40 t140.length co40) t140 x8_1 _ _ y143 t146 w _ ?side1 ?side2 ?side3 ?side4 A33.out).mono ?_
     (case side1 => repeat (first | (with_reducible first | exact HB.out | apply bA_ | apply bN_ | apply bD_ | refine bS_ ?_ GE135.out | refine bS_ ?_ GE136.out | refine bS_ ?_ GE137.out) | exact HB.out))
     (case side2 => exact Kd.R_tight rfl HO142.out)
     (case side3 => exact Kd.C_kept_own (HO145.out) (fun k_ hk_ hs_ => (hk_.1) hs_))
     (case side4 => exact (Kd.R_reads' HO145.out).2.1)
     rintro e w42 ⟨v147, rfl, ho0, hb, hkp⟩
     refine ⟨_, rfl, ?_⟩
     have n0_ := Aside0.mk (blk_kept (bk_ BK135.out) hkp (fun hs_ => (fun e_ => (Kd.R_ne HO142.out BK135.out (by decide)) e_) hs_))
     have n1_ := Aside0.mk (blk_kept (bk_ BK136.out) hkp (fun hs_ => (fun e_ => (Kd.R_away HO142.out (fun _ hk => hk.2)) e_) hs_))
     have n2_ := Aside0.mk (blk_kept (bk_ BK137.out) hkp (fun hs_ => (fun e_ => (Kd.R_ne HO142.out BK137.out (by decide)) e_) hs_))
     have n3_ := Aside0.mk (Kd.R_mono (ok' := fun k_ => k_ ≠ gb136 ∧ some k_ ≠ (v147 : Value).ownBlock) (Kd.R_keptB (HO145.out) hkp (fun k_ hk_ hs_ => (hk_.1) hs_)) (fun k_ hk_ => ⟨hk_.1.2, fun e_ => Or.elim (ho0.1 k_ e_.symm) (fun hs_ => hk_.2.1 hs_) (fun hn_ => Nat.not_le.2 hk_.2.2 hn_)⟩))
     have n4_ := Aside0.mk (Kd.R_mono (ok' := fun k_ => some k_ ≠ (.slice Ao41 y143.length co41 : Value).ownBlock ∧ k_ ≠ gb136) ho0 (fun k_ hk_ => ⟨Or.elim hk_ (fun hs_ => fun e_ => (((HO145.out).1 k_ e_.symm).1) hs_) (fun hn_ => (Kd.fresh' (Kd.R_lt (bk_ HO145.out)) k_ hn_)), Or.elim hk_ (fun hs_ => fun e_ => (Kd.R_away HO142.out (fun _ hk => hk.2)) (by rw [← e_]; exact hs_)) (fun hn_ => (Kd.freshB (g := gb136) (o := .cells #[.string a1_0, .string a1_1, .int .u64 a1_2, .int .i64 a1_3, .int .i64 a1_4, .int .i64 a1_5, .int .i64 a1_6, .int .i64 a1_7, .int .i64 a1_8] 35 (0, 0)) (bk_ BK136.out) k_ hn_))⟩))
     have n5_ := Aside0.mk (hb)
     clear BK135 BK136 BK137 HO145 HB HO142
     have BK135 := n0_
     have BK136 := n1_
     have BK137 := n2_
     have HO145 := n3_
     have HO148 := n4_
     have HB := n5_
     clear n0_ n1_ n2_ n3_ n4_ n5_
     (try clear hb)
     (try clear hkp)
     (try clear ho0)
     obtain ⟨Ao43, co43, eo43⟩ := Kd.R_slice HO148.out
     (first | subst eo43 | (injection eo43 with f1_ f2_ f3_; have f4_ := f1_.symm; have f5_ := f3_.symm; clear f1_ f2_ f3_; subst f4_; subst f5_))
     refine hK.out _ _ ⟨(blk_cell BK135.out 0).trans rfl, (blk_cell BK135.out 1).trans rfl, (blk_cell BK136.out 0).trans rfl, (blk_cell BK136.out 1).trans rfl, (blk_cell BK136.out 2).trans rfl, (blk_cell BK136.out 3).trans rfl, (blk_cell BK136.out 4).trans rfl, (blk_cell BK136.out 5).trans rfl, (blk_cell BK136.out 6).trans rfl, (blk_cell BK136.out 7).trans rfl, (blk_cell BK136.out 8).trans rfl⟩ (fun hHeld => ?_)
     clear hK K
     refine norm_ (a' := ?_) ?_ ?_
     rotate_left; (· show Act.put _ (some 50) _ = _; simp only [Act.put,sA_,sB_,sC_,i64_w,i32_w]; rfl)
     refine pure_ (i := 7) (N := some 51) (v := ?_) (a' := ?_) (bo_ 9 255) rfl rfl (any_of HT_.out (by kernel_rfl)) (fun _ _ _ h => h) (Or.inl ⟨by rfl, ?_⟩) ?_ ?_
     rotate_left; (· intro w'; go_simp; with_reducible rfl)
     rotate_left; (· simp only [Act.put,sA_,sB_,sC_,i64_w,i32_w]; rfl)
     refine last_ (i := 8) (N := none) #[true,true,true,true,true,true,true,true,true] rfl rfl (one_of HT_.out (by kernel_rfl)) (by decide) (fun K hK => ?_)
     have hs44 : w42.cell? ⟨gb135, 1, none⟩ = some (.slice A0_1 l0_1.length c0_1) := (blk_cell BK135.out 1).trans rfl
     have hfs44 := blk_frozen BK135.out 1
     have hns44_1 := NB136_135.out
     have hns44_2 := NB137_135.out
     have hms44_1 := NB135_136.out
     have hms44_2 := NB135_137.out
     refine skip_ (w1 := ?_) (by rfl) rfl ?_ ?_
     rotate_left; (· go_simp; rfl)
     refine hK.out _ _ ?_
     clear hK K
     refine done_ (done_of HT_.out (by kernel_rfl)) ?_
     have hnb45 := NB135_136.out
     have hnc45 := NB136_135.out
     have hnb46 := NB135_137.out
     have hnc46 := NB137_135.out
     have hcz47_0 : w42.cell? ⟨gb135, 0, none⟩ = some (.string a0_0) := (blk_cell BK135.out 0).trans rfl
     have hcz47_1 : w42.cell? ⟨gb135, 1, none⟩ = some (.slice A0_1 l0_1.length c0_1) := (blk_cell BK135.out 1).trans rfl
     have hfz47_0 := blk_frozen BK135.out 0
     have hfz47_1 := blk_frozen BK135.out 1
     have hnb48 := NB137_136.out
     have hnc48 := NB136_137.out
     have hcz49_0 : w42.cell? ⟨gb137, 0, none⟩ = some (.string (⟨#[]⟩ : ByteArray)) := (blk_cell BK137.out 0).trans rfl
     have hcz49_1 : w42.cell? ⟨gb137, 1, none⟩ = some (.slice none 0 0) := (blk_cell BK137.out 1).trans rfl
     have hfz49_0 := blk_frozen BK137.out 0
     have hfz49_1 := blk_frozen BK137.out 1
     try go_wp2
     refine bodyPost_ret (results_ct rfl _ _ gb137 24 #[.string a0_0, .slice Ao43 t146.length co43] (0, 0) _ rfl (by refine bk_ ?_; refine blk_put (cs := #[.string a0_0, .slice none 0 0]) ?_ 1 _ rfl; refine bk_ ?_; refine blk_put (cs := #[.string (⟨#[]⟩ : ByteArray), .slice none 0 0]) ?_ 0 _ rfl; refine bk_ ?_; refine blk_far ?_ NB137_135.out _; refine bk_ ?_; exact BK137.out) Tryd.underlying24 rfl (by kernel_rfl)) rfl ?_
     exact ⟨_, by first | rfl | (simp [errW_none, errW_some] <;> rfl) | (simp [*, errW_none, errW_some] <;> rfl), by refine bk_ ?_; exact Kd.R_mono (Kd.R_far (p := ⟨gb137, 1, none⟩) (Kd.R_far (p := ⟨gb137, 0, none⟩) (Kd.R_far (p := ⟨gb135, 1, none⟩) (Kd.R_types (Kd.R_types HO148.out BK135.out (by decide)) BK137.out (by decide)) (fun _ hk => hk.1.2) (.slice Ao43 t146.length co43)) (fun _ hk => hk.2) (.string a0_0)) (fun _ hk => hk.2) (.slice Ao43 t146.length co43)) (fun _ hk => trivial), by repeat (first | (with_reducible first | exact HB.out | apply bA_ | apply bN_ | apply bD_ | refine bS_ ?_ GE135.out | refine bS_ ?_ GE136.out | refine bS_ ?_ GE137.out) | exact HB.out)⟩
  rw [if_neg c6] at H
  have c6b0 : (t139 == 0) = false := beq_eq_false_iff_ne.mpr c6
  have c6b1 : (t139 != 0) = true := bne_iff_ne.mpr c6
  simp only [Option.some.injEq, Prod.mk.injEq] at H
  obtain ⟨rfl, rfl, rfl⟩ := H
  go_enter Tryd.func25, Tryd.ntmps25
  go_wp2_with (first | ((with_reducible refine gate_dst (N := 2) rfl ?_); refine box_event ?hg (N := 2) ?hd (cs := #[.string a0_0, .slice A0_1 l0_1.length c0_1]) (t := 24) ?hr ?_; (case hd => rfl); (case hg => rfl); (case hr => first | (go_simp; done) | (go_simp; rfl)); intro gb135 hg w50 hbox hb; have n0_ := Aside0.mk (below_step (bk_ HB.out) hb); have n1_ := Aside0.mk (hbox); have n2_ := Aside0.mk ((by rw [hg]; exact (below_size (bk_ HB.out)) : w.heap.size ≤ gb135)); have n3_ := Aside0.mk ((by rw [hg]; exact (below_size (bk_ HB.out)) : w.heap.size ≤ gb135)); clear HB; have HB := n0_; have BK135 := n1_; have GW135 := n2_; have GE135 := n3_; clear n0_ n1_ n2_ n3_; clear hb hbox hg) | ((with_reducible refine gate_dst (N := 3) rfl ?_); refine box_event ?hg (N := 3) ?hd (cs := #[.string a1_0, .string a1_1, .int .u64 a1_2, .int .i64 a1_3, .int .i64 a1_4, .int .i64 a1_5, .int .i64 a1_6, .int .i64 a1_7, .int .i64 a1_8]) (t := 35) ?hr ?_; (case hd => rfl); (case hg => rfl); (case hr => first | (go_simp; done) | (go_simp; rfl)); intro gb136 hg w51 hbox hb; have n0_ := Aside0.mk (blk_below (g := gb135) (o := .cells #[.string a0_0, .slice A0_1 l0_1.length c0_1] 24 (0, 0)) (bk_ BK135.out) hb); have n1_ := Aside0.mk (below_step (by repeat (first | (with_reducible first | exact HB.out | apply bA_ | apply bN_ | apply bD_ | refine bS_ ?_ GE135.out) | exact HB.out)) hb); have n2_ := Aside0.mk (hbox); have n3_ := Aside0.mk ((by rw [hg]; exact (below_size (by repeat (first | (with_reducible first | exact HB.out | apply bA_ | apply bN_ | apply bD_ | refine bS_ ?_ GE135.out) | exact HB.out))) : w.heap.size ≤ gb136)); have n4_ := Aside0.mk ((by rw [hg]; exact (below_size (by repeat (first | (with_reducible first | exact HB.out | apply bA_ | apply bN_ | apply bD_ | refine bS_ ?_ GE135.out) | exact HB.out))) : w.heap.size ≤ gb136)); have n5_ := Aside0.mk ((by rw [hg]; exact Nat.ne_of_lt (blk_lt (g := gb135) (o := .cells #[.string a0_0, .slice A0_1 l0_1.length c0_1] 24 (0, 0)) (bk_ BK135.out)) : gb135 ≠ gb136)); have n6_ := Aside0.mk ((by rw [hg]; exact Nat.ne_of_gt (blk_lt (g := gb135) (o := .cells #[.string a0_0, .slice A0_1 l0_1.length c0_1] 24 (0, 0)) (bk_ BK135.out)) : gb136 ≠ gb135)); clear BK135 HB; have BK135 := n0_; have HB := n1_; have BK136 := n2_; have GW136 := n3_; have GE136 := n4_; have NB135_136 := n5_; have NB136_135 := n6_; clear n0_ n1_ n2_ n3_ n4_ n5_ n6_; clear hb hbox hg) | ((with_reducible refine gate_dst (N := 4) rfl ?_); refine box_event ?hg (N := 4) ?hd (cs := #[.string (⟨#[]⟩ : ByteArray), .slice none 0 0]) (t := 24) ?hr ?_; (case hd => rfl); (case hg => rfl); (case hr => first | (go_simp; done) | (go_simp; rfl)); intro gb137 hg w52 hbox hb; have n0_ := Aside0.mk (blk_below (g := gb135) (o := .cells #[.string a0_0, .slice A0_1 l0_1.length c0_1] 24 (0, 0)) (bk_ BK135.out) hb); have n1_ := Aside0.mk (blk_below (g := gb136) (o := .cells #[.string a1_0, .string a1_1, .int .u64 a1_2, .int .i64 a1_3, .int .i64 a1_4, .int .i64 a1_5, .int .i64 a1_6, .int .i64 a1_7, .int .i64 a1_8] 35 (0, 0)) (bk_ BK136.out) hb); have n2_ := Aside0.mk (below_step (by repeat (first | (with_reducible first | exact HB.out | apply bA_ | apply bN_ | apply bD_ | refine bS_ ?_ GE135.out | refine bS_ ?_ GE136.out) | exact HB.out)) hb); have n3_ := Aside0.mk (hbox); have n4_ := Aside0.mk ((by rw [hg]; exact (below_size (by repeat (first | (with_reducible first | exact HB.out | apply bA_ | apply bN_ | apply bD_ | refine bS_ ?_ GE135.out | refine bS_ ?_ GE136.out) | exact HB.out))) : w.heap.size ≤ gb137)); have n5_ := Aside0.mk ((by rw [hg]; exact (below_size (by repeat (first | (with_reducible first | exact HB.out | apply bA_ | apply bN_ | apply bD_ | refine bS_ ?_ GE135.out | refine bS_ ?_ GE136.out) | exact HB.out))) : w.heap.size ≤ gb137)); have n6_ := Aside0.mk ((by rw [hg]; exact Nat.ne_of_lt (blk_lt (g := gb135) (o := .cells #[.string a0_0, .slice A0_1 l0_1.length c0_1] 24 (0, 0)) (bk_ BK135.out)) : gb135 ≠ gb137)); have n7_ := Aside0.mk ((by rw [hg]; exact Nat.ne_of_gt (blk_lt (g := gb135) (o := .cells #[.string a0_0, .slice A0_1 l0_1.length c0_1] 24 (0, 0)) (bk_ BK135.out)) : gb137 ≠ gb135)); have n8_ := Aside0.mk ((by rw [hg]; exact Nat.ne_of_lt (blk_lt (g := gb136) (o := .cells #[.string a1_0, .string a1_1, .int .u64 a1_2, .int .i64 a1_3, .int .i64 a1_4, .int .i64 a1_5, .int .i64 a1_6, .int .i64 a1_7, .int .i64 a1_8] 35 (0, 0)) (bk_ BK136.out)) : gb136 ≠ gb137)); have n9_ := Aside0.mk ((by rw [hg]; exact Nat.ne_of_gt (blk_lt (g := gb136) (o := .cells #[.string a1_0, .string a1_1, .int .u64 a1_2, .int .i64 a1_3, .int .i64 a1_4, .int .i64 a1_5, .int .i64 a1_6, .int .i64 a1_7, .int .i64 a1_8] 35 (0, 0)) (bk_ BK136.out)) : gb137 ≠ gb136)); clear BK135 BK136 HB; have BK135 := n0_; have BK136 := n1_; have HB := n2_; have BK137 := n3_; have GW137 := n4_; have GE137 := n5_; have NB135_137 := n6_; have NB137_135 := n7_; have NB136_137 := n8_; have NB137_136 := n9_; clear n0_ n1_ n2_ n3_ n4_ n5_ n6_ n7_ n8_ n9_; clear hb hbox hg; have hnb53 := NB135_136.out; have hnc53 := NB136_135.out; have hnb54 := NB135_137.out; have hnc54 := NB137_135.out; have hcz55_0 : w52.cell? ⟨gb135, 0, none⟩ = some (.string a0_0) := (blk_cell BK135.out 0).trans rfl; have hcz55_1 : w52.cell? ⟨gb135, 1, none⟩ = some (.slice A0_1 l0_1.length c0_1) := (blk_cell BK135.out 1).trans rfl; have hfz55_0 := blk_frozen BK135.out 0; have hfz55_1 := blk_frozen BK135.out 1) | ((with_reducible refine gate_callee (f := 10) rfl ?_); refine goesL_ (some 10) rfl rfl Tryd.func10 (by kernel_rfl) rfl #[.agg #[.string a0_0, .slice A0_1 l0_1.length c0_1]] rfl (by (try simp only [List.map_toArray, List.map_cons, List.map_nil]); first | done | rfl | (simp only [List.length_drop, List.length_take]; rfl)) ?_; (with_reducible refine (database_Check.calls k a0_0 _ _ l0_1 t138 _ ?side1 ?side2 A3.out).mono ?_); (case side1 => repeat (first | exact (Kd.C_below HR0_1.out HB.out) | (with_reducible refine Kd.C_alloc ?_ _) | (with_reducible refine Kd.C_drewN ?_ _) | (with_reducible refine Kd.C_drew ?_))); (case side2 => exact HC0_1.out); rintro e w56 ⟨rfl, hb⟩; refine ⟨_, rfl, ?_⟩; have n0_ := Aside0.mk (blk_below (g := gb135) (o := .cells #[.string a0_0, .slice A0_1 l0_1.length c0_1] 24 (0, 0)) (bk_ BK135.out) hb); have n1_ := Aside0.mk (blk_below (g := gb136) (o := .cells #[.string a1_0, .string a1_1, .int .u64 a1_2, .int .i64 a1_3, .int .i64 a1_4, .int .i64 a1_5, .int .i64 a1_6, .int .i64 a1_7, .int .i64 a1_8] 35 (0, 0)) (bk_ BK136.out) hb); have n2_ := Aside0.mk (blk_below (g := gb137) (o := .cells #[.string (⟨#[]⟩ : ByteArray), .slice none 0 0] 24 (0, 0)) (bk_ BK137.out) hb); have n3_ := Aside0.mk (below_step (by repeat (first | (with_reducible first | exact HB.out | apply bA_ | apply bN_ | apply bD_ | refine bS_ ?_ GE135.out | refine bS_ ?_ GE136.out | refine bS_ ?_ GE137.out) | exact HB.out)) hb); clear BK135 BK136 BK137 HB; have BK135 := n0_; have BK136 := n1_; have BK137 := n2_; have HB := n3_; clear n0_ n1_ n2_ n3_; (try clear hb); (try clear hb2); (try clear hk); (try clear hi); have hnb57 := NB136_137.out; have hnc57 := NB137_136.out; have hcz58_0 : w56.cell? ⟨gb136, 0, none⟩ = some (.string a1_0) := (blk_cell BK136.out 0).trans rfl; have hcz58_1 : w56.cell? ⟨gb136, 1, none⟩ = some (.string a1_1) := (blk_cell BK136.out 1).trans rfl; have hcz58_2 : w56.cell? ⟨gb136, 2, none⟩ = some (.int .u64 a1_2) := (blk_cell BK136.out 2).trans rfl; have hcz58_3 : w56.cell? ⟨gb136, 3, none⟩ = some (.int .i64 a1_3) := (blk_cell BK136.out 3).trans rfl; have hcz58_4 : w56.cell? ⟨gb136, 4, none⟩ = some (.int .i64 a1_4) := (blk_cell BK136.out 4).trans rfl; have hcz58_5 : w56.cell? ⟨gb136, 5, none⟩ = some (.int .i64 a1_5) := (blk_cell BK136.out 5).trans rfl; have hcz58_6 : w56.cell? ⟨gb136, 6, none⟩ = some (.int .i64 a1_6) := (blk_cell BK136.out 6).trans rfl; have hcz58_7 : w56.cell? ⟨gb136, 7, none⟩ = some (.int .i64 a1_7) := (blk_cell BK136.out 7).trans rfl; have hcz58_8 : w56.cell? ⟨gb136, 8, none⟩ = some (.int .i64 a1_8) := (blk_cell BK136.out 8).trans rfl; have hfz58_0 := blk_frozen BK136.out 0; have hfz58_1 := blk_frozen BK136.out 1; have hfz58_2 := blk_frozen BK136.out 2; have hfz58_3 := blk_frozen BK136.out 3; have hfz58_4 := blk_frozen BK136.out 4; have hfz58_5 := blk_frozen BK136.out 5; have hfz58_6 := blk_frozen BK136.out 6; have hfz58_7 := blk_frozen BK136.out 7; have hfz58_8 := blk_frozen BK136.out 8) | ((with_reducible refine gate_callee (f := 14) rfl ?_); refine goesL_ (some 16) rfl rfl Tryd.func14 (by kernel_rfl) rfl #[.agg #[.string a1_0, .string a1_1, .int .u64 a1_2, .int .i64 a1_3, .int .i64 a1_4, .int .i64 a1_5, .int .i64 a1_6, .int .i64 a1_7, .int .i64 a1_8]] rfl (by (try simp only [List.map_toArray, List.map_cons, List.map_nil]); first | done | rfl | (simp only [List.length_drop, List.length_take]; rfl)) ?_; (with_reducible refine (database_CheckEntry.calls k a1_0 a1_1 a1_2 a1_3 a1_4 a1_5 a1_6 a1_7 a1_8 t139 _ A5.out).mono ?_); rintro e w59 ⟨rfl, hb⟩; refine ⟨_, rfl, ?_⟩; have n0_ := Aside0.mk (blk_below (g := gb135) (o := .cells #[.string a0_0, .slice A0_1 l0_1.length c0_1] 24 (0, 0)) (bk_ BK135.out) hb); have n1_ := Aside0.mk (blk_below (g := gb136) (o := .cells #[.string a1_0, .string a1_1, .int .u64 a1_2, .int .i64 a1_3, .int .i64 a1_4, .int .i64 a1_5, .int .i64 a1_6, .int .i64 a1_7, .int .i64 a1_8] 35 (0, 0)) (bk_ BK136.out) hb); have n2_ := Aside0.mk (blk_below (g := gb137) (o := .cells #[.string (⟨#[]⟩ : ByteArray), .slice none 0 0] 24 (0, 0)) (bk_ BK137.out) hb); have n3_ := Aside0.mk (below_step (by repeat (first | (with_reducible first | exact HB.out | apply bA_ | apply bN_ | apply bD_ | refine bS_ ?_ GE135.out | refine bS_ ?_ GE136.out | refine bS_ ?_ GE137.out) | exact HB.out)) hb); clear BK135 BK136 BK137 HB; have BK135 := n0_; have BK136 := n1_; have BK137 := n2_; have HB := n3_; clear n0_ n1_ n2_ n3_; (try clear hb); (try clear hb2); (try clear hk); (try clear hi); have hcz60_0 : w59.cell? ⟨gb137, 0, none⟩ = some (.string (⟨#[]⟩ : ByteArray)) := (blk_cell BK137.out 0).trans rfl; have hcz60_1 : w59.cell? ⟨gb137, 1, none⟩ = some (.slice none 0 0) := (blk_cell BK137.out 1).trans rfl; have hfz60_0 := blk_frozen BK137.out 0; have hfz60_1 := blk_frozen BK137.out 1))
  refine bodyPost_ret (results_ct rfl _ _ gb137 24 #[.string (⟨#[]⟩ : ByteArray), .slice none 0 0] (0, 0) _ rfl (by refine bk_ ?_; refine blk_put (cs := #[.string (⟨#[]⟩ : ByteArray), .slice none 0 0]) ?_ 1 _ rfl; refine bk_ ?_; refine blk_put (cs := #[.string (⟨#[]⟩ : ByteArray), .slice none 0 0]) ?_ 0 _ rfl; refine bk_ ?_; exact BK137.out) Tryd.underlying24 rfl (by kernel_rfl)) rfl ?_
  exact ⟨_, by first | rfl | (simp [errW_none, errW_some] <;> rfl) | (simp [*, errW_none, errW_some] <;> rfl), by first | exact Kd.R_nil _ _ _ _ _ | exact Kd.N_nil _ _ _ _ _ | exact Kd.V_nil _ _ _ _ _ | exact Kd.Q_nil _ _ _ _ _ | exact Kd.S_nil _ _ _ _ _, by repeat (first | (with_reducible first | exact HB.out | apply bA_ | apply bN_ | apply bD_ | refine bS_ ?_ GE135.out | refine bS_ ?_ GE136.out | refine bS_ ?_ GE137.out) | exact HB.out)⟩
 rw [if_neg c4] at H
 have c4b0 : (t138 == 0) = false := beq_eq_false_iff_ne.mpr c4
 have c4b1 : (t138 != 0) = true := bne_iff_ne.mpr c4
 simp only [Option.some.injEq, Prod.mk.injEq] at H
 obtain ⟨rfl, rfl, rfl⟩ := H
 go_enter Tryd.func25, Tryd.ntmps25
 go_wp2_with (first | ((with_reducible refine gate_dst (N := 2) rfl ?_); refine box_event ?hg (N := 2) ?hd (cs := #[.string a0_0, .slice A0_1 l0_1.length c0_1]) (t := 24) ?hr ?_; (case hd => rfl); (case hg => rfl); (case hr => first | (go_simp; done) | (go_simp; rfl)); intro gb135 hg w61 hbox hb; have n0_ := Aside0.mk (below_step (bk_ HB.out) hb); have n1_ := Aside0.mk (hbox); have n2_ := Aside0.mk ((by rw [hg]; exact (below_size (bk_ HB.out)) : w.heap.size ≤ gb135)); have n3_ := Aside0.mk ((by rw [hg]; exact (below_size (bk_ HB.out)) : w.heap.size ≤ gb135)); clear HB; have HB := n0_; have BK135 := n1_; have GW135 := n2_; have GE135 := n3_; clear n0_ n1_ n2_ n3_; clear hb hbox hg) | ((with_reducible refine gate_dst (N := 3) rfl ?_); refine box_event ?hg (N := 3) ?hd (cs := #[.string a1_0, .string a1_1, .int .u64 a1_2, .int .i64 a1_3, .int .i64 a1_4, .int .i64 a1_5, .int .i64 a1_6, .int .i64 a1_7, .int .i64 a1_8]) (t := 35) ?hr ?_; (case hd => rfl); (case hg => rfl); (case hr => first | (go_simp; done) | (go_simp; rfl)); intro gb136 hg w62 hbox hb; have n0_ := Aside0.mk (blk_below (g := gb135) (o := .cells #[.string a0_0, .slice A0_1 l0_1.length c0_1] 24 (0, 0)) (bk_ BK135.out) hb); have n1_ := Aside0.mk (below_step (by repeat (first | (with_reducible first | exact HB.out | apply bA_ | apply bN_ | apply bD_ | refine bS_ ?_ GE135.out) | exact HB.out)) hb); have n2_ := Aside0.mk (hbox); have n3_ := Aside0.mk ((by rw [hg]; exact (below_size (by repeat (first | (with_reducible first | exact HB.out | apply bA_ | apply bN_ | apply bD_ | refine bS_ ?_ GE135.out) | exact HB.out))) : w.heap.size ≤ gb136)); have n4_ := Aside0.mk ((by rw [hg]; exact (below_size (by repeat (first | (with_reducible first | exact HB.out | apply bA_ | apply bN_ | apply bD_ | refine bS_ ?_ GE135.out) | exact HB.out))) : w.heap.size ≤ gb136)); have n5_ := Aside0.mk ((by rw [hg]; exact Nat.ne_of_lt (blk_lt (g := gb135) (o := .cells #[.string a0_0, .slice A0_1 l0_1.length c0_1] 24 (0, 0)) (bk_ BK135.out)) : gb135 ≠ gb136)); have n6_ := Aside0.mk ((by rw [hg]; exact Nat.ne_of_gt (blk_lt (g := gb135) (o := .cells #[.string a0_0, .slice A0_1 l0_1.length c0_1] 24 (0, 0)) (bk_ BK135.out)) : gb136 ≠ gb135)); clear BK135 HB; have BK135 := n0_; have HB := n1_; have BK136 := n2_; have GW136 := n3_; have GE136 := n4_; have NB135_136 := n5_; have NB136_135 := n6_; clear n0_ n1_ n2_ n3_ n4_ n5_ n6_; clear hb hbox hg) | ((with_reducible refine gate_dst (N := 4) rfl ?_); refine box_event ?hg (N := 4) ?hd (cs := #[.string (⟨#[]⟩ : ByteArray), .slice none 0 0]) (t := 24) ?hr ?_; (case hd => rfl); (case hg => rfl); (case hr => first | (go_simp; done) | (go_simp; rfl)); intro gb137 hg w63 hbox hb; have n0_ := Aside0.mk (blk_below (g := gb135) (o := .cells #[.string a0_0, .slice A0_1 l0_1.length c0_1] 24 (0, 0)) (bk_ BK135.out) hb); have n1_ := Aside0.mk (blk_below (g := gb136) (o := .cells #[.string a1_0, .string a1_1, .int .u64 a1_2, .int .i64 a1_3, .int .i64 a1_4, .int .i64 a1_5, .int .i64 a1_6, .int .i64 a1_7, .int .i64 a1_8] 35 (0, 0)) (bk_ BK136.out) hb); have n2_ := Aside0.mk (below_step (by repeat (first | (with_reducible first | exact HB.out | apply bA_ | apply bN_ | apply bD_ | refine bS_ ?_ GE135.out | refine bS_ ?_ GE136.out) | exact HB.out)) hb); have n3_ := Aside0.mk (hbox); have n4_ := Aside0.mk ((by rw [hg]; exact (below_size (by repeat (first | (with_reducible first | exact HB.out | apply bA_ | apply bN_ | apply bD_ | refine bS_ ?_ GE135.out | refine bS_ ?_ GE136.out) | exact HB.out))) : w.heap.size ≤ gb137)); have n5_ := Aside0.mk ((by rw [hg]; exact (below_size (by repeat (first | (with_reducible first | exact HB.out | apply bA_ | apply bN_ | apply bD_ | refine bS_ ?_ GE135.out | refine bS_ ?_ GE136.out) | exact HB.out))) : w.heap.size ≤ gb137)); have n6_ := Aside0.mk ((by rw [hg]; exact Nat.ne_of_lt (blk_lt (g := gb135) (o := .cells #[.string a0_0, .slice A0_1 l0_1.length c0_1] 24 (0, 0)) (bk_ BK135.out)) : gb135 ≠ gb137)); have n7_ := Aside0.mk ((by rw [hg]; exact Nat.ne_of_gt (blk_lt (g := gb135) (o := .cells #[.string a0_0, .slice A0_1 l0_1.length c0_1] 24 (0, 0)) (bk_ BK135.out)) : gb137 ≠ gb135)); have n8_ := Aside0.mk ((by rw [hg]; exact Nat.ne_of_lt (blk_lt (g := gb136) (o := .cells #[.string a1_0, .string a1_1, .int .u64 a1_2, .int .i64 a1_3, .int .i64 a1_4, .int .i64 a1_5, .int .i64 a1_6, .int .i64 a1_7, .int .i64 a1_8] 35 (0, 0)) (bk_ BK136.out)) : gb136 ≠ gb137)); have n9_ := Aside0.mk ((by rw [hg]; exact Nat.ne_of_gt (blk_lt (g := gb136) (o := .cells #[.string a1_0, .string a1_1, .int .u64 a1_2, .int .i64 a1_3, .int .i64 a1_4, .int .i64 a1_5, .int .i64 a1_6, .int .i64 a1_7, .int .i64 a1_8] 35 (0, 0)) (bk_ BK136.out)) : gb137 ≠ gb136)); clear BK135 BK136 HB; have BK135 := n0_; have BK136 := n1_; have HB := n2_; have BK137 := n3_; have GW137 := n4_; have GE137 := n5_; have NB135_137 := n6_; have NB137_135 := n7_; have NB136_137 := n8_; have NB137_136 := n9_; clear n0_ n1_ n2_ n3_ n4_ n5_ n6_ n7_ n8_ n9_; clear hb hbox hg; have hnb64 := NB135_136.out; have hnc64 := NB136_135.out; have hnb65 := NB135_137.out; have hnc65 := NB137_135.out; have hcz66_0 : w63.cell? ⟨gb135, 0, none⟩ = some (.string a0_0) := (blk_cell BK135.out 0).trans rfl; have hcz66_1 : w63.cell? ⟨gb135, 1, none⟩ = some (.slice A0_1 l0_1.length c0_1) := (blk_cell BK135.out 1).trans rfl; have hfz66_0 := blk_frozen BK135.out 0; have hfz66_1 := blk_frozen BK135.out 1) | ((with_reducible refine gate_callee (f := 10) rfl ?_); refine goesL_ (some 10) rfl rfl Tryd.func10 (by kernel_rfl) rfl #[.agg #[.string a0_0, .slice A0_1 l0_1.length c0_1]] rfl (by (try simp only [List.map_toArray, List.map_cons, List.map_nil]); first | done | rfl | (simp only [List.length_drop, List.length_take]; rfl)) ?_; (with_reducible refine (database_Check.calls k a0_0 _ _ l0_1 t138 _ ?side1 ?side2 A3.out).mono ?_); (case side1 => repeat (first | exact (Kd.C_below HR0_1.out HB.out) | (with_reducible refine Kd.C_alloc ?_ _) | (with_reducible refine Kd.C_drewN ?_ _) | (with_reducible refine Kd.C_drew ?_))); (case side2 => exact HC0_1.out); rintro e w67 ⟨rfl, hb⟩; refine ⟨_, rfl, ?_⟩; have n0_ := Aside0.mk (blk_below (g := gb135) (o := .cells #[.string a0_0, .slice A0_1 l0_1.length c0_1] 24 (0, 0)) (bk_ BK135.out) hb); have n1_ := Aside0.mk (blk_below (g := gb136) (o := .cells #[.string a1_0, .string a1_1, .int .u64 a1_2, .int .i64 a1_3, .int .i64 a1_4, .int .i64 a1_5, .int .i64 a1_6, .int .i64 a1_7, .int .i64 a1_8] 35 (0, 0)) (bk_ BK136.out) hb); have n2_ := Aside0.mk (blk_below (g := gb137) (o := .cells #[.string (⟨#[]⟩ : ByteArray), .slice none 0 0] 24 (0, 0)) (bk_ BK137.out) hb); have n3_ := Aside0.mk (below_step (by repeat (first | (with_reducible first | exact HB.out | apply bA_ | apply bN_ | apply bD_ | refine bS_ ?_ GE135.out | refine bS_ ?_ GE136.out | refine bS_ ?_ GE137.out) | exact HB.out)) hb); clear BK135 BK136 BK137 HB; have BK135 := n0_; have BK136 := n1_; have BK137 := n2_; have HB := n3_; clear n0_ n1_ n2_ n3_; (try clear hb); (try clear hb2); (try clear hk); (try clear hi); have hnb68 := NB137_136.out; have hnc68 := NB136_137.out; have hcz69_0 : w67.cell? ⟨gb137, 0, none⟩ = some (.string (⟨#[]⟩ : ByteArray)) := (blk_cell BK137.out 0).trans rfl; have hcz69_1 : w67.cell? ⟨gb137, 1, none⟩ = some (.slice none 0 0) := (blk_cell BK137.out 1).trans rfl; have hfz69_0 := blk_frozen BK137.out 0; have hfz69_1 := blk_frozen BK137.out 1))
 refine bodyPost_ret (results_ct rfl _ _ gb137 24 #[.string (⟨#[]⟩ : ByteArray), .slice none 0 0] (0, 0) _ rfl (by refine bk_ ?_; refine blk_put (cs := #[.string (⟨#[]⟩ : ByteArray), .slice none 0 0]) ?_ 1 _ rfl; refine bk_ ?_; refine blk_put (cs := #[.string (⟨#[]⟩ : ByteArray), .slice none 0 0]) ?_ 0 _ rfl; refine bk_ ?_; exact BK137.out) Tryd.underlying24 rfl (by kernel_rfl)) rfl ?_
 exact ⟨_, by first | rfl | (simp [errW_none, errW_some] <;> rfl) | (simp [*, errW_none, errW_some] <;> rfl), by first | exact Kd.R_nil _ _ _ _ _ | exact Kd.N_nil _ _ _ _ _ | exact Kd.V_nil _ _ _ _ _ | exact Kd.Q_nil _ _ _ _ _ | exact Kd.S_nil _ _ _ _ _, by repeat (first | (with_reducible first | exact HB.out | apply bA_ | apply bN_ | apply bD_ | refine bS_ ?_ GE135.out | refine bS_ ?_ GE136.out | refine bS_ ?_ GE137.out) | exact HB.out)⟩

/-! ### database_Dump: function 32 -/
def database_Dump.f (k : Nat) (a0_0 : ByteArray) (l0_1 : List (S35)) : Option (ByteArray × Int) := (database_Check.f k a0_0 l0_1).bind fun t => (if t = 0 then (if l0_1.length = 0 then (if a0_0.size + 1 ≤ 140737488355328 then some (a0_0 ++ (⟨#[10]⟩ : ByteArray), 0) else none) else none) else some ((⟨#[]⟩ : ByteArray), t))
theorem database_Dump.mono : ∀ a0 a1 k, LeO (database_Dump.f k a0 a1) (database_Dump.f (k + 1) a0 a1) := by
 intro a0 a1 k r h
 unfold database_Dump.f at h ⊢
 obtain ⟨t, h1, h2⟩ := Option.bind_eq_some_iff.mp h
 rw [database_Check.mono a0 a1 k _ h1]
 exact h2
set_option maxHeartbeats 8000000 in
set_option maxRecDepth 100000 in
theorem database_Dump.calls (k : Nat) (a0_0 : ByteArray) (A0_1 : Option Addr) (c0_1 : Nat) (l0_1 : List (S35)) (r1 : ByteArray) (r2 : Int) (w : World) (hr0_1 : Kd.C k35 w A0_1 l0_1.length l0_1) (hc0_1 : l0_1.length ≤ c0_1) (h : database_Dump.f k a0_0 l0_1 = some (r1, r2)) :
 Calls Tryd.prog 32 #[.agg #[.string a0_0, .slice A0_1 l0_1.length c0_1]] w fun e w' => e = .returned (.tuple #[.string r1, .int .i64 r2]) ∧ Below w.heap.size w w' := by
 have hu24 := Tryd.underlying24
 have HR0_1 := Aside0.mk hr0_1
 have HC0_1 := Aside0.mk hc0_1
 clear hr0_1 hc0_1
 have HB := Aside0.mk (Below.refl w.heap.size w)
 have H : ((database_Check.f k a0_0 l0_1).bind fun t => (if t = 0 then (if l0_1.length = 0 then (if a0_0.size + 1 ≤ 140737488355328 then some (a0_0 ++ (⟨#[10]⟩ : ByteArray), 0) else none) else none) else some ((⟨#[]⟩ : ByteArray), t))) = some (r1, r2) := h
 clear h
 replace H := Option.bind_eq_some_iff.mp H
 obtain ⟨t156, A30, H⟩ := H
 have A3 := Aside0.mk A30
 clear A30
 by_cases c4 : t156 = 0
 ·rw [if_pos c4] at H
  by_cases c5 : l0_1.length = 0
  ·rw [if_pos c5] at H
   by_cases c6 : a0_0.size + 1 ≤ 140737488355328
   ·rw [if_pos c6] at H
    simp only [Option.some.injEq, Prod.mk.injEq] at H
    obtain ⟨rfl, rfl⟩ := H
    subst c4
    obtain rfl : l0_1 = [] := List.eq_nil_of_length_eq_zero c5
    clear c5
    have HR0 : Aside0 (Kd.C k35 w A0_1 0 []) := ⟨HR0_1.out⟩
    have HC0 : Aside0 (0 ≤ c0_1) := ⟨Nat.zero_le _⟩
    clear HR0_1 HC0_1
    show Calls Tryd.prog 32 #[.agg #[.string a0_0, .slice A0_1 0 c0_1]] w fun e w' => e = .returned (.tuple #[.string (a0_0 ++ (⟨#[10]⟩ : ByteArray)), .int .i64 0]) ∧ Below w.heap.size w w'
    have c6b : (9223372036854775807 < a0_0.size + 1) = False := eq_false (by omega)
    have hs1 : (a0_0 ++ (⟨#[10]⟩ : ByteArray)).size = a0_0.size + 1 := by rw [ByteArray.size_append]; rfl
    go_enter Tryd.func32, Tryd.ntmps32
    go_wp2_with (first | ((with_reducible refine gate_dst (N := 1) rfl ?_); refine box_event ?hg (N := 1) ?hd (cs := #[.string a0_0, .slice A0_1 0 c0_1]) (t := 24) ?hr ?_; (case hd => rfl); (case hg => rfl); (case hr => first | (go_simp; done) | (go_simp; rfl)); intro gb153 hg w8 hbox hb; have hcz0 : w8.cell? ⟨gb153, 0, none⟩ = some (.string a0_0) := (blk_cell hbox 0).trans rfl; have hcz1 : w8.cell? ⟨gb153, 1, none⟩ = some (.slice A0_1 0 c0_1) := (blk_cell hbox 1).trans rfl; have hfz0 := blk_frozen hbox 0; have hfz1 := blk_frozen hbox 1; have HB1 := Aside0.mk (below_step HB.out hb); have BK := Aside0.mk hbox; have GW := Aside0.mk ((by rw [hg]; exact Nat.le_refl _) : w.heap.size ≤ gb153); clear hbox hb hg) | ((with_reducible refine gate_callee (f := 10) rfl ?_); refine goesL_ (some 9) rfl rfl Tryd.func10 (by kernel_rfl) rfl #[.agg #[.string a0_0, .slice A0_1 0 c0_1]] rfl (by (try simp only [List.map_toArray, List.map_cons, List.map_nil]); first | done | rfl) ?_; (refine (database_Check.calls k a0_0 A0_1 c0_1 [] 0 w8 ?side1 ?side2 A3.out).mono ?_); (case side1 => exact Kd.C_below HR0.out HB1.out); (case side2 => exact HC0.out); rintro e w9 ⟨rfl, hb⟩; refine ⟨_, rfl, ?_⟩; have BK2 := Aside0.mk (blk_below BK.out hb); have HB2 := Aside0.mk (below_step HB1.out hb); clear hb hcz0 hcz1 hfz0 hfz1; have hcz0 : w9.cell? ⟨gb153, 0, none⟩ = some (.string a0_0) := (blk_cell BK2.out 0).trans rfl; have hcz1 : w9.cell? ⟨gb153, 1, none⟩ = some (.slice A0_1 0 c0_1) := (blk_cell BK2.out 1).trans rfl; have hfz0 := blk_frozen BK2.out 0; have hfz1 := blk_frozen BK2.out 1) | ((with_reducible refine gate_dst (N := 5) rfl ?_); refine box_event ?hg (N := 5) ?hd (cs := #[.pointer none, .slice none 0 0]) (t := 78) ?hr ?_; (case hd => rfl); (case hg => rfl); (case hr => first | (go_simp; done) | (go_simp; rfl)); intro gB hgB wB hboxB hbB; have BK3 := Aside0.mk (blk_below BK2.out hbB); have HB3 := Aside0.mk (below_step HB2.out hbB); have hlt : Aside0 (gb153 < gB) := ⟨by rw [hgB]; exact blk_lt BK2.out⟩; have hGB : Aside0 (w.heap.size ≤ gB) := ⟨by rw [hgB]; exact below_size HB2.out⟩; have hIB : Aside0 (Lib.IsBuilder 78 5 gB gB [] wB) := ⟨Or.inl ⟨Nat.le_refl _, .slice none 0 0, hboxB, World.ownsRow_nil _ _ _ _, by simp [Value.ownBlock]⟩⟩; have hltB : Aside0 (gB < wB.heap.size) := ⟨blk_lt hboxB⟩; clear hgB hboxB hbB hcz0 hcz1 hfz0 hfz1; have hcz0 : wB.cell? ⟨gb153, 0, none⟩ = some (.string a0_0) := (blk_cell BK3.out 0).trans rfl; have hcz1 : wB.cell? ⟨gb153, 1, none⟩ = some (.slice A0_1 0 c0_1) := (blk_cell BK3.out 1).trans rfl; have hfz0 := blk_frozen BK3.out 0; have hfz1 := blk_frozen BK3.out 1) | ((with_reducible refine gate_callee (f := 55) rfl ?_); refine goesL_ (some 16) rfl rfl Tryd.func55 (by kernel_rfl) rfl #[.pointer (some ⟨gB, 0, none⟩), .string (a0_0 ++ (⟨#[10]⟩ : ByteArray))] rfl (by (try simp only [List.map_toArray, List.map_cons, List.map_nil]); first | done | rfl) ?_; (with_reducible refine (Tryd.Builder_WriteString gB gB [] (a0_0 ++ (⟨#[10]⟩ : ByteArray)) _ hIB.out ?side1 ?side2).mono ?_); (case side1 => exact (by rw [hs1, List.length_nil, Nat.zero_add]; exact c6)); (case side2 => exact Nat.le_of_lt hltB.out); rintro e w10 ⟨rfl, hbl, hb⟩; refine ⟨_, rfl, ?_⟩; have BK4 : Aside0 (w10.heap[gb153]? = some (.cells #[.string a0_0, .slice A0_1 0 c0_1] 24 (0, 0))) := ⟨(hb.block gb153 hlt.out).trans BK3.out⟩; have HB4 := Aside0.mk (below_weaken HB3.out hGB.out hb); have hIB4 : Aside0 (Lib.IsBuilder 78 5 gB gB (Lib.byteCells (a0_0 ++ (⟨#[10]⟩ : ByteArray)).data.toList) w10) := ⟨Or.inr (by rw [List.nil_append, Lib.strCells_eq] at hbl; exact hbl)⟩; have hlt4 : Aside0 (gB ≤ w10.heap.size) := ⟨Nat.le_of_lt (Nat.lt_of_lt_of_le hltB.out hb.size)⟩; clear hbl hb hcz0 hcz1 hfz0 hfz1; have hcz0 : w10.cell? ⟨gb153, 0, none⟩ = some (.string a0_0) := (blk_cell BK4.out 0).trans rfl; have hcz1 : w10.cell? ⟨gb153, 1, none⟩ = some (.slice A0_1 0 c0_1) := (blk_cell BK4.out 1).trans rfl; have hfz0 := blk_frozen BK4.out 0; have hfz1 := blk_frozen BK4.out 1) | ((with_reducible refine gate_callee (f := 57) rfl ?_); refine goesL_ (some 29) rfl rfl Tryd.func57 (by kernel_rfl) rfl #[.pointer (some ⟨gB, 0, none⟩)] rfl (by (try simp only [List.map_toArray, List.map_cons, List.map_nil]); first | done | rfl) ?_; (with_reducible refine (Tryd.Builder_String_any gB gB (a0_0 ++ (⟨#[10]⟩ : ByteArray)).data.toList _ hIB4.out hlt4.out).mono ?_); rintro e w11 ⟨rfl, hb⟩; refine ⟨_, rfl, ?_⟩; have HB5 := Aside0.mk (below_weaken HB4.out hGB.out hb)))
    refine wp_loop_once ?_
    go_wp2_with (first | ((with_reducible refine gate_callee (f := 57) rfl ?_); refine goesL_ (some 29) rfl rfl Tryd.func57 (by kernel_rfl) rfl #[.pointer (some ⟨gB, 0, none⟩)] rfl (by (try simp only [List.map_toArray, List.map_cons, List.map_nil]); first | done | rfl) ?_; (with_reducible refine (Tryd.Builder_String_any gB gB (a0_0 ++ (⟨#[10]⟩ : ByteArray)).data.toList _ hIB4.out hlt4.out).mono ?_); rintro e w11 ⟨rfl, hb⟩; refine ⟨_, rfl, ?_⟩; have HB5 := Aside0.mk (below_weaken HB4.out hGB.out hb)))
    go_ret2
    refine ⟨?_, HB5.out⟩
    have hq : (⟨(a0_0.data.toList ++ [10]).toArray⟩ : ByteArray) = a0_0 ++ (⟨#[10]⟩ : ByteArray) := by
     apply Go.WideShapes.bytes_inj
     simp
    rw [hq]
    rfl
   rw [if_neg c6] at H; cases H
  rw [if_neg c5] at H; cases H
 rw [if_neg c4] at H
 simp only [Option.some.injEq, Prod.mk.injEq] at H
 obtain ⟨rfl, rfl⟩ := H
 have c4b0 : (t156 == 0) = false := by simpa using c4
 have c4b1 : (t156 != 0) = true := by simpa using c4
 go_enter Tryd.func32, Tryd.ntmps32
 go_wp2_with (first | ((with_reducible refine gate_dst (N := 1) rfl ?_); refine box_event ?hg (N := 1) ?hd (cs := #[.string a0_0, .slice A0_1 l0_1.length c0_1]) (t := 24) ?hr ?_; (case hd => rfl); (case hg => rfl); (case hr => first | (go_simp; done) | (go_simp; rfl)); intro gb153 hg w8 hbox hb; have hcz0 : w8.cell? ⟨gb153, 0, none⟩ = some (.string a0_0) := (blk_cell hbox 0).trans rfl; have hcz1 : w8.cell? ⟨gb153, 1, none⟩ = some (.slice A0_1 l0_1.length c0_1) := (blk_cell hbox 1).trans rfl; have hfz0 := blk_frozen hbox 0; have hfz1 := blk_frozen hbox 1; have HB1 := Aside0.mk (below_step HB.out hb); have BK := Aside0.mk hbox; have GW := Aside0.mk ((by rw [hg]; exact Nat.le_refl _) : w.heap.size ≤ gb153); clear hbox hb hg) | ((with_reducible refine gate_callee (f := 10) rfl ?_); refine goesL_ (some 9) rfl rfl Tryd.func10 (by kernel_rfl) rfl #[.agg #[.string a0_0, .slice A0_1 l0_1.length c0_1]] rfl (by (try simp only [List.map_toArray, List.map_cons, List.map_nil]); first | done | rfl) ?_; (refine (database_Check.calls k a0_0 A0_1 c0_1 l0_1 t156 w8 ?side1 ?side2 A3.out).mono ?_); (case side1 => exact Kd.C_below HR0_1.out HB1.out); (case side2 => exact HC0_1.out); rintro e w9 ⟨rfl, hb⟩; refine ⟨_, rfl, ?_⟩; have BK2 := Aside0.mk (blk_below BK.out hb); have HB2 := Aside0.mk (below_step HB1.out hb); clear hb hcz0 hcz1 hfz0 hfz1; have hcz0 : w9.cell? ⟨gb153, 0, none⟩ = some (.string a0_0) := (blk_cell BK2.out 0).trans rfl; have hcz1 : w9.cell? ⟨gb153, 1, none⟩ = some (.slice A0_1 l0_1.length c0_1) := (blk_cell BK2.out 1).trans rfl; have hfz0 := blk_frozen BK2.out 0; have hfz1 := blk_frozen BK2.out 1))
 go_ret2
 exact ⟨by first | rfl | (simp [*]; done), HB2.out⟩

end Go.Proofs.YthfdfoigoomaoaaDoor.PDb
