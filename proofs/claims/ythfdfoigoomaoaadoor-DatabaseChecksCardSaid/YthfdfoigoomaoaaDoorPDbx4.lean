/- The walks of functions of the translation: each call returns what the plain function beside it says. -/
import Derived.Test.YthfdfoigoomaoaaDoorBuild
import Derived.Test.YthfdfoigoomaoaaDoorPDbx0
import Derived.Test.YthfdfoigoomaoaaDoorPDbx1
import Derived.Test.YthfdfoigoomaoaaDoorPDbx2
import Derived.Test.YthfdfoigoomaoaaDoorPDbx3
namespace Go.Proofs.YthfdfoigoomaoaaDoor.PDb
open Go.RowKit Go.Proofs.YthfdfoigoomaoaaDoorW.PrintWords Go.Proofs.YthfdfoigoomaoaaDoorW.PrintLast Go.Proofs.YthfdfoigoomaoaaDoorW.PrintMore Go.Proofs.YthfdfoigoomaoaaDoor.Aid
attribute [local go_sem] max2_int min2_int max_two min_two max_three min_three max_four min_four aid_str_gtr aid_str_leq   -- for this text's walks alone
set_option linter.unusedVariables false
set_option linter.unusedSimpArgs false

/-! ### api_Entry_50: function 50 -/
def api_Entry_50.f (l0 : List (S35)) (a1 : Int) (l2 : List (S35)) : Option ((List (S35))) := if 0 ≤ a1 then (if a1 ≤ (l0.length : Int) then (if (l2.length : Int) = 0 then (some l0) else (if a1 = (l0.length : Int) then (if l0.length + l2.length < 1599289640401 then (some (l0 ++ l2)) else (none)) else (none))) else (none)) else (none)
set_option maxHeartbeats 8000000 in
set_option maxRecDepth 100000 in
theorem api_Entry_50.calls (P0_ : Nat → Prop) (vb : Value) (l0 : List (S35)) (a1 : Int) (A2 : Option Addr) (c2 : Nat) (l2 : List (S35)) (r : List (S35)) (w0 w : World) (hB : Below w0.heap.size w0 w) (Fa : Kd.R k35 35 w w0.heap.size P0_ vb l0) (hr2 : ∀ W_, Kept w W_ (fun k_ => P0_ k_) → Kd.C k35 W_ A2 l2.length l2) (hc2 : l2.length ≤ c2) (h : api_Entry_50.f l0 a1 l2 = some r) :
  Calls Tryd.prog 50 #[vb, .int .i64 a1, .slice A2 l2.length c2] w fun e w' => ∃ Tb : Value, e = .returned (Tb) ∧ Kd.R k35 35 w' w0.heap.size (fun k_ => (P0_ k_ ∨ w.heap.size ≤ k_)) Tb r ∧ Below w0.heap.size w0 w' ∧ Kept w w' (fun k_ => P0_ k_) := by
 have Ea := aM_ (show Kd.R k35 35 w w0.heap.size (fun k_ => (P0_ k_ ∨ w.heap.size ≤ k_)) vb l0 from Kd.R_mono Fa (fun k_ hk => (.inl hk)))
 have Sc := aM_ hr2
 have cf := aM_ hc2
 clear hr2 hc2
 have HK := aM_ (Kept.refl w (fun k_ => P0_ k_))
 have HW0 := aM_ hB.size
 have HB := aM_ hB
 clear hB
 have H : (if 0 ≤ a1 then (if a1 ≤ (l0.length : Int) then (if (l2.length : Int) = 0 then (some l0) else (if a1 = (l0.length : Int) then (if l0.length + l2.length < 1599289640401 then (some (l0 ++ l2)) else (none)) else (none))) else (none)) else (none)) = some r := h
 clear h
 by_cases c4 : 0 ≤ a1
 ·rw [if_pos c4] at H
  have bc := eq_true c4
  have cc : decide (0 ≤ a1) = true := decide_eq_true c4
  clear c4
  by_cases c5 : a1 ≤ (l0.length : Int)
  ·rw [if_pos c5] at H
   have Od := eq_true c5
   have Pd : decide (a1 ≤ (l0.length : Int)) = true := decide_eq_true c5
   clear c5
   obtain ⟨Ia, hy142⟩ : ∃ y_ : List (S35), y_ = (l0.drop (a1 : Int).toNat) := ⟨_, rfl⟩
   replace H : (if (l2.length : Int) = 0 then (some l0) else (if a1 = (l0.length : Int) then (if l0.length + l2.length < 1599289640401 then (some (l0 ++ l2)) else (none)) else (none))) = some r := by first | (rw [hy142]; with_reducible exact H) | (have H2_ := (Option.bind_some _ _).symm.trans H; rw [hy142]; with_reducible exact H2_) | (have H2_ := (Option.bind_some _ _).symm.trans H; with_reducible exact H2_) | with_reducible exact H | (rw [hy142]; exact H) | exact H
   have Ny142 := aM_ hy142
   clear hy142
   by_cases c6 : (l2.length : Int) = 0
   ·rw [if_pos c6] at H
    have Kb : ((l2.length : Int) == 0) = true := beq_iff_eq.mpr c6
    have Lb : ((l2.length : Int) != 0) = false := bne_eq_false_iff_eq.mpr c6
    clear c6
    obtain rfl := Option.some.inj H
    obtain ⟨Ub, Bb, Tc⟩ := Kd.R_slice Ea.out
    subst Tc
    have q7 : (a1 : Int) ≤ ((l0.length : Int) : Int) := dT_
    obtain ⟨i07, Uc, _, hsz7, _⟩ := info_parts info35
    have hroom7 : l0.length ≤ Bb := (Kd.R_reads' Ea.out).2.1
    have hC7 : Kd.C k35 _ Ub l0.length l0 := (Kd.R_reads' Ea.out).2.2
    have ie : (0 : Int) ≤ (a1 : Int) := dT_
    have hcut7 := cut_from (P := Tryd.prog) 22 35 .i64 Tryd.underlying22 Uc 9 hsz7 Ub l0.length Bb a1 ie q7
    have hr7 := Kd.C_drop (m := (a1 : Int).toNat) (c := Bb) hC7 (by omega) hroom7
    obtain ⟨A7, hA7⟩ : ∃ A1, A1 = (if Bb = (a1 : Int).toNat then Ub else (Ub : Option Addr).map (·.add ((a1 : Int).toNat * 9))) := ⟨_, rfl⟩
    obtain ⟨c7, hc7⟩ : ∃ c1, c1 = Bb - (a1 : Int).toNat := ⟨_, rfl⟩
    have hy7 : Ia.length = l0.length - (a1 : Int).toNat := (by rw [Ny142.out, List.length_drop] <;> omega)
    rw [show (l0).drop (a1 : Int).toNat = Ia from Ny142.out.symm] at hr7
    replace hr7 : Kd.C k35 _ A7 Ia.length Ia := (by rw [hA7]; exact hr7)
    rw [← hy7, ← hA7, ← hc7] at hcut7
    have qd := aM_ hr7
    have rd := aM_ (show Ia.length ≤ c7 from by rw [hy7, hc7]; exact Nat.sub_le_sub_right hroom7 _)
    clear hr7 hC7 hroom7 Uc hsz7 hc7
    have KY7 := aM_ hy7
    have KA7 := aM_ hA7
    clear hy7 hA7
    have KL7 := aM_ (show (a1 : Int).toNat ≤ l0.length from by omega)
    replace q7 := eq_true q7
    go_enter Tryd.func50, Tryd.ntmps50
    go_wp2
    repeat (go_quiet (fail); try go_wp2)
    go_ret
    exact ⟨_, eW_, by refine bk_ ?_; exact Ea.out, hB_, by repeat (first | (with_reducible first | exact HK.out | apply Kept.alloc | apply Kept.drewN | apply Kept.drew) | exact HK.out)⟩
   rw [if_neg c6] at H
   have Kb : ((l2.length : Int) == 0) = false := beq_eq_false_iff_ne.mpr c6
   have Lb : ((l2.length : Int) != 0) = true := bne_iff_ne.mpr c6
   have Ke : ¬ (l2 = []) := fun h_ => c6 (by rw [h_]; rfl)
   by_cases c9 : a1 = (l0.length : Int)
   ·rw [if_pos c9] at H
    have Rd : (a1 == (l0.length : Int)) = true := beq_iff_eq.mpr c9
    have Sd : (a1 != (l0.length : Int)) = false := bne_eq_false_iff_eq.mpr c9
    clear c9
    by_cases Vb : l0.length + l2.length < 1599289640401
    ·rw [if_pos Vb] at H
     have Nb := aM_ Vb
     clear Vb
     obtain ⟨Td, hy146⟩ : ∃ y_ : List (S35), y_ = (l0 ++ l2) := ⟨_, rfl⟩
     replace H : (some Td) = some r := by first | (rw [hy146]; with_reducible exact H) | (have H2_ := (Option.bind_some _ _).symm.trans H; rw [hy146]; with_reducible exact H2_) | (have H2_ := (Option.bind_some _ _).symm.trans H; with_reducible exact H2_) | with_reducible exact H | (rw [hy146]; exact H) | exact H
     have Ny146 := aM_ hy146
     clear hy146
     obtain rfl := Option.some.inj H
     obtain ⟨jb, Ua, Ud⟩ := Kd.R_slice Ea.out
     subst Ud
     have Wc : (a1 : Int) ≤ ((l0.length : Int) : Int) := dT_
     obtain ⟨i011, ic, _, hsz11, _⟩ := info_parts info35
     have hroom11 : l0.length ≤ Ua := (Kd.R_reads' Ea.out).2.1
     have hC11 : Kd.C k35 _ jb l0.length l0 := (Kd.R_reads' Ea.out).2.2
     have Vd : (0 : Int) ≤ (a1 : Int) := dT_
     have hcut11 := cut_from (P := Tryd.prog) 22 35 .i64 Tryd.underlying22 ic 9 hsz11 jb l0.length Ua a1 Vd Wc
     have hr11 := Kd.C_drop (m := (a1 : Int).toNat) (c := Ua) hC11 (by omega) hroom11
     obtain ⟨je, hA11⟩ : ∃ A1, A1 = (if Ua = (a1 : Int).toNat then jb else (jb : Option Addr).map (·.add ((a1 : Int).toNat * 9))) := ⟨_, rfl⟩
     obtain ⟨wd, hc11⟩ : ∃ c1, c1 = Ua - (a1 : Int).toNat := ⟨_, rfl⟩
     have hy11 : Ia.length = l0.length - (a1 : Int).toNat := (by rw [Ny142.out, List.length_drop] <;> omega)
     rw [show (l0).drop (a1 : Int).toNat = Ia from Ny142.out.symm] at hr11
     replace hr11 : Kd.C k35 _ je Ia.length Ia := (by rw [hA11]; exact hr11)
     rw [← hy11, ← hA11, ← hc11] at hcut11
     have qd := aM_ hr11
     have rd := aM_ (show Ia.length ≤ wd from by rw [hy11, hc11]; exact Nat.sub_le_sub_right hroom11 _)
     clear hr11 hC11 hroom11 ic hsz11 hc11
     have KY11 := aM_ hy11
     have KA11 := aM_ hA11
     clear hy11 hA11
     have KL11 := aM_ (show (a1 : Int).toNat ≤ l0.length from by omega)
     replace Wc := eq_true Wc
     go_enter Tryd.func50, Tryd.ntmps50
     go_wp2_with (first | ((with_reducible refine gate_builtin (b := .append) (xs := #[.tmp 23, .tmp 24]) rfl ?_); at_builtin; refine Kd.R_append_rows k35 (w0 := w0) w0.heap.size rfl (.tmp 23) (.tmp 24) 22 35 (.agg #[(.string ⟨#[]⟩), (.string ⟨#[]⟩), (.int .u64 0), (.int .i64 0), (.int .i64 0), (.int .i64 0), (.int .i64 0), (.int .i64 0), (.int .i64 0)]) 88 rfl Tryd.underlying22 info35 rfl (by decide) (by omega) (.slice jb l0.length Ua) l0 l2 _ _ _ (fun k_ => (P0_ k_ ∨ w.heap.size ≤ k_)) (fun _ => False) rfl rfl ?aO ?aR (fun _ _ h => h) (fun _ h => h.elim) ?aF ?aB ?aS ?aL ?_; (case aR => exact Kd.C_kept_now Sc.out (by repeat (first | (with_reducible first | exact HK.out | apply Kept.alloc | apply Kept.drewN | apply Kept.drew) | exact HK.out))); (case aB => exact (bk_ HB.out)); (case aF => exact (fun k_ hk => (.inr (Nat.le_trans (by first | exact HK.out.1 | exact (show Kept w _ (fun k_ => P0_ k_) from by repeat (first | (with_reducible first | exact HK.out | apply Kept.alloc | apply Kept.drewN | apply Kept.drew) | exact HK.out)).1) hk)))); (case aO => exact (bk_ Ea.out)); (case aS => exact (below_size (bk_ HB.out))); (case aL => have := Nb.out; omega); intro Xc xd ho hb hg hat; rw [← Ny146.out] at ho; replace HB := aM_ (hb); replace HK := aM_ (Kept.of_grown (S := (fun k_ => P0_ k_)) hg (by repeat (first | (with_reducible first | exact HK.out | apply Kept.alloc | apply Kept.drewN | apply Kept.drew) | exact HK.out)) (fun k_ e_ => (Ea.out.1 k_ e_))); have Ob := aM_ (ho); clear Ea; clear ho hb hg hat))
     repeat (go_quiet (first | ((with_reducible refine gate_builtin (b := .append) (xs := #[.tmp 23, .tmp 24]) rfl ?_); at_builtin; refine Kd.R_append_rows k35 (w0 := w0) w0.heap.size rfl (.tmp 23) (.tmp 24) 22 35 (.agg #[(.string ⟨#[]⟩), (.string ⟨#[]⟩), (.int .u64 0), (.int .i64 0), (.int .i64 0), (.int .i64 0), (.int .i64 0), (.int .i64 0), (.int .i64 0)]) 88 rfl Tryd.underlying22 info35 rfl (by decide) (by omega) (.slice jb l0.length Ua) l0 l2 _ _ _ (fun k_ => (P0_ k_ ∨ w.heap.size ≤ k_)) (fun _ => False) rfl rfl ?aO ?aR (fun _ _ h => h) (fun _ h => h.elim) ?aF ?aB ?aS ?aL ?_; (case aR => exact Kd.C_kept_now Sc.out (by repeat (first | (with_reducible first | exact HK.out | apply Kept.alloc | apply Kept.drewN | apply Kept.drew) | exact HK.out))); (case aB => exact (bk_ HB.out)); (case aF => exact (fun k_ hk => (.inr (Nat.le_trans (by first | exact HK.out.1 | exact (show Kept w _ (fun k_ => P0_ k_) from by repeat (first | (with_reducible first | exact HK.out | apply Kept.alloc | apply Kept.drewN | apply Kept.drew) | exact HK.out)).1) hk)))); (case aO => exact (bk_ Ea.out)); (case aS => exact (below_size (bk_ HB.out))); (case aL => have := Nb.out; omega); intro Xc xd ho hb hg hat; rw [← Ny146.out] at ho; replace HB := aM_ (hb); replace HK := aM_ (Kept.of_grown (S := (fun k_ => P0_ k_)) hg (by repeat (first | (with_reducible first | exact HK.out | apply Kept.alloc | apply Kept.drewN | apply Kept.drew) | exact HK.out)) (fun k_ e_ => (Ea.out.1 k_ e_))); have Ob := aM_ (ho); clear Ea; clear ho hb hg hat)); try go_wp2_with (first | ((with_reducible refine gate_builtin (b := .append) (xs := #[.tmp 23, .tmp 24]) rfl ?_); at_builtin; refine Kd.R_append_rows k35 (w0 := w0) w0.heap.size rfl (.tmp 23) (.tmp 24) 22 35 (.agg #[(.string ⟨#[]⟩), (.string ⟨#[]⟩), (.int .u64 0), (.int .i64 0), (.int .i64 0), (.int .i64 0), (.int .i64 0), (.int .i64 0), (.int .i64 0)]) 88 rfl Tryd.underlying22 info35 rfl (by decide) (by omega) (.slice jb l0.length Ua) l0 l2 _ _ _ (fun k_ => (P0_ k_ ∨ w.heap.size ≤ k_)) (fun _ => False) rfl rfl ?aO ?aR (fun _ _ h => h) (fun _ h => h.elim) ?aF ?aB ?aS ?aL ?_; (case aR => exact Kd.C_kept_now Sc.out (by repeat (first | (with_reducible first | exact HK.out | apply Kept.alloc | apply Kept.drewN | apply Kept.drew) | exact HK.out))); (case aB => exact (bk_ HB.out)); (case aF => exact (fun k_ hk => (.inr (Nat.le_trans (by first | exact HK.out.1 | exact (show Kept w _ (fun k_ => P0_ k_) from by repeat (first | (with_reducible first | exact HK.out | apply Kept.alloc | apply Kept.drewN | apply Kept.drew) | exact HK.out)).1) hk)))); (case aO => exact (bk_ Ea.out)); (case aS => exact (below_size (bk_ HB.out))); (case aL => have := Nb.out; omega); intro Xc xd ho hb hg hat; rw [← Ny146.out] at ho; replace HB := aM_ (hb); replace HK := aM_ (Kept.of_grown (S := (fun k_ => P0_ k_)) hg (by repeat (first | (with_reducible first | exact HK.out | apply Kept.alloc | apply Kept.drewN | apply Kept.drew) | exact HK.out)) (fun k_ e_ => (Ea.out.1 k_ e_))); have Ob := aM_ (ho); clear Ea; clear ho hb hg hat)))
     go_ret
     exact ⟨_, eW_, by refine bk_ ?_; exact Ob.out, hB_, by repeat (first | (with_reducible first | exact HK.out | apply Kept.alloc | apply Kept.drewN | apply Kept.drew) | exact HK.out)⟩
    rw [if_neg Vb] at H
    exact absurd H (by simp)
   rw [if_neg c9] at H
   exact absurd H (by simp)
  rw [if_neg c5] at H
  exact absurd H (by simp)
 rw [if_neg c4] at H
 exact absurd H (by simp)

/-! ### api_Entry_51: function 51 -/
def api_Entry_51.f (l0 : List (S35)) : Option (List (S35)) := if l0.length < 1599289640401 then (some l0) else (none)
set_option maxHeartbeats 8000000 in
set_option maxRecDepth 100000 in
theorem api_Entry_51.calls (A0 : Option Addr) (c0 : Nat) (l0 : List (S35)) (r : List (S35)) (w : World) (hr0 : Kd.C k35 w A0 l0.length l0) (hc0 : l0.length ≤ c0) (h : api_Entry_51.f l0 = some r) :
  Calls Tryd.prog 51 #[.slice A0 l0.length c0] w fun e w' => ∃ Tb : Value, e = .returned (Tb) ∧ Kd.R k35 35 w' w.heap.size (fun _ => True) Tb r ∧ Below w.heap.size w w' := by
 have H : (if l0.length < 1599289640401 then (some l0) else (none)) = some r := h
 clear h
 by_cases c1 : l0.length < 1599289640401
 ·rw [if_pos c1] at H
  obtain rfl := Option.some.inj H
  have Yc := aM_ c1
  clear c1
  cases A0 with
  | none =>
   have hz : l0.length = 0 := by
    by_cases hz : 0 < l0.length
    ·obtain ⟨_, h1, _⟩ := hr0.2.2 hz
     cases h1
    omega
   obtain rfl : l0 = [] := List.eq_nil_of_length_eq_zero hz
   clear hr0 hc0 hz Yc H
   have hn := fun w : World => Lib.run_eql_slice_nil (P := Tryd.prog) w 22 35 none 0 c0 0 0 Tryd.underlying22
   go_enter Tryd.func51, Tryd.ntmps51
   go_wp2
   go_ret
   exact ⟨_, rfl, Kd.R_nil _ _ _ _ _, by repeat (first | (with_reducible first | exact Below.refl _ _ | apply bA_ | apply bN_ | apply bD_))⟩
  | some ad =>
   have Zc := aM_ hr0
   have yd := aM_ hc0
   clear hr0 hc0 H
   have HB := aM_ (Below.refl w.heap.size w)
   have hn := fun w : World => Lib.run_eql_slice_nil (P := Tryd.prog) w 22 35 (some ad) l0.length c0 0 0 Tryd.underlying22
   obtain ⟨dc, hy170⟩ : ∃ y_ : List (S35), y_ = (([] : List (S35))) := ⟨_, rfl⟩
   have Ny170 := aM_ hy170
   clear hy170
   have bd : l0 = dc ++ l0 := by rw [Ny170.out]; rfl
   have Ny173 := aM_ bd
   clear bd
   go_enter Tryd.func51, Tryd.ntmps51
   go_wp2_with (first | ((with_reducible refine gate_dst (N := 5) rfl ?_); refine Kd.R_lit k35 _ 35 ?hg (N := 5) ?hd (xs := ([] : List (S35))) (inner := []) (ok := fun _ => True) (okp := fun _ => True) ?hr ?hp (fun _ hk => hk) trivial (Below.refl _ _) (Nat.le_refl _) (by simp) ?_; (case hd => rfl); (case hg => rfl); (case hr => first | (go_simp; done) | (go_simp; rfl)); (case hp => exact (Reps.none _ _)); intro Xd w5 Wb hb hg_ hnew_; clear hg_ hnew_; (first | rw [← Ny170.out] at Wb | (simp only [Int.reduceToNat] at Wb; rw [← Ny170.out] at Wb)); have jc := aM_ (Kd.R_lower Wb (below_size (bk_ HB.out))); replace HB := aM_ (below_step (bk_ HB.out) hb); clear hb Wb) | ((with_reducible refine gate_builtin (b := .append) (xs := #[.tmp 5, .tmp 6]) rfl ?_); at_builtin; refine Kd.R_append_rows k35 (w0 := w) w.heap.size rfl (.tmp 5) (.tmp 6) 22 35 (.agg #[(.string ⟨#[]⟩), (.string ⟨#[]⟩), (.int .u64 0), (.int .i64 0), (.int .i64 0), (.int .i64 0), (.int .i64 0), (.int .i64 0), (.int .i64 0)]) 88 rfl Tryd.underlying22 info35 rfl (by decide) (by omega) Xd dc l0 _ _ _ (fun _ => True) (fun _ => False) rfl rfl ?aO ?aR (fun _ _ h => h) (fun _ h => h.elim) ?aF ?aB ?aS ?aL ?_; (case aR => repeat (first | exact (Kd.C_below Zc.out HB.out) | (with_reducible refine Kd.C_alloc ?_ _) | (with_reducible refine Kd.C_drewN ?_ _) | (with_reducible refine Kd.C_drew ?_))); (case aB => exact (bk_ HB.out)); (case aF => exact (fun _ _ => trivial)); (case aO => exact (bk_ jc.out)); (case aS => exact (below_size (bk_ HB.out))); (case aL => have h1_ := Yc.out; have h2_ : dc.length = 0 := (by rw [Ny170.out]; rfl); omega); intro Le w7 ho hb hg hat; rw [← Ny173.out] at ho; replace HB := aM_ (hb); have kc := aM_ (ho); clear jc; clear ho hb hg hat; obtain ⟨Ub, Bb, Tc⟩ := Kd.R_slice kc.out; subst Tc))
   go_ret
   exact ⟨_, by first | rfl | (simp; done) | (simp [*]; done), by refine bk_ ?_; exact kc.out, hB_⟩
 rw [if_neg c1] at H
 cases H

/-! ### database_Add: function 25 -/
def database_Add.l0 : Nat → Int → ByteArray → List (S35) → ByteArray → ByteArray → Int → Int → Int → Int → Int → Int → Int → Option (ByteArray × (List (S35)) × Int)
 | 0, _, _, _, _, _, _, _, _, _, _, _, _ => none
 | k + 1, x8, oc, pc, qc, rc, sc, tc, uc, vc, wc, xc, yc => if x8 > 0 then (none) else ((api_Entry_51.f pc).bind fun Ga => ((api_Entry_50.f Ga x8 (([(⟨qc, rc, sc, tc, uc, vc, wc, xc, yc⟩ : S35)] : List (S35)))).bind fun Va => (some (oc, Va, 0))))
def database_Add.f (k : Nat) (da : ByteArray) (ea : List (S35)) (fa : ByteArray) (ga : ByteArray) (ha : Int) (ia : Int) (ja : Int) (ka : Int) (la : Int) (ma : Int) (na : Int) : Option (ByteArray × (List (S35)) × Int) := (database_Check.f k da ea).bind fun Wa => (if Wa = 0 then ((database_CheckEntry.f k fa ga ha ia ja ka la ma na).bind fun Xa => (if Xa = 0 then (if (ea.length : Int) = 60 then (none) else (database_Add.l0 k (ea.length : Int) da ea fa ga ha ia ja ka la ma na)) else (none))) else (none))
def database_Add.T10 : Bool × List (List Nat × List Nat) := (true,[([], []), ([0], [0]), ([1], [1]), ([2], [2]), ([3, 2], [2, 3]), ([2], [2]), ([5, 2], [2, 5]), ([4, 6, 2], [2, 4, 6]), ([7, 2], [2, 7]), ([2], [2]), ([8, 9, 2, 2], [2, 8, 9]), ([10, 2], [2, 10]), ([2, 11], [2, 11])])
def database_Add.B10 : List Nat := [0, 1, 3, 7, 15, 7, 39, 127, 255, 7, 1023, 2047, 4095]
theorem database_Add.tab10 : rtab .any (opsOf Tryd.f25 10) = database_Add.T10 := by kernel_rfl
theorem database_Add.bits10 : waitsOk database_Add.T10.2 database_Add.B10 = true := by kernel_rfl
def database_Add.T12 : Bool × List (List Nat × List Nat) := (true,[([], []), ([0], [0]), ([1], [1]), ([], []), ([], []), ([4], [4]), ([2, 3, 5, 2], [2, 3, 5]), ([0, 1, 2, 3, 4, 5, 6], []), ([7, 6, 6, 0, 1, 2, 3, 4, 5, 6], [6, 7])])
def database_Add.B12 : List Nat := [0, 1, 3, 0, 0, 16, 63, 127, 255]
theorem database_Add.tab12 : rtab .any (opsOf Tryd.f25 12) = database_Add.T12 := by kernel_rfl
theorem database_Add.bits12 : waitsOk database_Add.T12.2 database_Add.B12 = true := by kernel_rfl
set_option maxHeartbeats 8000000 in
set_option maxRecDepth 100000 in
theorem database_Add.calls (k : Nat) (da : ByteArray) (pa : Option Addr) (qa : Nat) (ea : List (S35)) (fa : ByteArray) (ga : ByteArray) (ha : Int) (ia : Int) (ja : Int) (ka : Int) (la : Int) (ma : Int) (na : Int) (r1 : ByteArray) (r2 : List (S35)) (r3 : Int) (w : World) (hr0_1 : Kd.C k35 w pa ea.length ea) (hc0_1 : ea.length ≤ qa) (h : database_Add.f k da ea fa ga ha ia ja ka la ma na = some (r1, r2, r3)) :
  Calls Tryd.prog 25 #[.agg #[.string da, .slice pa ea.length qa], .agg #[.string fa, .string ga, .int .u64 ha, .int .i64 ia, .int .i64 ja, .int .i64 ka, .int .i64 la, .int .i64 ma, .int .i64 na]] w fun e w' => ∃ zd : Value, e = .returned (.tuple #[.agg #[.string r1, zd], .int .i64 r3]) ∧ Kd.R k35 35 w' w.heap.size (fun _ => True) zd r2 ∧ Below w.heap.size w w' := by
 have hu24 := Tryd.underlying24
 have hu35 := Tryd.underlying35
 have La := aM_ hr0_1
 have gb := aM_ hc0_1
 clear hr0_1 hc0_1
 have HB := aM_ (Below.refl w.heap.size w)
 have H : ((database_Check.f k da ea).bind fun Wa => (if Wa = 0 then ((database_CheckEntry.f k fa ga ha ia ja ka la ma na).bind fun Xa => (if Xa = 0 then (if (ea.length : Int) = 60 then (none) else (database_Add.l0 k (ea.length : Int) da ea fa ga ha ia ja ka la ma na)) else (none))) else (none))) = some (r1, r2, r3) := h
 clear h
 replace H := Option.bind_eq_some_iff.mp H
 obtain ⟨Wa, sb, H⟩ := H
 try dsimp only at H
 have A3 := aM_ sb
 clear sb
 by_cases c4 : Wa = 0
 ·rw [if_pos c4] at H
  have bc : (Wa == 0) = true := beq_iff_eq.mpr c4
  have cc : (Wa != 0) = false := bne_eq_false_iff_eq.mpr c4
  clear c4
  replace H := Option.bind_eq_some_iff.mp H
  obtain ⟨Xa, Ad, H⟩ := H
  try dsimp only at H
  have A5 := aM_ Ad
  clear Ad
  by_cases c6 : Xa = 0
  ·rw [if_pos c6] at H
   have Kb : (Xa == 0) = true := beq_iff_eq.mpr c6
   have Lb : (Xa != 0) = false := bne_eq_false_iff_eq.mpr c6
   clear c6
   by_cases c7 : (ea.length : Int) = 60
   ·rw [if_pos c7] at H
    exact absurd H (by simp)
   rw [if_neg c7] at H
   have dd : ((ea.length : Int) == 60) = false := beq_eq_false_iff_ne.mpr c7
   have ed : ((ea.length : Int) != 60) = true := bne_iff_ne.mpr c7
   have H' := aM_ H
   clear H
   go_enter Tryd.func25, Tryd.ntmps25
   go_wp2_with (first | ((with_reducible refine gate_dst (N := 2) rfl ?_); refine box_event ?hg (N := 2) ?hd (cs := #[.string da, .slice pa ea.length qa]) (t := 24) ?hr ?_; (case hd => rfl); (case hg => rfl); (case hr => first | (go_simp; done) | (go_simp; rfl)); intro ra hg w8 hbox hb; have ba := aM_ (hbox); have re := aM_ ((by rw [hg]; exact (below_size (bk_ HB.out)) : w.heap.size ≤ ra)); have td := aM_ ((by rw [hg]; exact (below_size (bk_ HB.out)) : w.heap.size ≤ ra)); replace HB := aM_ (below_step (bk_ HB.out) hb); clear hb hbox hg) | ((with_reducible refine gate_dst (N := 3) rfl ?_); refine box_event ?hg (N := 3) ?hd (cs := #[.string fa, .string ga, .int .u64 ha, .int .i64 ia, .int .i64 ja, .int .i64 ka, .int .i64 la, .int .i64 ma, .int .i64 na]) (t := 35) ?hr ?_; (case hd => rfl); (case hg => rfl); (case hr => first | (go_simp; done) | (go_simp; rfl)); intro ca hg w9 hbox hb; have aa := aM_ (hbox); have se := aM_ ((by rw [hg]; exact (below_size hB_) : w.heap.size ≤ ca)); have ud := aM_ ((by rw [hg]; exact (below_size hB_) : w.heap.size ≤ ca)); replace HB := aM_ (below_step hB_ hb); have Ya := aM_ ((by rw [hg]; exact Nat.ne_of_lt (blk_lt (g := ra) (o := .cells #[.string da, .slice pa ea.length qa] 24 (0, 0)) (bk_ ba.out)) : ra ≠ ca)); have Za := aM_ ((by rw [hg]; exact Nat.ne_of_gt (blk_lt (g := ra) (o := .cells #[.string da, .slice pa ea.length qa] 24 (0, 0)) (bk_ ba.out)) : ca ≠ ra)); replace ba := aM_ (blk_below (g := ra) (o := .cells #[.string da, .slice pa ea.length qa] 24 (0, 0)) (bk_ ba.out) hb); clear hb hbox hg) | ((with_reducible refine gate_dst (N := 4) rfl ?_); refine box_event ?hg (N := 4) ?hd (cs := #[.string (⟨#[]⟩ : ByteArray), .slice none 0 0]) (t := 24) ?hr ?_; (case hd => rfl); (case hg => rfl); (case hr => first | (go_simp; done) | (go_simp; rfl)); intro ua hg kb hbox hb; have oa := aM_ (hbox); have te := aM_ ((by rw [hg]; exact (below_size hB_) : w.heap.size ≤ ua)); have vd := aM_ ((by rw [hg]; exact (below_size hB_) : w.heap.size ≤ ua)); replace HB := aM_ (below_step hB_ hb); have ab := aM_ ((by rw [hg]; exact Nat.ne_of_lt (blk_lt (g := ra) (o := .cells #[.string da, .slice pa ea.length qa] 24 (0, 0)) (bk_ ba.out)) : ra ≠ ua)); have Ha := aM_ ((by rw [hg]; exact Nat.ne_of_gt (blk_lt (g := ra) (o := .cells #[.string da, .slice pa ea.length qa] 24 (0, 0)) (bk_ ba.out)) : ua ≠ ra)); replace ba := aM_ (blk_below (g := ra) (o := .cells #[.string da, .slice pa ea.length qa] 24 (0, 0)) (bk_ ba.out) hb); have tb := aM_ ((by rw [hg]; exact Nat.ne_of_lt (blk_lt (g := ca) (o := .cells #[.string fa, .string ga, .int .u64 ha, .int .i64 ia, .int .i64 ja, .int .i64 ka, .int .i64 la, .int .i64 ma, .int .i64 na] 35 (0, 0)) (bk_ aa.out)) : ca ≠ ua)); have ub := aM_ ((by rw [hg]; exact Nat.ne_of_gt (blk_lt (g := ca) (o := .cells #[.string fa, .string ga, .int .u64 ha, .int .i64 ia, .int .i64 ja, .int .i64 ka, .int .i64 la, .int .i64 ma, .int .i64 na] 35 (0, 0)) (bk_ aa.out)) : ua ≠ ca)); replace aa := aM_ (blk_below (g := ca) (o := .cells #[.string fa, .string ga, .int .u64 ha, .int .i64 ia, .int .i64 ja, .int .i64 ka, .int .i64 la, .int .i64 ma, .int .i64 na] 35 (0, 0)) (bk_ aa.out) hb); clear hb hbox hg; have ue := Ya.out; have ve := Za.out; have we := ab.out; have xe := Ha.out; have Cb := bc_ ba.out 0; have Db := bc_ ba.out 1; have Eb := blk_frozen ba.out 0; have Fb := blk_frozen ba.out 1) | ((with_reducible refine gate_callee (f := 10) rfl ?_); refine goesL_ (some 10) rfl rfl Tryd.func10 (by kernel_rfl) rfl #[.agg #[.string da, .slice pa ea.length qa]] rfl aR_ ?_; (with_reducible refine (database_Check.calls k da _ _ ea Wa _ ?side1 ?side2 A3.out).mono ?_); (case side1 => repeat (first | exact (Kd.C_below La.out HB.out) | (with_reducible refine Kd.C_alloc ?_ _) | (with_reducible refine Kd.C_drewN ?_ _) | (with_reducible refine Kd.C_drew ?_))); (case side2 => exact gb.out); rintro e df ⟨rfl, hb⟩; refine ⟨_, rfl, ?_⟩; replace ba := aM_ (blk_below (g := ra) (o := .cells #[.string da, .slice pa ea.length qa] 24 (0, 0)) (bk_ ba.out) hb); replace aa := aM_ (blk_below (g := ca) (o := .cells #[.string fa, .string ga, .int .u64 ha, .int .i64 ia, .int .i64 ja, .int .i64 ka, .int .i64 la, .int .i64 ma, .int .i64 na] 35 (0, 0)) (bk_ aa.out) hb); replace oa := aM_ (blk_below (g := ua) (o := .cells #[.string (⟨#[]⟩ : ByteArray), .slice none 0 0] 24 (0, 0)) (bk_ oa.out) hb); replace HB := aM_ (below_step hB_ hb); clear hb; have ye := tb.out; have ze := ub.out; have Gb := bc_ aa.out 0; have Hb := bc_ aa.out 1; have Ac := bc_ aa.out 2; have Bc := bc_ aa.out 3; have Cc := bc_ aa.out 4; have Dc := bc_ aa.out 5; have Ec := bc_ aa.out 6; have Fc := bc_ aa.out 7; have Gc := bc_ aa.out 8; have Ib := blk_frozen aa.out 0; have Jb := blk_frozen aa.out 1; have Hc := blk_frozen aa.out 2; have Ic := blk_frozen aa.out 3; have Jc := blk_frozen aa.out 4; have Kc := blk_frozen aa.out 5; have Lc := blk_frozen aa.out 6; have Mc := blk_frozen aa.out 7; have Nc := blk_frozen aa.out 8) | ((with_reducible refine gate_callee (f := 14) rfl ?_); refine goesL_ (some 16) rfl rfl Tryd.func14 (by kernel_rfl) rfl #[.agg #[.string fa, .string ga, .int .u64 ha, .int .i64 ia, .int .i64 ja, .int .i64 ka, .int .i64 la, .int .i64 ma, .int .i64 na]] rfl aR_ ?_; (with_reducible refine (database_CheckEntry.calls k fa ga ha ia ja ka la ma na Xa _ A5.out).mono ?_); rintro e ef ⟨rfl, hb⟩; refine ⟨_, rfl, ?_⟩; replace ba := aM_ (blk_below (g := ra) (o := .cells #[.string da, .slice pa ea.length qa] 24 (0, 0)) (bk_ ba.out) hb); replace aa := aM_ (blk_below (g := ca) (o := .cells #[.string fa, .string ga, .int .u64 ha, .int .i64 ia, .int .i64 ja, .int .i64 ka, .int .i64 la, .int .i64 ma, .int .i64 na] 35 (0, 0)) (bk_ aa.out) hb); replace oa := aM_ (blk_below (g := ua) (o := .cells #[.string (⟨#[]⟩ : ByteArray), .slice none 0 0] 24 (0, 0)) (bk_ oa.out) hb); replace HB := aM_ (below_step hB_ hb); clear hb; have Oc := bc_ ba.out 0; have Pc := bc_ ba.out 1; have Qc := blk_frozen ba.out 0; have Rc := blk_frozen ba.out 1))
   go_loopg [8] k (fun kq v8 w' => ∃ (bb : Int), v8 = .int .i64 bb ∧ Aside0 (database_Add.l0 kq bb da ea fa ga ha ia ja ka la ma na = some (r1, r2, r3)) ∧ Aside0 (kq ≤ k) ∧ Aside0 (w'.heap[ra]? = some (.cells #[.string da, (.slice pa ea.length qa)] 24 (0, 0))) ∧ Aside0 (w'.heap[ca]? = some (.cells #[.string fa, .string ga, .int .u64 ha, .int .i64 ia, .int .i64 ja, .int .i64 ka, .int .i64 la, .int .i64 ma, .int .i64 na] 35 (0, 0))) ∧ Aside0 (w'.heap[ua]? = some (.cells #[.string (⟨#[]⟩ : ByteArray), (.slice none 0 0)] 24 (0, 0))) ∧ Aside0 (Below w.heap.size w w'))
   case atStart => exact ⟨((ea.length : Int)), rS_, H', ⟨Nat.le_refl _⟩, ⟨by refine bk_ ?_; exact ba.out⟩, ⟨by refine bk_ ?_; exact aa.out⟩, ⟨by refine bk_ ?_; exact oa.out⟩, ⟨hB_⟩⟩
   case round =>
    clear H'
    try clear c1
    try clear c2
    try clear p2
    try clear c4
    try clear bc
    try clear cc
    try clear c6
    try clear Kb
    try clear Lb
    try clear c7
    try clear dd
    try clear ed
    try clear Vb
    try clear wd
    try clear ff
    try clear gf
    try clear hf
    try clear Cb
    try clear Db
    try clear Gb
    try clear Hb
    try clear Ac
    try clear Bc
    try clear Cc
    try clear Dc
    try clear Ec
    try clear Fc
    try clear Gc
    try clear Oc
    try clear Pc
    try clear Eb
    try clear Fb
    try clear Ib
    try clear Jb
    try clear Hc
    try clear Ic
    try clear Jc
    try clear Kc
    try clear Lc
    try clear Mc
    try clear Nc
    try clear Qc
    try clear Rc
    obtain ⟨bb, rfl, HA, jf, ba, aa, oa, HB⟩ := hrel
    cases gk with
    | zero => exact absurd HA.out (by simp [database_Add.l0])
    | succ k1 =>
     have H := HA.out
     clear HA
     simp only [database_Add.l0] at H
     by_cases lc : bb > 0
     ·rw [if_pos lc] at H
      exact absurd H (by simp)
     rw [if_neg lc] at H
     have Ae : decide (0 < bb) = false := decide_eq_false lc
     clear lc
     replace H := Option.bind_eq_some_iff.mp H
     obtain ⟨Ga, fd, H⟩ := H
     try dsimp only at H
     have Yb := aM_ fd
     clear fd
     obtain ⟨nb, hy157⟩ : ∃ y_ : List (S35), y_ = (([(⟨fa, ga, ha, ia, ja, ka, la, ma, na⟩ : S35)] : List (S35))) := ⟨_, rfl⟩
     replace H : ((api_Entry_50.f Ga bb nb).bind fun Va => (some (da, Va, 0))) = some (r1, r2, r3) := by first | (rw [hy157]; with_reducible exact H) | (have H2_ := (Option.bind_some _ _).symm.trans H; rw [hy157]; with_reducible exact H2_) | (have H2_ := (Option.bind_some _ _).symm.trans H; with_reducible exact H2_) | with_reducible exact H | (rw [hy157]; exact H) | exact H
     have Ny157 := aM_ hy157
     clear hy157
     replace H := Option.bind_eq_some_iff.mp H
     obtain ⟨Va, gd, H⟩ := H
     try dsimp only at H
     have me := aM_ gd
     clear gd
     simp only [Option.some.injEq, Prod.mk.injEq] at H
     obtain ⟨rfl, rfl, rfl⟩ := H
     try go_upto_region 10 with fail
     replace ba := aM_ (blk_drew ba.out)
     replace aa := aM_ (blk_drew aa.out)
     replace oa := aM_ (blk_drew oa.out)
     replace HB := aM_ (bD_ HB.out)
     refine start_ (n := 13) (S := fun w' => True) (ds := []) (bo_ 13 0) (by kernel_rfl) rfl rfl trivial (fun hHeld => ?_); refine with_tabW database_Add.tab10 database_Add.bits10 (fun HT_ HW_ => ?_)
     generalize wr.drew = ne at ba aa oa HB hHeld ⊢
     refine pU_ 0 (some 29) (bo_ 13 1) ?_
     refine pU_ 1 (some 30) (bo_ 13 3) ?_
     refine pU_ 2 (some 31) (bo_ 13 7) ?_
     refine pV_ 3 (some 32) (bo_ 13 15) ?_
     refine pV_ 4 (some 33) (bo_ 13 31) ?_
     refine pV_ 5 (some 34) (bo_ 13 63) ?_
     refine pV_ 6 (some 35) (bo_ 13 127) ?_
     refine pV_ 7 (some 36) (bo_ 13 255) ?_
     refine pV_ 8 (some 37) (bo_ 13 511) ?_
     refine pV_ 9 (some 38) (bo_ 13 1023) ?_
     refine pV_ 10 (some 39) (bo_ 13 2047) ?_
     refine pV_ 11 (some 40) (bo_ 13 4095) ?_
     refine pU_ 12 (some 41) (bo_ 13 8191) ?_
     refine done_ (done_of HT_.out (by kernel_rfl)) ?_
     try go_upto_region 12 with fail
     replace ba := aM_ (blk_drew ba.out)
     replace aa := aM_ (blk_drew aa.out)
     replace oa := aM_ (blk_drew oa.out)
     replace HB := aM_ (bD_ HB.out)
     refine start_ (n := 9) (S := fun w' => w'.cell? ⟨ra, 0, none⟩ = some (.string da) ∧ w'.cell? ⟨ra, 1, none⟩ = some (.slice pa ea.length qa) ∧ w'.cell? ⟨ca, 0, none⟩ = some (.string fa) ∧ w'.cell? ⟨ca, 1, none⟩ = some (.string ga) ∧ w'.cell? ⟨ca, 2, none⟩ = some (.int .u64 ha) ∧ w'.cell? ⟨ca, 3, none⟩ = some (.int .i64 ia) ∧ w'.cell? ⟨ca, 4, none⟩ = some (.int .i64 ja) ∧ w'.cell? ⟨ca, 5, none⟩ = some (.int .i64 ka) ∧ w'.cell? ⟨ca, 6, none⟩ = some (.int .i64 la) ∧ w'.cell? ⟨ca, 7, none⟩ = some (.int .i64 ma) ∧ w'.cell? ⟨ca, 8, none⟩ = some (.int .i64 na)) (ds := [8]) (bo_ 9 0) (by kernel_rfl) rfl rfl ⟨bc_ ba.out 0, bc_ ba.out 1, bc_ aa.out 0, bc_ aa.out 1, bc_ aa.out 2, bc_ aa.out 3, bc_ aa.out 4, bc_ aa.out 5, bc_ aa.out 6, bc_ aa.out 7, bc_ aa.out 8⟩ (fun hHeld => ?_); refine with_tabW database_Add.tab12 database_Add.bits12 (fun HT_ HW_ => ?_)
     generalize ne.drew = kf at ba aa oa HB hHeld ⊢
     refine pU_ 0 (some 44) (bo_ 9 1) ?_
     refine pU_ 3 (some 47) (bo_ 9 9) ?_
     refine take_ (i := 1) (N := some 45) (v := ?_) (a' := ?_) (bo_ 9 11) rfl rfl (take_ofW HT_.out HW_.out (by kernel_rfl)) (fun _ _ _ h => h) (Or.inl ⟨by rfl, ?_⟩) hHeld ?_ ?_
     rotate_left; (· rintro w' ⟨s0, s1, s2, s3, s4, s5, s6, s7, s8, s9, oe⟩; go_simp; with_reducible rfl)
     rotate_left; (· simp only [Act.put,sA_,sB_,sC_,i64_w,i32_w]; rfl)
     refine take_ (i := 4) (N := some 48) (v := ?_) (a' := ?_) (bo_ 9 27) rfl rfl (take_ofW HT_.out HW_.out (by kernel_rfl)) (fun _ _ _ h => h) (Or.inl ⟨by rfl, ?_⟩) hHeld ?_ ?_
     rotate_left; (· rintro w' ⟨s0, s1, s2, s3, s4, s5, s6, s7, s8, s9, oe⟩; go_simp; with_reducible rfl)
     rotate_left; (· simp only [Act.put,sA_,sB_,sC_,i64_w,i32_w]; rfl)
     refine join_ (σ := Value × Value) 3 (bo_ 9 63) (fun s_ => [(46, s_.1), (49, s_.2)]) (fun s_ w' => (w'.cell? ⟨ra, 0, none⟩ = some (.string da) ∧ w'.cell? ⟨ra, 1, none⟩ = some (.slice pa ea.length qa) ∧ w'.cell? ⟨ca, 0, none⟩ = some (.string fa) ∧ w'.cell? ⟨ca, 1, none⟩ = some (.string ga) ∧ w'.cell? ⟨ca, 2, none⟩ = some (.int .u64 ha) ∧ w'.cell? ⟨ca, 3, none⟩ = some (.int .i64 ia) ∧ w'.cell? ⟨ca, 4, none⟩ = some (.int .i64 ja) ∧ w'.cell? ⟨ca, 5, none⟩ = some (.int .i64 ka) ∧ w'.cell? ⟨ca, 6, none⟩ = some (.int .i64 la) ∧ w'.cell? ⟨ca, 7, none⟩ = some (.int .i64 ma) ∧ w'.cell? ⟨ca, 8, none⟩ = some (.int .i64 na)) ∧ (Kd.R k35 35 w' w.heap.size (fun k_ => some k_ ≠ (s_.2 : Value).ownBlock ∧ k_ ≠ ca) s_.1 Ga) ∧ (Kd.R k35 35 w' w.heap.size (fun k_ => some k_ ≠ (s_.1 : Value).ownBlock ∧ k_ ≠ ca) s_.2 nb) ∧ (w'.heap[ra]? = some (.cells #[.string da, .slice pa ea.length qa] 24 (0, 0))) ∧ (w'.heap[ca]? = some (.cells #[.string fa, .string ga, .int .u64 ha, .int .i64 ia, .int .i64 ja, .int .i64 ka, .int .i64 la, .int .i64 ma, .int .i64 na] 35 (0, 0))) ∧ (w'.heap[ua]? = some (.cells #[.string (⟨#[]⟩ : ByteArray), .slice none 0 0] 24 (0, 0))) ∧ (Below w.heap.size w w')) ?_ ?_
     rotate_left
     ·intro hCont
      refine two_ (i := 2) (j := 5) (Ni := some 46) (Nj := some 49) (bo_ 9 31) (bo_ 9 59) rfl rfl rfl rfl (two_of HT_.out (by kernel_rfl)) (by decide) (by decide) (fun K hK => ?_) (fun K hK => ?_)
      ·skip
       refine goes_ Tryd.func51 (by kernel_rfl) rfl #[.slice pa ea.length qa] (by rfl) rfl rfl aR_ ?_
       with_reducible refine (api_Entry_51.calls _ _ ea Ga _ ?side1 ?side2 Yb.out).mono ?_
       (case side1 => repeat (first | exact (Kd.C_below La.out HB.out) | (with_reducible refine Kd.C_alloc ?_ _) | (with_reducible refine Kd.C_drewN ?_ _) | (with_reducible refine Kd.C_drew ?_)))
       (case side2 => exact gb.out)
       rintro e pe ⟨ob, rfl, Fa, hb⟩
       refine ⟨_, rfl, ?_⟩
       have wa := aM_ (Kd.R_lower (Kd.R_newB Fa (g := ca) (o := .cells #[.string fa, .string ga, .int .u64 ha, .int .i64 ia, .int .i64 ja, .int .i64 ka, .int .i64 la, .int .i64 ma, .int .i64 na] 35 (0, 0)) (bk_ aa.out)) (below_size hB_))
       replace ba := aM_ (blk_below (g := ra) (o := .cells #[.string da, .slice pa ea.length qa] 24 (0, 0)) (bk_ ba.out) hb)
       replace aa := aM_ (blk_below (g := ca) (o := .cells #[.string fa, .string ga, .int .u64 ha, .int .i64 ia, .int .i64 ja, .int .i64 ka, .int .i64 la, .int .i64 ma, .int .i64 na] 35 (0, 0)) (bk_ aa.out) hb)
       replace oa := aM_ (blk_below (g := ua) (o := .cells #[.string (⟨#[]⟩ : ByteArray), .slice none 0 0] 24 (0, 0)) (bk_ oa.out) hb)
       replace HB := aM_ (below_step hB_ hb)
       clear hb Fa
       refine hK.out _ _ ⟨bc_ ba.out 0, bc_ ba.out 1, bc_ aa.out 0, bc_ aa.out 1, bc_ aa.out 2, bc_ aa.out 3, bc_ aa.out 4, bc_ aa.out 5, bc_ aa.out 6, bc_ aa.out 7, bc_ aa.out 8⟩ (fun hHeld => ?_)
       clear hK K
       refine nO_ 46 ?_
       refine one_ (i := 5) (N := some 49) (bo_ 9 63) rfl rfl (one_of HT_.out (by kernel_rfl)) (by decide) (fun K hK => ?_)
       refine Kd.R_lit_step k35 _ 35 ?hg (N := 49) ?hd (xs := ([(⟨fa, ga, ha, ia, ja, ka, la, ma, na⟩ : S35)] : List (S35))) (inner := [.string fa, .string ga, .int .u64 ha, .int .i64 ia, .int .i64 ja, .int .i64 ka, .int .i64 la, .int .i64 ma, .int .i64 na]) (ok := fun _ => True) (okp := fun _ => True) ?hr ?hp (fun _ hk => hk) trivial (Below.refl _ _) (Nat.le_refl _) (by simp) ?_; (case hd => rfl); (case hg => rfl); (case hr => first | (go_simp; done) | (go_simp; rfl)); (case hp => exact (Reps.c9 (show Kd.M k35 _ _ _ (⟨fa, ga, ha, ia, ja, ka, la, ma, na⟩ : S35) [.string fa, .string ga, .int .u64 ha, .int .i64 ia, .int .i64 ja, .int .i64 ka, .int .i64 la, .int .i64 ma, .int .i64 na] from (k35_mkM _ _ _ (⟨fa, ga, ha, ia, ja, ka, la, ma, na⟩ : S35) )) (Reps.none _ _)))
       intro pb lf qb hb hg_ hnew_
       clear hg_ hnew_
       (first | rw [← Ny157.out] at qb | (simp only [Int.reduceToNat] at qb; rw [← Ny157.out] at qb))
       have xa := aM_ (Kd.R_lower (Kd.R_newB (Kd.R_new' qb (Kd.R_lt (bk_ wa.out))) (g := ca) (o := .cells #[.string fa, .string ga, .int .u64 ha, .int .i64 ia, .int .i64 ja, .int .i64 ka, .int .i64 la, .int .i64 ma, .int .i64 na] 35 (0, 0)) (bk_ aa.out)) (below_size hB_))
       replace wa := aM_ (Kd.R_elder' (bk_ wa.out) (Kd.R_base qb) hb)
       replace ba := aM_ (blk_below (g := ra) (o := .cells #[.string da, .slice pa ea.length qa] 24 (0, 0)) (bk_ ba.out) hb)
       replace aa := aM_ (blk_below (g := ca) (o := .cells #[.string fa, .string ga, .int .u64 ha, .int .i64 ia, .int .i64 ja, .int .i64 ka, .int .i64 la, .int .i64 ma, .int .i64 na] 35 (0, 0)) (bk_ aa.out) hb)
       replace oa := aM_ (blk_below (g := ua) (o := .cells #[.string (⟨#[]⟩ : ByteArray), .slice none 0 0] 24 (0, 0)) (bk_ oa.out) hb)
       replace HB := aM_ (below_step hB_ hb)
       clear hb qb
       refine hK.out _ _ ⟨bc_ ba.out 0, bc_ ba.out 1, bc_ aa.out 0, bc_ aa.out 1, bc_ aa.out 2, bc_ aa.out 3, bc_ aa.out 4, bc_ aa.out 5, bc_ aa.out 6, bc_ aa.out 7, bc_ aa.out 8⟩ (fun hHeld => ?_)
       clear hK K
       refine nO_ 49 ?_
       exact norm_ (by simp only [putAll, Act.put, sA_, sB_, sC_]) (hCont (ob, pb) _ ⟨hHeld, (by refine bk_ ?_; exact Kd.R_mono wa.out (fun _ hk => ⟨hk.2, hk.1.2⟩)), (by refine bk_ ?_; exact Kd.R_mono xa.out (fun _ hk => ⟨hk.1.2, hk.2⟩)), (bk_ ba.out), (bk_ aa.out), (bk_ oa.out), hB_⟩)
      skip
      refine Kd.R_lit_step k35 _ 35 ?hg (N := 49) ?hd (xs := ([(⟨fa, ga, ha, ia, ja, ka, la, ma, na⟩ : S35)] : List (S35))) (inner := [.string fa, .string ga, .int .u64 ha, .int .i64 ia, .int .i64 ja, .int .i64 ka, .int .i64 la, .int .i64 ma, .int .i64 na]) (ok := fun _ => True) (okp := fun _ => True) ?hr ?hp (fun _ hk => hk) trivial (Below.refl _ _) (Nat.le_refl _) (by simp) ?_; (case hd => rfl); (case hg => rfl); (case hr => first | (go_simp; done) | (go_simp; rfl)); (case hp => exact (Reps.c9 (show Kd.M k35 _ _ _ (⟨fa, ga, ha, ia, ja, ka, la, ma, na⟩ : S35) [.string fa, .string ga, .int .u64 ha, .int .i64 ia, .int .i64 ja, .int .i64 ka, .int .i64 la, .int .i64 ma, .int .i64 na] from (k35_mkM _ _ _ (⟨fa, ga, ha, ia, ja, ka, la, ma, na⟩ : S35) )) (Reps.none _ _)))
      intro pb pe xb hb hg_ hnew_
      clear hg_ hnew_
      (first | rw [← Ny157.out] at xb | (simp only [Int.reduceToNat] at xb; rw [← Ny157.out] at xb))
      have xa := aM_ (Kd.R_lower (Kd.R_newB xb (g := ca) (o := .cells #[.string fa, .string ga, .int .u64 ha, .int .i64 ia, .int .i64 ja, .int .i64 ka, .int .i64 la, .int .i64 ma, .int .i64 na] 35 (0, 0)) (bk_ aa.out)) (below_size hB_))
      replace ba := aM_ (blk_below (g := ra) (o := .cells #[.string da, .slice pa ea.length qa] 24 (0, 0)) (bk_ ba.out) hb)
      replace aa := aM_ (blk_below (g := ca) (o := .cells #[.string fa, .string ga, .int .u64 ha, .int .i64 ia, .int .i64 ja, .int .i64 ka, .int .i64 la, .int .i64 ma, .int .i64 na] 35 (0, 0)) (bk_ aa.out) hb)
      replace oa := aM_ (blk_below (g := ua) (o := .cells #[.string (⟨#[]⟩ : ByteArray), .slice none 0 0] 24 (0, 0)) (bk_ oa.out) hb)
      replace HB := aM_ (below_step hB_ hb)
      clear hb xb
      refine hK.out _ _ ⟨bc_ ba.out 0, bc_ ba.out 1, bc_ aa.out 0, bc_ aa.out 1, bc_ aa.out 2, bc_ aa.out 3, bc_ aa.out 4, bc_ aa.out 5, bc_ aa.out 6, bc_ aa.out 7, bc_ aa.out 8⟩ (fun hHeld => ?_)
      clear hK K
      refine nO_ 49 ?_
      refine one_ (i := 2) (N := some 46) (bo_ 9 63) rfl rfl (one_of HT_.out (by kernel_rfl)) (by decide) (fun K hK => ?_)
      refine goes_ Tryd.func51 (by kernel_rfl) rfl #[.slice pa ea.length qa] (by rfl) rfl rfl aR_ ?_
      with_reducible refine (api_Entry_51.calls _ _ ea Ga _ ?side1 ?side2 Yb.out).mono ?_
      (case side1 => repeat (first | exact (Kd.C_below La.out HB.out) | (with_reducible refine Kd.C_alloc ?_ _) | (with_reducible refine Kd.C_drewN ?_ _) | (with_reducible refine Kd.C_drew ?_)))
      (case side2 => exact gb.out)
      rintro e mf ⟨ob, rfl, Fa, hb⟩
      refine ⟨_, rfl, ?_⟩
      have wa := aM_ (Kd.R_lower (Kd.R_newB (Kd.R_new' Fa (Kd.R_lt (bk_ xa.out))) (g := ca) (o := .cells #[.string fa, .string ga, .int .u64 ha, .int .i64 ia, .int .i64 ja, .int .i64 ka, .int .i64 la, .int .i64 ma, .int .i64 na] 35 (0, 0)) (bk_ aa.out)) (below_size hB_))
      replace xa := aM_ (Kd.R_elder' (bk_ xa.out) (Kd.R_base Fa) hb)
      replace ba := aM_ (blk_below (g := ra) (o := .cells #[.string da, .slice pa ea.length qa] 24 (0, 0)) (bk_ ba.out) hb)
      replace aa := aM_ (blk_below (g := ca) (o := .cells #[.string fa, .string ga, .int .u64 ha, .int .i64 ia, .int .i64 ja, .int .i64 ka, .int .i64 la, .int .i64 ma, .int .i64 na] 35 (0, 0)) (bk_ aa.out) hb)
      replace oa := aM_ (blk_below (g := ua) (o := .cells #[.string (⟨#[]⟩ : ByteArray), .slice none 0 0] 24 (0, 0)) (bk_ oa.out) hb)
      replace HB := aM_ (below_step hB_ hb)
      clear hb Fa
      refine hK.out _ _ ⟨bc_ ba.out 0, bc_ ba.out 1, bc_ aa.out 0, bc_ aa.out 1, bc_ aa.out 2, bc_ aa.out 3, bc_ aa.out 4, bc_ aa.out 5, bc_ aa.out 6, bc_ aa.out 7, bc_ aa.out 8⟩ (fun hHeld => ?_)
      clear hK K
      refine nO_ 46 ?_
      exact norm_ (by simp only [putAll, Act.put, sA_, sB_, sC_]) (hCont (ob, pb) _ ⟨hHeld, (by refine bk_ ?_; exact Kd.R_mono wa.out (fun _ hk => ⟨hk.1.2, hk.2⟩)), (by refine bk_ ?_; exact Kd.R_mono xa.out (fun _ hk => ⟨hk.2, hk.1.2⟩)), (bk_ ba.out), (bk_ aa.out), (bk_ oa.out), hB_⟩)
     rintro ⟨ob, pb⟩ Ca ⟨hS_, h0_, h1_, h2_, Bd, Cd, Dd⟩
     have Zb : Aside0 (Kd.R k35 35 Ca w.heap.size (fun k_ => some k_ ≠ (pb : Value).ownBlock ∧ k_ ≠ ca) ob Ga) := ⟨h0_⟩
     have Ed : Aside0 (Kd.R k35 35 Ca w.heap.size (fun k_ => some k_ ≠ (ob : Value).ownBlock ∧ k_ ≠ ca) pb nb) := ⟨h1_⟩
     have Fd : Aside0 (Ca.heap[ra]? = some (.cells #[.string da, .slice pa ea.length qa] 24 (0, 0))) := ⟨h2_⟩
     have Gd : Aside0 (Ca.heap[ca]? = some (.cells #[.string fa, .string ga, .int .u64 ha, .int .i64 ia, .int .i64 ja, .int .i64 ka, .int .i64 la, .int .i64 ma, .int .i64 na] 35 (0, 0))) := ⟨Bd⟩
     have Hd : Aside0 (Ca.heap[ua]? = some (.cells #[.string (⟨#[]⟩ : ByteArray), .slice none 0 0] 24 (0, 0))) := ⟨Cd⟩
     have Id : Aside0 (Below w.heap.size w Ca) := ⟨Dd⟩
     clear ba aa oa HB
     clear h0_ h1_ h2_ Bd Cd Dd
     have wa := Zb
     have xa := Ed
     have ba := Fd
     have aa := Gd
     have oa := Hd
     have HB := Id
     clear Zb Ed Fd Gd Hd Id
     have hHeld : Ca.cell? ⟨ra, 0, none⟩ = some (.string da) ∧ Ca.cell? ⟨ra, 1, none⟩ = some (.slice pa ea.length qa) ∧ Ca.cell? ⟨ca, 0, none⟩ = some (.string fa) ∧ Ca.cell? ⟨ca, 1, none⟩ = some (.string ga) ∧ Ca.cell? ⟨ca, 2, none⟩ = some (.int .u64 ha) ∧ Ca.cell? ⟨ca, 3, none⟩ = some (.int .i64 ia) ∧ Ca.cell? ⟨ca, 4, none⟩ = some (.int .i64 ja) ∧ Ca.cell? ⟨ca, 5, none⟩ = some (.int .i64 ka) ∧ Ca.cell? ⟨ca, 6, none⟩ = some (.int .i64 la) ∧ Ca.cell? ⟨ca, 7, none⟩ = some (.int .i64 ma) ∧ Ca.cell? ⟨ca, 8, none⟩ = some (.int .i64 na) := hS_
     obtain ⟨ec, fc, id⟩ := Kd.R_slice wa.out
     (first | subst id | (injection id with f1_ f2_ f3_; have f4_ := f1_.symm; have f5_ := f3_.symm; clear f1_ f2_ f3_; subst f4_; subst f5_))
     obtain ⟨jd, kd, ld⟩ := Kd.R_slice xa.out
     (first | subst ld | (injection ld with f1_ f2_ f3_; have f4_ := f1_.symm; have f5_ := f3_.symm; clear f1_ f2_ f3_; subst f4_; subst f5_))
     refine nP_ ?_
     refine one_ (i := 6) (N := some 50) (bo_ 9 127) rfl rfl (one_of HT_.out (by kernel_rfl)) (by decide) (fun K hK => ?_)
     refine goes_ Tryd.func50 (by kernel_rfl) rfl #[.slice ec Ga.length fc, .int .i64 bb, .slice jd nb.length kd] (by rfl) rfl rfl aR_ ?_
     with_reducible refine (api_Entry_50.calls (fun k_ => some k_ = (.slice ec Ga.length fc : Value).ownBlock) (.slice ec Ga.length fc) Ga bb _ _ nb Va w _ ?side1 ?side2 ?side3 ?side4 me.out).mono ?_
     (case side1 => repeat (first | (with_reducible first | exact HB.out | apply bA_ | apply bN_ | apply bD_ | refine bS_ ?_ td.out | refine bS_ ?_ ud.out | refine bS_ ?_ vd.out) | exact HB.out))
     (case side2 => exact Kd.R_tight rfl wa.out)
     (case side3 => exact Kd.C_kept_own (xa.out) (fun k_ hk_ hs_ => (hk_.1) hs_))
     (case side4 => exact (Kd.R_reads' xa.out).2.1)
     rintro e qe ⟨Yd, rfl, Fa, hb, hkp⟩
     refine ⟨_, rfl, ?_⟩
     replace ba := aM_ (blk_kept (bk_ ba.out) hkp (fun hs_ => (fun e_ => (Kd.R_ne wa.out ba.out (by decide)) e_) hs_))
     replace oa := aM_ (blk_kept (bk_ oa.out) hkp (fun hs_ => (fun e_ => (Kd.R_ne wa.out oa.out (by decide)) e_) hs_))
     have mc := aM_ (Kd.R_mono (ok' := fun k_ => some k_ ≠ (.slice jd nb.length kd : Value).ownBlock ∧ k_ ≠ ca) Fa (fun k_ hk_ => ⟨Or.elim hk_ (fun hs_ => fun e_ => (((xa.out).1 k_ e_.symm).1) hs_) (fun hn_ => (Kd.fresh' (Kd.R_lt (bk_ xa.out)) k_ hn_)), Or.elim hk_ (fun hs_ => fun e_ => (Kd.R_away wa.out (fun _ hk => hk.2)) (by rw [← e_]; exact hs_)) (fun hn_ => (Kd.freshB (g := ca) (o := .cells #[.string fa, .string ga, .int .u64 ha, .int .i64 ia, .int .i64 ja, .int .i64 ka, .int .i64 la, .int .i64 ma, .int .i64 na] 35 (0, 0)) (bk_ aa.out) k_ hn_))⟩))
     replace aa := aM_ (blk_kept (bk_ aa.out) hkp (fun hs_ => (fun e_ => (Kd.R_away wa.out (fun _ hk => hk.2)) e_) hs_))
     replace xa := aM_ (Kd.R_mono (ok' := fun k_ => k_ ≠ ca ∧ some k_ ≠ (Yd : Value).ownBlock) (Kd.R_keptB (xa.out) hkp (fun k_ hk_ hs_ => (hk_.1) hs_)) (fun k_ hk_ => ⟨hk_.1.2, fun e_ => Or.elim (Fa.1 k_ e_.symm) (fun hs_ => hk_.2.1 hs_) (fun hn_ => Nat.not_le.2 hk_.2.2 hn_)⟩))
     replace HB := aM_ (hb)
     clear wa
     clear hb hkp Fa
     obtain ⟨gc, hc, md⟩ := Kd.R_slice mc.out
     (first | subst md | (injection md with f1_ f2_ f3_; have f4_ := f1_.symm; have f5_ := f3_.symm; clear f1_ f2_ f3_; subst f4_; subst f5_))
     refine hK.out _ _ ⟨bc_ ba.out 0, bc_ ba.out 1, bc_ aa.out 0, bc_ aa.out 1, bc_ aa.out 2, bc_ aa.out 3, bc_ aa.out 4, bc_ aa.out 5, bc_ aa.out 6, bc_ aa.out 7, bc_ aa.out 8⟩ (fun hHeld => ?_)
     clear hK K
     refine nO_ 50 ?_
     refine pU_ 7 (some 51) (bo_ 9 255) ?_
     refine last_ (i := 8) (N := none) (bo_ 9 511) rfl rfl (one_of HT_.out (by kernel_rfl)) (by decide) (fun K hK => ?_)
     have hs32 : qe.cell? ⟨ra, 1, none⟩ = some (.slice pa ea.length qa) := bc_ ba.out 1
     have hfs32 := blk_frozen ba.out 1
     have hns32_1 := Za.out
     have hns32_2 := Ha.out
     have hms32_1 := Ya.out
     have hms32_2 := ab.out
     refine skip_ (w1 := ?_) (by rfl) rfl ?_ ?_
     rotate_left; (· go_simp; rfl)
     refine hK.out _ _ ?_
     clear hK K
     refine done_ (done_of HT_.out (by kernel_rfl)) ?_
     have Be := Ya.out
     have Ce := Za.out
     have De := ab.out
     have Ee := Ha.out
     have ae := bc_ ba.out 0
     have be := bc_ ba.out 1
     have ce := blk_frozen ba.out 0
     have de := blk_frozen ba.out 1
     have Fe := ub.out
     have Ge := tb.out
     have ee := bc_ oa.out 0
     have fe := bc_ oa.out 1
     have ge := blk_frozen oa.out 0
     have he := blk_frozen oa.out 1
     try go_wp2
     refine bodyPost_ret (results_ct rfl _ _ ua 24 #[.string da, .slice gc Va.length hc] (0, 0) _ rfl (by refine bk_ ?_; refine blk_put (cs := #[.string da, .slice none 0 0]) ?_ 1 _ rfl; refine bk_ ?_; refine blk_put (cs := #[.string (⟨#[]⟩ : ByteArray), .slice none 0 0]) ?_ 0 _ rfl; refine bk_ ?_; refine blk_far ?_ Ha.out _; refine bk_ ?_; exact oa.out) Tryd.underlying24 rfl (by kernel_rfl)) rfl ?_
     exact ⟨_, eW_, by refine bk_ ?_; exact Kd.R_mono (Kd.R_far (p := ⟨ua, 1, none⟩) (Kd.R_far (p := ⟨ua, 0, none⟩) (Kd.R_far (p := ⟨ra, 1, none⟩) (Kd.R_types (Kd.R_types mc.out ba.out (by decide)) oa.out (by decide)) (fun _ hk => hk.1.2) (.slice gc Va.length hc)) (fun _ hk => hk.2) (.string da)) (fun _ hk => hk.2) (.slice gc Va.length hc)) (fun _ hk => trivial), hB_⟩
  rw [if_neg c6] at H
  exact absurd H (by simp)
 rw [if_neg c4] at H
 exact absurd H (by simp)

/-! ### database_Dump: function 32 -/
def database_Dump.f (k : Nat) (da : ByteArray) (ea : List (S35)) : Option (ByteArray × Int) := (database_Check.f k da ea).bind fun t => (if t = 0 then (if ea.length = 0 then (if da.size + 1 ≤ 140737488355328 then some (da ++ (⟨#[10]⟩ : ByteArray), 0) else none) else none) else some ((⟨#[]⟩ : ByteArray), t))
set_option maxHeartbeats 8000000 in
set_option maxRecDepth 100000 in
theorem database_Dump.calls (k : Nat) (da : ByteArray) (pa : Option Addr) (qa : Nat) (ea : List (S35)) (r1 : ByteArray) (r2 : Int) (w : World) (hr0_1 : Kd.C k35 w pa ea.length ea) (hc0_1 : ea.length ≤ qa) (h : database_Dump.f k da ea = some (r1, r2)) :
 Calls Tryd.prog 32 #[.agg #[.string da, .slice pa ea.length qa]] w fun e w' => e = .returned (.tuple #[.string r1, .int .i64 r2]) ∧ Below w.heap.size w w' := by
 have hu24 := Tryd.underlying24
 have La := aM_ hr0_1
 have gb := aM_ hc0_1
 clear hr0_1 hc0_1
 have HB := aM_ (Below.refl w.heap.size w)
 have H : ((database_Check.f k da ea).bind fun t => (if t = 0 then (if ea.length = 0 then (if da.size + 1 ≤ 140737488355328 then some (da ++ (⟨#[10]⟩ : ByteArray), 0) else none) else none) else some ((⟨#[]⟩ : ByteArray), t))) = some (r1, r2) := h
 clear h
 replace H := Option.bind_eq_some_iff.mp H
 obtain ⟨Rb, sb, H⟩ := H
 have A3 := aM_ sb
 clear sb
 by_cases c4 : Rb = 0
 ·rw [if_pos c4] at H
  by_cases c5 : ea.length = 0
  ·rw [if_pos c5] at H
   by_cases c6 : da.size + 1 ≤ 140737488355328
   ·rw [if_pos c6] at H
    simp only [Option.some.injEq, Prod.mk.injEq] at H
    obtain ⟨rfl, rfl⟩ := H
    subst c4
    obtain rfl : ea = [] := List.eq_nil_of_length_eq_zero c5
    clear c5
    have Zc : Aside0 (Kd.C k35 w pa 0 []) := ⟨La.out⟩
    have yd : Aside0 (0 ≤ qa) := ⟨Nat.zero_le _⟩
    clear La gb
    show Calls Tryd.prog 32 #[.agg #[.string da, .slice pa 0 qa]] w fun e w' => e = .returned (.tuple #[.string (da ++ (⟨#[10]⟩ : ByteArray)), .int .i64 0]) ∧ Below w.heap.size w w'
    have nf : (9223372036854775807 < da.size + 1) = False := eq_false (by omega)
    have hs1 : (da ++ (⟨#[10]⟩ : ByteArray)).size = da.size + 1 := by rw [ByteArray.size_append]; rfl
    go_enter Tryd.func32, Tryd.ntmps32
    go_wp2_with (first | ((with_reducible refine gate_dst (N := 1) rfl ?_); refine box_event ?hg (N := 1) ?hd (cs := #[.string da, .slice pa 0 qa]) (t := 24) ?hr ?_; (case hd => rfl); (case hg => rfl); (case hr => first | (go_simp; done) | (go_simp; rfl)); intro Aa hg w8 hbox hb; have Ma : w8.cell? ⟨Aa, 0, none⟩ = some (.string da) := (blk_cell hbox 0).trans rfl; have Na : w8.cell? ⟨Aa, 1, none⟩ = some (.slice pa 0 qa) := (blk_cell hbox 1).trans rfl; have Oa := blk_frozen hbox 0; have Pa := blk_frozen hbox 1; have HB1 := aM_ (below_step HB.out hb); have BK := aM_ hbox; have GW := aM_ ((by rw [hg]; exact Nat.le_refl _) : w.heap.size ≤ Aa); clear hbox hb hg) | ((with_reducible refine gate_callee (f := 10) rfl ?_); refine goesL_ (some 9) rfl rfl Tryd.func10 (by kernel_rfl) rfl #[.agg #[.string da, .slice pa 0 qa]] rfl (by (try simp only [List.map_toArray, List.map_cons, List.map_nil]); first | done | rfl) ?_; (refine (database_Check.calls k da pa qa [] 0 w8 ?side1 ?side2 A3.out).mono ?_); (case side1 => exact Kd.C_below Zc.out HB1.out); (case side2 => exact yd.out); rintro e w9 ⟨rfl, hb⟩; refine ⟨_, rfl, ?_⟩; have cb := aM_ (blk_below BK.out hb); have HB2 := aM_ (below_step HB1.out hb); clear hb Ma Na Oa Pa; have Ma := bc_ cb.out 0; have Na := bc_ cb.out 1; have Oa := blk_frozen cb.out 0; have Pa := blk_frozen cb.out 1) | ((with_reducible refine gate_dst (N := 5) rfl ?_); refine box_event ?hg (N := 5) ?hd (cs := #[.pointer none, .slice none 0 0]) (t := 78) ?hr ?_; (case hd => rfl); (case hg => rfl); (case hr => first | (go_simp; done) | (go_simp; rfl)); intro gB hgB wB hboxB hbB; have ac := aM_ (blk_below cb.out hbB); have HB3 := aM_ (below_step HB2.out hbB); have hlt : Aside0 (Aa < gB) := ⟨by rw [hgB]; exact blk_lt cb.out⟩; have hGB : Aside0 (w.heap.size ≤ gB) := ⟨by rw [hgB]; exact below_size HB2.out⟩; have hIB : Aside0 (Lib.IsBuilder 78 5 gB gB [] wB) := ⟨Or.inl ⟨Nat.le_refl _, .slice none 0 0, hboxB, World.ownsRow_nil _ _ _ _, by simp [Value.ownBlock]⟩⟩; have hltB : Aside0 (gB < wB.heap.size) := ⟨blk_lt hboxB⟩; clear hgB hboxB hbB Ma Na Oa Pa; have Ma := bc_ ac.out 0; have Na := bc_ ac.out 1; have Oa := blk_frozen ac.out 0; have Pa := blk_frozen ac.out 1) | ((with_reducible refine gate_callee (f := 55) rfl ?_); refine goesL_ (some 16) rfl rfl Tryd.func55 (by kernel_rfl) rfl #[.pointer (some ⟨gB, 0, none⟩), .string (da ++ (⟨#[10]⟩ : ByteArray))] rfl (by (try simp only [List.map_toArray, List.map_cons, List.map_nil]); first | done | rfl) ?_; (with_reducible refine (Tryd.Builder_WriteString gB gB [] (da ++ (⟨#[10]⟩ : ByteArray)) _ hIB.out ?side1 ?side2).mono ?_); (case side1 => exact (by rw [hs1, List.length_nil, Nat.zero_add]; exact c6)); (case side2 => exact Nat.le_of_lt hltB.out); rintro e kb ⟨rfl, hbl, hb⟩; refine ⟨_, rfl, ?_⟩; have nc : Aside0 (kb.heap[Aa]? = some (.cells #[.string da, .slice pa 0 qa] 24 (0, 0))) := ⟨(hb.block Aa hlt.out).trans ac.out⟩; have HB4 := aM_ (below_weaken HB3.out hGB.out hb); have hIB4 : Aside0 (Lib.IsBuilder 78 5 gB gB (Lib.byteCells (da ++ (⟨#[10]⟩ : ByteArray)).data.toList) kb) := ⟨Or.inr (by rw [List.nil_append, Lib.strCells_eq] at hbl; exact hbl)⟩; have hlt4 : Aside0 (gB ≤ kb.heap.size) := ⟨Nat.le_of_lt (Nat.lt_of_lt_of_le hltB.out hb.size)⟩; clear hbl hb Ma Na Oa Pa; have Ma := bc_ nc.out 0; have Na := bc_ nc.out 1; have Oa := blk_frozen nc.out 0; have Pa := blk_frozen nc.out 1) | ((with_reducible refine gate_callee (f := 57) rfl ?_); refine goesL_ (some 29) rfl rfl Tryd.func57 (by kernel_rfl) rfl #[.pointer (some ⟨gB, 0, none⟩)] rfl (by (try simp only [List.map_toArray, List.map_cons, List.map_nil]); first | done | rfl) ?_; (with_reducible refine (Tryd.Builder_String_any gB gB (da ++ (⟨#[10]⟩ : ByteArray)).data.toList _ hIB4.out hlt4.out).mono ?_); rintro e Jd ⟨rfl, hb⟩; refine ⟨_, rfl, ?_⟩; have HB5 := aM_ (below_weaken HB4.out hGB.out hb)))
    refine wp_loop_once ?_
    go_wp2_with (first | ((with_reducible refine gate_callee (f := 57) rfl ?_); refine goesL_ (some 29) rfl rfl Tryd.func57 (by kernel_rfl) rfl #[.pointer (some ⟨gB, 0, none⟩)] rfl (by (try simp only [List.map_toArray, List.map_cons, List.map_nil]); first | done | rfl) ?_; (with_reducible refine (Tryd.Builder_String_any gB gB (da ++ (⟨#[10]⟩ : ByteArray)).data.toList _ hIB4.out hlt4.out).mono ?_); rintro e Jd ⟨rfl, hb⟩; refine ⟨_, rfl, ?_⟩; have HB5 := aM_ (below_weaken HB4.out hGB.out hb)))
    go_ret2
    refine ⟨?_, HB5.out⟩
    have hq : (⟨(da.data.toList ++ [10]).toArray⟩ : ByteArray) = da ++ (⟨#[10]⟩ : ByteArray) := by
     apply Go.WideShapes.bytes_inj
     simp
    rw [hq]
    rfl
   rw [if_neg c6] at H; cases H
  rw [if_neg c5] at H; cases H
 rw [if_neg c4] at H
 simp only [Option.some.injEq, Prod.mk.injEq] at H
 obtain ⟨rfl, rfl⟩ := H
 have bc : (Rb == 0) = false := by simpa using c4
 have cc : (Rb != 0) = true := by simpa using c4
 go_enter Tryd.func32, Tryd.ntmps32
 go_wp2_with (first | ((with_reducible refine gate_dst (N := 1) rfl ?_); refine box_event ?hg (N := 1) ?hd (cs := #[.string da, .slice pa ea.length qa]) (t := 24) ?hr ?_; (case hd => rfl); (case hg => rfl); (case hr => first | (go_simp; done) | (go_simp; rfl)); intro Aa hg w8 hbox hb; have Ma : w8.cell? ⟨Aa, 0, none⟩ = some (.string da) := (blk_cell hbox 0).trans rfl; have Na : w8.cell? ⟨Aa, 1, none⟩ = some (.slice pa ea.length qa) := (blk_cell hbox 1).trans rfl; have Oa := blk_frozen hbox 0; have Pa := blk_frozen hbox 1; have HB1 := aM_ (below_step HB.out hb); have BK := aM_ hbox; have GW := aM_ ((by rw [hg]; exact Nat.le_refl _) : w.heap.size ≤ Aa); clear hbox hb hg) | ((with_reducible refine gate_callee (f := 10) rfl ?_); refine goesL_ (some 9) rfl rfl Tryd.func10 (by kernel_rfl) rfl #[.agg #[.string da, .slice pa ea.length qa]] rfl (by (try simp only [List.map_toArray, List.map_cons, List.map_nil]); first | done | rfl) ?_; (refine (database_Check.calls k da pa qa ea Rb w8 ?side1 ?side2 A3.out).mono ?_); (case side1 => exact Kd.C_below La.out HB1.out); (case side2 => exact gb.out); rintro e w9 ⟨rfl, hb⟩; refine ⟨_, rfl, ?_⟩; have cb := aM_ (blk_below BK.out hb); have HB2 := aM_ (below_step HB1.out hb); clear hb Ma Na Oa Pa; have Ma := bc_ cb.out 0; have Na := bc_ cb.out 1; have Oa := blk_frozen cb.out 0; have Pa := blk_frozen cb.out 1))
 go_ret2
 exact ⟨by first | rfl | (simp [*]; done), HB2.out⟩

/-! ### kerbsuitelaw12_awake: function 7 -/
def kerbsuitelaw12_awake.f (k : Nat)  : Option (Bool) := (database_Dump.f k (⟨#[82]⟩ : ByteArray) ([] : List (S35))).bind fun lb => ((kerbsuitedata_Long.f 1).bind fun Ja => ((database_Add.f k (⟨#[82]⟩ : ByteArray) ([] : List (S35)) (⟨#[97]⟩ : ByteArray) (⟨#[]⟩ : ByteArray) Ja 0 0 0 0 0 0).bind fun ta => ((database_Find.f k ta.1 ta.2.1 (⟨#[97]⟩ : ByteArray) (⟨#[]⟩ : ByteArray)).bind fun ya => (if lb.2 = 0 then (if lb.1.toList = ([82, 10] : List UInt8) then (if ta.2.2 = 0 then (if ya.2 = 0 then (if ya.1 = 0 then (some ((ta.2.1.length : Int) == 1)) else (none)) else (none)) else (none)) else (none)) else (none)))))
set_option maxHeartbeats 8000000 in
set_option maxRecDepth 100000 in
theorem kerbsuitelaw12_awake.calls (k : Nat)  (r : Bool) (w : World) (h : kerbsuitelaw12_awake.f k  = some r) :
  Calls Tryd.prog 7 #[] w fun e w' => e = .returned (.bool r) ∧ Below w.heap.size w w' := by
 have hu24 := Tryd.underlying24
 have hu35 := Tryd.underlying35
 have HB := aM_ (Below.refl w.heap.size w)
 have H : ((database_Dump.f k (⟨#[82]⟩ : ByteArray) ([] : List (S35))).bind fun lb => ((kerbsuitedata_Long.f 1).bind fun Ja => ((database_Add.f k (⟨#[82]⟩ : ByteArray) ([] : List (S35)) (⟨#[97]⟩ : ByteArray) (⟨#[]⟩ : ByteArray) Ja 0 0 0 0 0 0).bind fun ta => ((database_Find.f k ta.1 ta.2.1 (⟨#[97]⟩ : ByteArray) (⟨#[]⟩ : ByteArray)).bind fun ya => (if lb.2 = 0 then (if lb.1.toList = ([82, 10] : List UInt8) then (if ta.2.2 = 0 then (if ya.2 = 0 then (if ya.1 = 0 then (some ((ta.2.1.length : Int) == 1)) else (none)) else (none)) else (none)) else (none)) else (none)))))) = some r := h
 clear h
 replace H := Option.bind_eq_some_iff.mp H
 obtain ⟨⟨db, eb⟩, Ld, H⟩ := H
 replace H : ((kerbsuitedata_Long.f 1).bind fun Ja => ((database_Add.f k (⟨#[82]⟩ : ByteArray) ([] : List (S35)) (⟨#[97]⟩ : ByteArray) (⟨#[]⟩ : ByteArray) Ja 0 0 0 0 0 0).bind fun ta => ((database_Find.f k ta.1 ta.2.1 (⟨#[97]⟩ : ByteArray) (⟨#[]⟩ : ByteArray)).bind fun ya => (if eb = 0 then (if db.toList = ([82, 10] : List UInt8) then (if ta.2.2 = 0 then (if ya.2 = 0 then (if ya.1 = 0 then (some ((ta.2.1.length : Int) == 1)) else (none)) else (none)) else (none)) else (none)) else (none))))) = some r := H
 have A1 := aM_ Ld
 clear Ld
 replace H := Option.bind_eq_some_iff.mp H
 obtain ⟨Ja, Yb, H⟩ := H
 replace H : ((database_Add.f k (⟨#[82]⟩ : ByteArray) ([] : List (S35)) (⟨#[97]⟩ : ByteArray) (⟨#[]⟩ : ByteArray) Ja 0 0 0 0 0 0).bind fun ta => ((database_Find.f k ta.1 ta.2.1 (⟨#[97]⟩ : ByteArray) (⟨#[]⟩ : ByteArray)).bind fun ya => (if eb = 0 then (if db.toList = ([82, 10] : List UInt8) then (if ta.2.2 = 0 then (if ya.2 = 0 then (if ya.1 = 0 then (some ((ta.2.1.length : Int) == 1)) else (none)) else (none)) else (none)) else (none)) else (none)))) = some r := H
 have A2 := aM_ Yb
 clear Yb
 replace H := Option.bind_eq_some_iff.mp H
 obtain ⟨⟨fb, Ka, rb⟩, sb, H⟩ := H
 replace H : ((database_Find.f k fb Ka (⟨#[97]⟩ : ByteArray) (⟨#[]⟩ : ByteArray)).bind fun ya => (if eb = 0 then (if db.toList = ([82, 10] : List UInt8) then (if rb = 0 then (if ya.2 = 0 then (if ya.1 = 0 then (some ((Ka.length : Int) == 1)) else (none)) else (none)) else (none)) else (none)) else (none))) = some r := H
 have A3 := aM_ sb
 clear sb
 replace H := Option.bind_eq_some_iff.mp H
 obtain ⟨⟨yb, zb⟩, Md, H⟩ := H
 replace H : (if eb = 0 then (if db.toList = ([82, 10] : List UInt8) then (if rb = 0 then (if zb = 0 then (if yb = 0 then (some ((Ka.length : Int) == 1)) else (none)) else (none)) else (none)) else (none)) else (none)) = some r := H
 have A4 := aM_ Md
 clear Md
 by_cases c5 : eb = 0
 ·rw [if_pos c5] at H
  have Od : (eb == 0) = true := beq_iff_eq.mpr c5
  have Pd : (eb != 0) = false := bne_eq_false_iff_eq.mpr c5
  clear c5
  by_cases c6 : db.toList = ([82, 10] : List UInt8)
  ·rw [if_pos c6] at H
   have Kb : (db.toList == ([82, 10] : List UInt8)) = true := beq_iff_eq.mpr c6
   have Lb : (db.toList != ([82, 10] : List UInt8)) = false := bne_eq_false_iff_eq.mpr c6
   clear c6
   by_cases c7 : rb = 0
   ·rw [if_pos c7] at H
    have dd : (rb == 0) = true := beq_iff_eq.mpr c7
    have ed : (rb != 0) = false := bne_eq_false_iff_eq.mpr c7
    clear c7
    by_cases c8 : zb = 0
    ·rw [if_pos c8] at H
     have Ze : (zb == 0) = true := beq_iff_eq.mpr c8
     have af : (zb != 0) = false := bne_eq_false_iff_eq.mpr c8
     clear c8
     by_cases c9 : yb = 0
     ·rw [if_pos c9] at H
      have Rd : (yb == 0) = true := beq_iff_eq.mpr c9
      have Sd : (yb != 0) = false := bne_eq_false_iff_eq.mpr c9
      clear c9
      obtain rfl := Option.some.inj H
      go_enter Tryd.func7, Tryd.ntmps7
      go_wp2_with (first | ((with_reducible refine gate_callee (f := 32) rfl ?_); refine goesL_ (some 9) rfl rfl Tryd.func32 (by kernel_rfl) rfl #[.agg #[.string (⟨#[82]⟩ : ByteArray), .slice none 0 0]] rfl aR_ ?_; (refine (database_Dump.calls k (⟨#[82]⟩ : ByteArray) _ _ ([] : List (S35)) db eb _ ?side1 ?side2 A1.out).mono ?_); (case side1 => exact Kd.C_nil _ _); (case side2 => exact Nat.le_refl _); rintro e kb ⟨rfl, hb⟩; refine ⟨_, rfl, ?_⟩; replace HB := aM_ (below_step (bk_ HB.out) hb); clear hb) | ((with_reducible refine gate_callee (f := 13) rfl ?_); refine goesL_ (some 14) rfl rfl Tryd.func13 (by kernel_rfl) rfl #[.int .i64 1] rfl aR_ ?_; (with_reducible refine (kerbsuitedata_Long.calls 1 Ja _ A2.out).mono ?_); rintro e w' ⟨rfl, ⟨nd, rfl⟩⟩; refine ⟨_, rfl, ?_⟩; (try (rw [drewN_self kb]; generalize hq_ : World.drewN kb _ = kb; have Zb : Aside0 (Below w.heap.size w kb) := ⟨by rw [← hq_]; exact (bk_ HB.out)⟩; clear HB hq_; have HB := Zb; clear Zb))) | ((with_reducible refine gate_callee (f := 25) rfl ?_); refine goesL_ (some 16) rfl rfl Tryd.func25 (by kernel_rfl) rfl #[.agg #[.string (⟨#[82]⟩ : ByteArray), .slice none 0 0], .agg #[.string (⟨#[97]⟩ : ByteArray), .string (⟨#[]⟩ : ByteArray), .int .u64 Ja, .int .i64 0, .int .i64 0, .int .i64 0, .int .i64 0, .int .i64 0, .int .i64 0]] rfl aR_ ?_; (refine (database_Add.calls k (⟨#[82]⟩ : ByteArray) _ _ ([] : List (S35)) (⟨#[97]⟩ : ByteArray) (⟨#[]⟩ : ByteArray) Ja 0 0 0 0 0 0 fb Ka rb _ ?side1 ?side2 A3.out).mono ?_); (case side1 => exact Kd.C_nil _ _); (case side2 => exact Nat.le_refl _); rintro e Jd ⟨bf, rfl, Fa, hb⟩; refine ⟨_, rfl, ?_⟩; have Qa := aM_ (Kd.R_lower Fa (below_size (bk_ HB.out))); replace HB := aM_ (below_step (bk_ HB.out) hb); clear hb Fa) | ((with_reducible refine gate_dst (N := 3) rfl ?_); (try (refine gate_guard (by rfl) ?_; dsimp only)); refine box_event ?hg (N := 3) ?hd (cs := #[.string (⟨#[]⟩ : ByteArray), .slice none 0 0]) (t := 24) ?hr ?_; (case hd => rfl); (case hg => rfl); (case hr => first | (go_simp; done) | (go_simp; rfl)); intro Ra hg pf hbox hb; replace Qa := aM_ (Kd.R_below (bk_ Qa.out) hb); have za := aM_ (hbox); have He := aM_ ((by rw [hg]; exact (below_size (bk_ HB.out)) : w.heap.size ≤ Ra)); have Ie := aM_ ((by rw [hg]; exact (below_size (bk_ HB.out)) : w.heap.size ≤ Ra)); replace HB := aM_ (below_step (bk_ HB.out) hb); clear hb hbox hg; have Cb := bc_ za.out 0; have Db := bc_ za.out 1; have Eb := blk_frozen za.out 0; have Fb := blk_frozen za.out 1; obtain ⟨Sb, Ab, Zd⟩ := Kd.R_slice Qa.out; subst Zd) | ((with_reducible refine gate_callee (f := 18) rfl ?_); refine goesL_ (some 21) rfl rfl Tryd.func18 (by kernel_rfl) rfl #[.agg #[.string fb, .slice Sb Ka.length Ab], .string (⟨#[97]⟩ : ByteArray), .string (⟨#[]⟩ : ByteArray)] rfl aR_ ?_; (with_reducible refine (database_Find.calls k fb _ _ Ka (⟨#[97]⟩ : ByteArray) (⟨#[]⟩ : ByteArray) yb zb _ ?side1 ?side2 A4.out).mono ?_); (case side1 => refine (Kd.R_reads' (e := 35) (base := w.heap.size) (ok := fun k_ => True) (n := Ka.length) (c := Ab) ?_).2.2; exact (by refine bk_ ?_; exact (Kd.R_mono (Kd.R_far (p := ⟨Ra, 1, none⟩) (Kd.R_far (p := ⟨Ra, 0, none⟩) (Kd.R_types Qa.out za.out (by decide)) (fun _ hk => hk.2) (.string fb)) (fun _ hk => hk.2) (.slice Sb Ka.length Ab)) (fun _ h_ => h_.1)))); (case side2 => exact (Kd.R_reads' Qa.out).2.1); rintro e qf ⟨rfl, hb⟩; refine ⟨_, rfl, ?_⟩; replace Qa := aM_ (Kd.R_below (by refine bk_ ?_; exact (Kd.R_mono (Kd.R_far (p := ⟨Ra, 1, none⟩) (Kd.R_far (p := ⟨Ra, 0, none⟩) (Kd.R_types Qa.out za.out (by decide)) (fun _ hk => hk.2) (.string fb)) (fun _ hk => hk.2) (.slice Sb Ka.length Ab)) (fun _ h_ => h_.1))) hb); replace za := aM_ (blk_below (g := Ra) (o := .cells #[.string fb, .slice Sb Ka.length Ab] 24 (0, 0)) (by refine bk_ ?_; refine blk_put (cs := #[.string fb, .slice none 0 0]) ?_ 1 _ rfl; refine bk_ ?_; refine blk_put (cs := #[.string (⟨#[]⟩ : ByteArray), .slice none 0 0]) ?_ 0 _ rfl; refine bk_ ?_; exact za.out) hb); replace HB := aM_ (below_step hB_ hb); clear hb; have Gb := bc_ za.out 0; have Hb := bc_ za.out 1; have Ib := blk_frozen za.out 0; have Jb := blk_frozen za.out 1))
      go_ret
      exact ⟨eW_, hB_⟩
     rw [if_neg c9] at H
     exact absurd H (by simp)
    rw [if_neg c8] at H
    exact absurd H (by simp)
   rw [if_neg c7] at H
   exact absurd H (by simp)
  rw [if_neg c6] at H
  exact absurd H (by simp)
 rw [if_neg c5] at H
 exact absurd H (by simp)

end Go.Proofs.YthfdfoigoomaoaaDoor.PDb
