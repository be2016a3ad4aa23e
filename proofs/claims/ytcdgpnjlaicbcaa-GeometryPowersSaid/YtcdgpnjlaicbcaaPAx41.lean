-- Written by a program of this session (mkprint.py: the kit's print, changed) for this claim. Not trusted: Lean checks it.
import Derived.Test.YtcdgpnjlaicbcaaPAx0
import Derived.Test.YtcdgpnjlaicbcaaPAx14
import Derived.Test.YtcdgpnjlaicbcaaPAx23
namespace Go.Proofs.Ytcdgpnjlaicbcaa.PA
open Go.RowKit Go.Proofs.YtcdgpnjlaicbcaaW.PrintWords Go.Proofs.YtcdgpnjlaicbcaaW.PrintLast Go.Proofs.YtcdgpnjlaicbcaaW.PrintMore
attribute [local go_sem] max2_int min2_int max_two min_two max_three min_three max_four min_four   -- for this text's walks alone
-- thin
set_option linter.unusedVariables false
set_option linter.unusedSimpArgs false

/-! ### hopmeshref05_Table: function 35 -/
mutual
def hopmeshref05_Table.l0 : Nat → List (List Int) → Int → List (S28) → List Int → List (S47) → Int → Int → Int → Option ((List (List Int)) × Int)
 | 0, _, _, _, _, _, _, _, _ => none
 | k + 1, x4, x5, x427000, x427001, x427002, x427003, x427004, x427005 => if x5 < (x427000.length : Int) then (hopmeshref05_Table.l1 k x4 x5 (([] : List Int)) 0 x427000 x427001 x427002 x427003 x427004 x427005) else (some (x4, 0))
def hopmeshref05_Table.l1 : Nat → List (List Int) → Int → List Int → Int → List (S28) → List Int → List (S47) → Int → Int → Int → Option ((List (List Int)) × Int)
 | 0, _, _, _, _, _, _, _, _, _, _ => none
 | k + 1, x4, x5, x6, x7, x427000, x427001, x427002, x427003, x427004, x427005 => if x7 < (x427000.length : Int) then ((hopmeshref05_Between.f k x427000 x427001 x427002 x427003 x427004 x427005 x5 x7).bind fun bt434 => (if x6.length < 17592186044416 then (hopmeshref05_Table.l1 k x4 x5 (x6 ++ [bt434.1]) (wrap64 (x7 + 1)) x427000 x427001 x427002 x427003 x427004 x427005) else (none))) else (if x4.length < 5864062014805 then (hopmeshref05_Table.l0 k (x4 ++ [x6]) (wrap64 (x5 + 1)) x427000 x427001 x427002 x427003 x427004 x427005) else (none))
end
def hopmeshref05_Table.f (k : Nat) (l0_0 : List (S28)) (l0_1 : List Int) (l0_2 : List (S47)) (a0_3 : Int) (a0_4 : Int) (a0_5 : Int) : Option ((List (List Int)) × Int) := (hopmeshref05_Check.f k l0_0 l0_1 l0_2 a0_3 a0_4 a0_5).bind fun t427 => (if t427 = 0 then (hopmeshref05_Table.l0 k (([] : List (List Int))) 0 l0_0 l0_1 l0_2 a0_3 a0_4 a0_5) else (some (([] : List (List Int)), 1)))
theorem hopmeshref05_Table.mono_l : ∀ k, (∀ y0 y1 y2 y3 y4 y5 y6 y7, LeO (hopmeshref05_Table.l0 k y0 y1 y2 y3 y4 y5 y6 y7) (hopmeshref05_Table.l0 (k + 1) y0 y1 y2 y3 y4 y5 y6 y7)) ∧ (∀ y0 y1 y2 y3 y4 y5 y6 y7 y8 y9, LeO (hopmeshref05_Table.l1 k y0 y1 y2 y3 y4 y5 y6 y7 y8 y9) (hopmeshref05_Table.l1 (k + 1) y0 y1 y2 y3 y4 y5 y6 y7 y8 y9))
 | 0 => ⟨fun _ _ _ _ _ _ _ _ r h => by simp [hopmeshref05_Table.l0] at h, fun _ _ _ _ _ _ _ _ _ _ r h => by simp [hopmeshref05_Table.l1] at h⟩
 | k + 1 => by
  obtain ⟨ih0, ih1⟩ := hopmeshref05_Table.mono_l k
  refine ⟨?_, ?_⟩
  ·intro y0 y1 y2 y3 y4 y5 y6 y7
   unfold hopmeshref05_Table.l0
   repeat' first
   | (with_reducible exact ih0 _ _ _ _ _ _ _ _)
   | (with_reducible exact ih1 _ _ _ _ _ _ _ _ _ _)
   | (with_reducible exact hopmeshref05_Between.mono _ _ _ _ _ _ _ _ _)
   | (with_reducible exact hopmeshref05_Check.mono _ _ _ _ _ _ _)
   | (with_reducible exact LeO.refl _)
   | (with_reducible exact LeO.none _)
   | (with_reducible refine LeO.ite ?_ ?_)
   | (with_reducible refine LeO.bind ?_ (fun _ => ?_))
   | exact ih0 _ _ _ _ _ _ _ _
   | exact ih1 _ _ _ _ _ _ _ _ _ _
   | exact hopmeshref05_Between.mono _ _ _ _ _ _ _ _ _
   | exact hopmeshref05_Check.mono _ _ _ _ _ _ _
   | exact LeO.none _
   | refine LeO.ite ?_ ?_
   | refine LeO.bind ?_ (fun _ => ?_)
  intro y0 y1 y2 y3 y4 y5 y6 y7 y8 y9
  unfold hopmeshref05_Table.l1
  repeat' first
  | (with_reducible exact ih0 _ _ _ _ _ _ _ _)
  | (with_reducible exact ih1 _ _ _ _ _ _ _ _ _ _)
  | (with_reducible exact hopmeshref05_Between.mono _ _ _ _ _ _ _ _ _)
  | (with_reducible exact hopmeshref05_Check.mono _ _ _ _ _ _ _)
  | (with_reducible exact LeO.refl _)
  | (with_reducible exact LeO.none _)
  | (with_reducible refine LeO.ite ?_ ?_)
  | (with_reducible refine LeO.bind ?_ (fun _ => ?_))
  | exact ih0 _ _ _ _ _ _ _ _
  | exact ih1 _ _ _ _ _ _ _ _ _ _
  | exact hopmeshref05_Between.mono _ _ _ _ _ _ _ _ _
  | exact hopmeshref05_Check.mono _ _ _ _ _ _ _
  | exact LeO.none _
  | refine LeO.ite ?_ ?_
  | refine LeO.bind ?_ (fun _ => ?_)
theorem hopmeshref05_Table.mono : ∀ a0 a1 a2 a3 a4 a5 k, LeO (hopmeshref05_Table.f k a0 a1 a2 a3 a4 a5) (hopmeshref05_Table.f (k + 1) a0 a1 a2 a3 a4 a5) := by
 intro a0 a1 a2 a3 a4 a5 k
 obtain ⟨ih0, ih1⟩ := hopmeshref05_Table.mono_l k
 unfold hopmeshref05_Table.f
 repeat' first
  | (with_reducible exact ih0 _ _ _ _ _ _ _ _)
  | (with_reducible exact ih1 _ _ _ _ _ _ _ _ _ _)
  | (with_reducible exact hopmeshref05_Between.mono _ _ _ _ _ _ _ _ _)
  | (with_reducible exact hopmeshref05_Check.mono _ _ _ _ _ _ _)
  | (with_reducible exact LeO.refl _)
  | (with_reducible exact LeO.none _)
  | (with_reducible refine LeO.ite ?_ ?_)
  | (with_reducible refine LeO.bind ?_ (fun _ => ?_))
  | exact ih0 _ _ _ _ _ _ _ _
  | exact ih1 _ _ _ _ _ _ _ _ _ _
  | exact hopmeshref05_Between.mono _ _ _ _ _ _ _ _ _
  | exact hopmeshref05_Check.mono _ _ _ _ _ _ _
  | exact LeO.none _
  | refine LeO.ite ?_ ?_
  | refine LeO.bind ?_ (fun _ => ?_)
set_option maxHeartbeats 8000000 in
set_option maxRecDepth 100000 in
theorem hopmeshref05_Table.calls (k : Nat) (A0_0 : Option Addr) (c0_0 : Nat) (l0_0 : List (S28)) (A0_1 : Option Addr) (c0_1 : Nat) (l0_1 : List Int) (A0_2 : Option Addr) (c0_2 : Nat) (l0_2 : List (S47)) (a0_3 : Int) (a0_4 : Int) (a0_5 : Int) (r1 : List (List Int)) (r2 : Int) (w : World) (hr0_0 : Kd.C k28 w A0_0 l0_0.length l0_0) (hc0_0 : l0_0.length ≤ c0_0) (hr0_1 : Kd.C (Kd.int .i64) w A0_1 l0_1.length l0_1) (hc0_1 : l0_1.length ≤ c0_1) (hr0_2 : Kd.C k47 w A0_2 l0_2.length l0_2) (hc0_2 : l0_2.length ≤ c0_2) (h : hopmeshref05_Table.f k l0_0 l0_1 l0_2 a0_3 a0_4 a0_5 = some (r1, r2)) :
 Calls Try.prog 35 #[.agg #[.slice A0_0 l0_0.length c0_0, .slice A0_1 l0_1.length c0_1, .slice A0_2 l0_2.length c0_2, .int .i64 a0_3, .int .i64 a0_4, .int .i64 a0_5]] w fun e w' => ∃ v0_ : Value, e = .returned (.tuple #[v0_, .int .i64 r2]) ∧ Kd.S (Kd.slice 3 (Kd.int .i64)) 23 w' w.heap.size (fun _ => True) v0_ r1 ∧ Below w.heap.size w w' := by
 have hu26 := Try.underlying26
 have HR0_0 := Aside0.mk hr0_0
 have HC0_0 := Aside0.mk hc0_0
 clear hr0_0 hc0_0
 have HR0_1 := Aside0.mk hr0_1
 have HC0_1 := Aside0.mk hc0_1
 clear hr0_1 hc0_1
 have HR0_2 := Aside0.mk hr0_2
 have HC0_2 := Aside0.mk hc0_2
 clear hr0_2 hc0_2
 have HB := Aside0.mk (Below.refl w.heap.size w)
 have H : ((hopmeshref05_Check.f k l0_0 l0_1 l0_2 a0_3 a0_4 a0_5).bind fun t427 => (if t427 = 0 then (hopmeshref05_Table.l0 k (([] : List (List Int))) 0 l0_0 l0_1 l0_2 a0_3 a0_4 a0_5) else (some (([] : List (List Int)), 1)))) = some (r1, r2) := h
 clear h
 replace H := Option.bind_eq_some_iff.mp H
 obtain ⟨t427, A20, H⟩ := H
 replace H : (if t427 = 0 then (hopmeshref05_Table.l0 k (([] : List (List Int))) 0 l0_0 l0_1 l0_2 a0_3 a0_4 a0_5) else (some (([] : List (List Int)), 1))) = some (r1, r2) := H
 have A2 := Aside0.mk A20
 clear A20
 by_cases c3 : t427 = 0
 rotate_left
 ·rw [if_neg c3] at H
  have c3b0 : (t427 == 0) = false := beq_eq_false_iff_ne.mpr c3
  have c3b1 : (t427 != 0) = true := bne_iff_ne.mpr c3
  simp only [Option.some.injEq, Prod.mk.injEq] at H
  obtain ⟨rfl, rfl⟩ := H
  go_enter Try.func35, Try.ntmps35
  go_wp2_with (first | ((with_reducible refine gate_dst (N := 1) rfl ?_); refine box_event ?hg (N := 1) ?hd (cs := #[.slice A0_0 l0_0.length c0_0, .slice A0_1 l0_1.length c0_1, .slice A0_2 l0_2.length c0_2, .int .i64 a0_3, .int .i64 a0_4, .int .i64 a0_5]) (t := 26) ?hr ?_; (case hd => rfl); (case hg => rfl); (case hr => first | (go_simp; done) | (go_simp; rfl)); intro gb426 hg w24 hbox hb; have n0_ := Aside0.mk (below_step (by repeat (first | (with_reducible first | exact HB.out | apply blA | apply blN | apply blD) | exact HB.out)) hb); have n1_ := Aside0.mk (hbox); have n2_ := Aside0.mk ((by rw [hg]; exact (below_size (by repeat (first | (with_reducible first | exact HB.out | apply blA | apply blN | apply blD) | exact HB.out))) : w.heap.size ≤ gb426)); have n3_ := Aside0.mk ((by rw [hg]; exact (below_size (by repeat (first | (with_reducible first | exact HB.out | apply blA | apply blN | apply blD) | exact HB.out))) : w.heap.size ≤ gb426)); clear HB; have HB := n0_; have BK426 := n1_; have GW426 := n2_; have GE426 := n3_; clear n0_ n1_ n2_ n3_; clear hb hbox hg; have hcz25_0 : w24.cell? ⟨gb426, 0, none⟩ = some (.slice A0_0 l0_0.length c0_0) := (bkC BK426.out 0).trans rfl; have hcz25_1 : w24.cell? ⟨gb426, 1, none⟩ = some (.slice A0_1 l0_1.length c0_1) := (bkC BK426.out 1).trans rfl; have hcz25_2 : w24.cell? ⟨gb426, 2, none⟩ = some (.slice A0_2 l0_2.length c0_2) := (bkC BK426.out 2).trans rfl; have hcz25_3 : w24.cell? ⟨gb426, 3, none⟩ = some (.int .i64 a0_3) := (bkC BK426.out 3).trans rfl; have hcz25_4 : w24.cell? ⟨gb426, 4, none⟩ = some (.int .i64 a0_4) := (bkC BK426.out 4).trans rfl; have hcz25_5 : w24.cell? ⟨gb426, 5, none⟩ = some (.int .i64 a0_5) := (bkC BK426.out 5).trans rfl; have hfz25_0 := bkF BK426.out 0; have hfz25_1 := bkF BK426.out 1; have hfz25_2 := bkF BK426.out 2; have hfz25_3 := bkF BK426.out 3; have hfz25_4 := bkF BK426.out 4; have hfz25_5 := bkF BK426.out 5) | ((with_reducible refine gate_callee (f := 36) rfl ?_); refine goesL_ (some 11) rfl rfl Try.func36 (by kernel_rfl) rfl #[.agg #[.slice A0_0 l0_0.length c0_0, .slice A0_1 l0_1.length c0_1, .slice A0_2 l0_2.length c0_2, .int .i64 a0_3, .int .i64 a0_4, .int .i64 a0_5]] rfl (by (try simp only [List.map_toArray, List.map_cons, List.map_nil]); first | done | rfl | (simp only [List.length_drop, List.length_take]; rfl)) ?_; (with_reducible refine (hopmeshref05_Check.calls k _ _ l0_0 _ _ l0_1 _ _ l0_2 a0_3 a0_4 a0_5 t427 _ ?side1 ?side2 ?side3 ?side4 ?side5 ?side6 A2.out).mono ?_); (case side1 => repeat (first | exact (Kd.C_below HR0_0.out HB.out) | (with_reducible refine Kd.C_alloc ?_ _) | (with_reducible refine Kd.C_drewN ?_ _) | (with_reducible refine Kd.C_drew ?_))); (case side2 => exact HC0_0.out); (case side3 => repeat (first | exact (Kd.C_below HR0_1.out HB.out) | (with_reducible refine Kd.C_alloc ?_ _) | (with_reducible refine Kd.C_drewN ?_ _) | (with_reducible refine Kd.C_drew ?_))); (case side4 => exact HC0_1.out); (case side5 => repeat (first | exact (Kd.C_below HR0_2.out HB.out) | (with_reducible refine Kd.C_alloc ?_ _) | (with_reducible refine Kd.C_drewN ?_ _) | (with_reducible refine Kd.C_drew ?_))); (case side6 => exact HC0_2.out); rintro e w26 ⟨rfl, hb⟩; refine ⟨_, rfl, ?_⟩; have n0_ := Aside0.mk (bkB (g := gb426) (o := .cells #[.slice A0_0 l0_0.length c0_0, .slice A0_1 l0_1.length c0_1, .slice A0_2 l0_2.length c0_2, .int .i64 a0_3, .int .i64 a0_4, .int .i64 a0_5] 26 (0, 0)) (by (with_reducible repeat (first | refine bkN ?_ _ | refine bkD ?_ | refine bkA ?_ _)); exact BK426.out) hb); have n1_ := Aside0.mk (below_step (by repeat (first | (with_reducible first | exact HB.out | apply blA | apply blN | apply blD | refine blS ?_ GE426.out) | exact HB.out)) hb); clear BK426; clear HB; have BK426 := n0_; have HB := n1_; clear n0_ n1_; (try clear hb); (try clear hb2); (try clear hk); (try clear hi)))
  go_ret2
  exact ⟨_, by first | rfl | (simp [errW_none, errW_some] <;> rfl) | (simp [*, errW_none, errW_some] <;> rfl), by first | exact Kd.S_nil _ _ _ _ _ | exact Kd.N_nil _ _ _ _ _ | exact Kd.V_nil _ _ _ _ _ | exact Kd.Q_nil _ _ _ _ _ | exact Kd.R_nil _ _ _ _ _, by repeat (first | (with_reducible first | exact HB.out | apply blA | apply blN | apply blD | refine blS ?_ GE426.out) | exact HB.out)⟩

 rw [if_pos c3] at H
 have c3b0 : (t427 == 0) = true := beq_iff_eq.mpr c3
 have c3b1 : (t427 != 0) = false := bne_eq_false_iff_eq.mpr c3
 clear c3
 obtain ⟨y428, hy428⟩ : ∃ y_ : List (List Int), y_ = (([] : List (List Int))) := ⟨_, rfl⟩
 replace H : (hopmeshref05_Table.l0 k y428 0 l0_0 l0_1 l0_2 a0_3 a0_4 a0_5) = some (r1, r2) := by first | (rw [hy428]; with_reducible exact H) | (have H2_ := (Option.bind_some _ _).symm.trans H; rw [hy428]; with_reducible exact H2_) | (have H2_ := (Option.bind_some _ _).symm.trans H; with_reducible exact H2_) | with_reducible exact H | (rw [hy428]; exact H) | exact H
 have Ny428 := Aside0.mk hy428
 clear hy428
 have H' := Aside0.mk H
 clear H
 go_enter Try.func35, Try.ntmps35
 go_wp2_with (first | ((with_reducible refine gate_dst (N := 1) rfl ?_); refine box_event ?hg (N := 1) ?hd (cs := #[.slice A0_0 l0_0.length c0_0, .slice A0_1 l0_1.length c0_1, .slice A0_2 l0_2.length c0_2, .int .i64 a0_3, .int .i64 a0_4, .int .i64 a0_5]) (t := 26) ?hr ?_; (case hd => rfl); (case hg => rfl); (case hr => first | (go_simp; done) | (go_simp; rfl)); intro gb426 hg w4 hbox hb; have n0_ := Aside0.mk (below_step (by repeat (first | (with_reducible first | exact HB.out | apply blA | apply blN | apply blD) | exact HB.out)) hb); have n1_ := Aside0.mk (hbox); have n2_ := Aside0.mk ((by rw [hg]; exact (below_size (by repeat (first | (with_reducible first | exact HB.out | apply blA | apply blN | apply blD) | exact HB.out))) : w.heap.size ≤ gb426)); have n3_ := Aside0.mk ((by rw [hg]; exact (below_size (by repeat (first | (with_reducible first | exact HB.out | apply blA | apply blN | apply blD) | exact HB.out))) : w.heap.size ≤ gb426)); clear HB; have HB := n0_; have BK426 := n1_; have GW426 := n2_; have GE426 := n3_; clear n0_ n1_ n2_ n3_; clear hb hbox hg; have hcz5_0 : w4.cell? ⟨gb426, 0, none⟩ = some (.slice A0_0 l0_0.length c0_0) := (bkC BK426.out 0).trans rfl; have hcz5_1 : w4.cell? ⟨gb426, 1, none⟩ = some (.slice A0_1 l0_1.length c0_1) := (bkC BK426.out 1).trans rfl; have hcz5_2 : w4.cell? ⟨gb426, 2, none⟩ = some (.slice A0_2 l0_2.length c0_2) := (bkC BK426.out 2).trans rfl; have hcz5_3 : w4.cell? ⟨gb426, 3, none⟩ = some (.int .i64 a0_3) := (bkC BK426.out 3).trans rfl; have hcz5_4 : w4.cell? ⟨gb426, 4, none⟩ = some (.int .i64 a0_4) := (bkC BK426.out 4).trans rfl; have hcz5_5 : w4.cell? ⟨gb426, 5, none⟩ = some (.int .i64 a0_5) := (bkC BK426.out 5).trans rfl; have hfz5_0 := bkF BK426.out 0; have hfz5_1 := bkF BK426.out 1; have hfz5_2 := bkF BK426.out 2; have hfz5_3 := bkF BK426.out 3; have hfz5_4 := bkF BK426.out 4; have hfz5_5 := bkF BK426.out 5) | ((with_reducible refine gate_callee (f := 36) rfl ?_); refine goesL_ (some 11) rfl rfl Try.func36 (by kernel_rfl) rfl #[.agg #[.slice A0_0 l0_0.length c0_0, .slice A0_1 l0_1.length c0_1, .slice A0_2 l0_2.length c0_2, .int .i64 a0_3, .int .i64 a0_4, .int .i64 a0_5]] rfl (by (try simp only [List.map_toArray, List.map_cons, List.map_nil]); first | done | rfl | (simp only [List.length_drop, List.length_take]; rfl)) ?_; (with_reducible refine (hopmeshref05_Check.calls k _ _ l0_0 _ _ l0_1 _ _ l0_2 a0_3 a0_4 a0_5 t427 _ ?side1 ?side2 ?side3 ?side4 ?side5 ?side6 A2.out).mono ?_); (case side1 => repeat (first | exact (Kd.C_below HR0_0.out HB.out) | (with_reducible refine Kd.C_alloc ?_ _) | (with_reducible refine Kd.C_drewN ?_ _) | (with_reducible refine Kd.C_drew ?_))); (case side2 => exact HC0_0.out); (case side3 => repeat (first | exact (Kd.C_below HR0_1.out HB.out) | (with_reducible refine Kd.C_alloc ?_ _) | (with_reducible refine Kd.C_drewN ?_ _) | (with_reducible refine Kd.C_drew ?_))); (case side4 => exact HC0_1.out); (case side5 => repeat (first | exact (Kd.C_below HR0_2.out HB.out) | (with_reducible refine Kd.C_alloc ?_ _) | (with_reducible refine Kd.C_drewN ?_ _) | (with_reducible refine Kd.C_drew ?_))); (case side6 => exact HC0_2.out); rintro e w6 ⟨rfl, hb⟩; refine ⟨_, rfl, ?_⟩; have n0_ := Aside0.mk (bkB (g := gb426) (o := .cells #[.slice A0_0 l0_0.length c0_0, .slice A0_1 l0_1.length c0_1, .slice A0_2 l0_2.length c0_2, .int .i64 a0_3, .int .i64 a0_4, .int .i64 a0_5] 26 (0, 0)) (by (with_reducible repeat (first | refine bkN ?_ _ | refine bkD ?_ | refine bkA ?_ _)); exact BK426.out) hb); have n1_ := Aside0.mk (below_step (by repeat (first | (with_reducible first | exact HB.out | apply blA | apply blN | apply blD | refine blS ?_ GE426.out) | exact HB.out)) hb); clear BK426; clear HB; have BK426 := n0_; have HB := n1_; clear n0_ n1_; (try clear hb); (try clear hb2); (try clear hk); (try clear hi)) | ((with_reducible refine gate_dst (N := 13) rfl ?_); refine Kd.S_lit (Kd.slice 3 (Kd.int .i64)) _ 23 ?hg (N := 13) ?hd (xs := ([] : List (List Int))) (inner := []) (ok := fun _ => True) (okp := fun _ => True) ?hr ?hp (fun _ hk => hk) trivial (Below.refl _ _) (Nat.le_refl _) (by simp) ?_; (case hd => rfl); (case hg => rfl); (case hr => first | (go_simp; done) | (go_simp; rfl)); (case hp => exact (Reps.none _ _)); intro v429 w7 ho8 hb hg_ hnew_; clear hg_ hnew_; (first | rw [← Ny428.out] at ho8 | (simp only [Int.reduceToNat] at ho8; rw [← Ny428.out] at ho8)); have n0_ := Aside0.mk (Kd.S_lower ho8 (below_size (by repeat (first | (with_reducible first | exact HB.out | apply blA | apply blN | apply blD | refine blS ?_ GE426.out) | exact HB.out)))); have n1_ := Aside0.mk (bkB (g := gb426) (o := .cells #[.slice A0_0 l0_0.length c0_0, .slice A0_1 l0_1.length c0_1, .slice A0_2 l0_2.length c0_2, .int .i64 a0_3, .int .i64 a0_4, .int .i64 a0_5] 26 (0, 0)) (by (with_reducible repeat (first | refine bkN ?_ _ | refine bkD ?_ | refine bkA ?_ _)); exact BK426.out) hb); have n2_ := Aside0.mk (below_step (by repeat (first | (with_reducible first | exact HB.out | apply blA | apply blN | apply blD | refine blS ?_ GE426.out) | exact HB.out)) hb); clear BK426; clear HB; have HO430 := n0_; have BK426 := n1_; have HB := n2_; clear n0_ n1_ n2_; clear hb ho8))
 go_loopg [4, 5] k (fun kq v4 v5 w' => ∃ (x4_1 : List (List Int)) (x5_1 : Int), v5 = .int .i64 x5_1 ∧ Aside0 (hopmeshref05_Table.l0 kq x4_1 x5_1 l0_0 l0_1 l0_2 a0_3 a0_4 a0_5 = some (r1, r2)) ∧ Aside0 (kq ≤ k) ∧ Aside0 (Kd.S (Kd.slice 3 (Kd.int .i64)) 23 w' w.heap.size (fun _ => True) v4 x4_1) ∧ Aside0 (w'.heap[gb426]? = some (.cells #[(.slice A0_0 l0_0.length c0_0), (.slice A0_1 l0_1.length c0_1), (.slice A0_2 l0_2.length c0_2), .int .i64 a0_3, .int .i64 a0_4, .int .i64 a0_5] 26 (0, 0))) ∧ Aside0 (Below w.heap.size w w'))
 case atStart => exact ⟨(y428), (0), (by first | rfl | (simp; done) | (simp [*]; done)), H', ⟨Nat.le_refl _⟩, ⟨by (with_reducible repeat (first | apply Kd.S_alloc | apply Kd.S_drewN | apply Kd.S_drew)); exact HO430.out⟩, ⟨by (with_reducible repeat (first | refine bkN ?_ _ | refine bkD ?_ | refine bkA ?_ _)); exact BK426.out⟩, ⟨by repeat (first | (with_reducible first | exact HB.out | apply blA | apply blN | apply blD | refine blS ?_ GE426.out) | exact HB.out)⟩⟩
 case round =>
  clear H'
  try clear p2
  try clear c3
  try clear c3b0
  try clear c3b1
  try clear hcz5_0
  try clear hcz5_1
  try clear hcz5_2
  try clear hcz5_3
  try clear hcz5_4
  try clear hcz5_5
  try clear hfz5_0
  try clear hfz5_1
  try clear hfz5_2
  try clear hfz5_3
  try clear hfz5_4
  try clear hfz5_5
  obtain ⟨x4_1, x5_1, rfl, HA, HK1, HO_4, BK426, HB⟩ := hrel
  cases gk with
  | zero => exact absurd HA.out (by simp [hopmeshref05_Table.l0])
  | succ k1 =>
   have H := HA.out
   clear HA
   simp only [hopmeshref05_Table.l0] at H
   by_cases c9 : x5_1 < (l0_0.length : Int)
   rotate_left
   ·rw [if_neg c9] at H
    have c9b0 : decide (x5_1 < (l0_0.length : Int)) = false := decide_eq_false c9
    clear c9
    simp only [Option.some.injEq, Prod.mk.injEq] at H
    obtain ⟨rfl, rfl⟩ := H
    have hcz23_0 : wr.cell? ⟨gb426, 0, none⟩ = some (.slice A0_0 l0_0.length c0_0) := (bkC BK426.out 0).trans rfl
    have hcz23_1 : wr.cell? ⟨gb426, 1, none⟩ = some (.slice A0_1 l0_1.length c0_1) := (bkC BK426.out 1).trans rfl
    have hcz23_2 : wr.cell? ⟨gb426, 2, none⟩ = some (.slice A0_2 l0_2.length c0_2) := (bkC BK426.out 2).trans rfl
    have hcz23_3 : wr.cell? ⟨gb426, 3, none⟩ = some (.int .i64 a0_3) := (bkC BK426.out 3).trans rfl
    have hcz23_4 : wr.cell? ⟨gb426, 4, none⟩ = some (.int .i64 a0_4) := (bkC BK426.out 4).trans rfl
    have hcz23_5 : wr.cell? ⟨gb426, 5, none⟩ = some (.int .i64 a0_5) := (bkC BK426.out 5).trans rfl
    have hfz23_0 := bkF BK426.out 0
    have hfz23_1 := bkF BK426.out 1
    have hfz23_2 := bkF BK426.out 2
    have hfz23_3 := bkF BK426.out 3
    have hfz23_4 := bkF BK426.out 4
    have hfz23_5 := bkF BK426.out 5
    go_wp2
    go_ret2
    exact ⟨_, by first | rfl | (simp [errW_none, errW_some] <;> rfl) | (simp [*, errW_none, errW_some] <;> rfl), by (with_reducible repeat (first | apply Kd.S_alloc | apply Kd.S_drewN | apply Kd.S_drew)); exact HO_4.out, by repeat (first | (with_reducible first | exact HB.out | apply blA | apply blN | apply blD | refine blS ?_ GE426.out) | exact HB.out)⟩
   rw [if_pos c9] at H
   have c9b0 : decide (x5_1 < (l0_0.length : Int)) = true := decide_eq_true c9
   clear c9
   obtain ⟨y431, hy431⟩ : ∃ y_ : List Int, y_ = (([] : List Int)) := ⟨_, rfl⟩
   replace H : (hopmeshref05_Table.l1 k1 x4_1 x5_1 y431 0 l0_0 l0_1 l0_2 a0_3 a0_4 a0_5) = some (r1, r2) := by first | (rw [hy431]; with_reducible exact H) | (have H2_ := (Option.bind_some _ _).symm.trans H; rw [hy431]; with_reducible exact H2_) | (have H2_ := (Option.bind_some _ _).symm.trans H; with_reducible exact H2_) | with_reducible exact H | (rw [hy431]; exact H) | exact H
   have Ny431 := Aside0.mk hy431
   clear hy431
   have H' := Aside0.mk H
   clear H
   have hcz10_0 : wr.cell? ⟨gb426, 0, none⟩ = some (.slice A0_0 l0_0.length c0_0) := (bkC BK426.out 0).trans rfl
   have hcz10_1 : wr.cell? ⟨gb426, 1, none⟩ = some (.slice A0_1 l0_1.length c0_1) := (bkC BK426.out 1).trans rfl
   have hcz10_2 : wr.cell? ⟨gb426, 2, none⟩ = some (.slice A0_2 l0_2.length c0_2) := (bkC BK426.out 2).trans rfl
   have hcz10_3 : wr.cell? ⟨gb426, 3, none⟩ = some (.int .i64 a0_3) := (bkC BK426.out 3).trans rfl
   have hcz10_4 : wr.cell? ⟨gb426, 4, none⟩ = some (.int .i64 a0_4) := (bkC BK426.out 4).trans rfl
   have hcz10_5 : wr.cell? ⟨gb426, 5, none⟩ = some (.int .i64 a0_5) := (bkC BK426.out 5).trans rfl
   have hfz10_0 := bkF BK426.out 0
   have hfz10_1 := bkF BK426.out 1
   have hfz10_2 := bkF BK426.out 2
   have hfz10_3 := bkF BK426.out 3
   have hfz10_4 := bkF BK426.out 4
   have hfz10_5 := bkF BK426.out 5
   go_wp2_with (first | ((with_reducible refine gate_dst (N := 21) rfl ?_); refine Kd.R_lit (Kd.int .i64) _ 3 ?hg (N := 21) ?hd (xs := ([] : List Int)) (inner := []) (ok := fun _ => True) (okp := fun _ => True) ?hr ?hp (fun _ hk => hk) trivial (Below.refl _ _) (Nat.le_refl _) (by simp) ?_; (case hd => rfl); (case hg => rfl); (case hr => first | (go_simp; done) | (go_simp; rfl)); (case hp => exact (Reps.none _ _)); intro v432 w11 ho12 hb hg_ hnew_; clear hg_ hnew_; (first | rw [← Ny431.out] at ho12 | (simp only [Int.reduceToNat] at ho12; rw [← Ny431.out] at ho12)); have n0_ := Aside0.mk (Kd.S_elder' (by (with_reducible repeat (first | apply Kd.S_alloc | apply Kd.S_drewN | apply Kd.S_drew)); exact HO_4.out) (Kd.R_base ho12) hb); have n1_ := Aside0.mk (Kd.R_lower ho12 (below_size (by repeat (first | (with_reducible first | exact HB.out | apply blA | apply blN | apply blD | refine blS ?_ GE426.out) | exact HB.out)))); have n2_ := Aside0.mk (bkB (g := gb426) (o := .cells #[.slice A0_0 l0_0.length c0_0, .slice A0_1 l0_1.length c0_1, .slice A0_2 l0_2.length c0_2, .int .i64 a0_3, .int .i64 a0_4, .int .i64 a0_5] 26 (0, 0)) (by (with_reducible repeat (first | refine bkN ?_ _ | refine bkD ?_ | refine bkA ?_ _)); exact BK426.out) hb); have n3_ := Aside0.mk (below_step (by repeat (first | (with_reducible first | exact HB.out | apply blA | apply blN | apply blD | refine blS ?_ GE426.out) | exact HB.out)) hb); clear HO_4; clear BK426; clear HB; have HO_4 := n0_; have HO433 := n1_; have BK426 := n2_; have HB := n3_; clear n0_ n1_ n2_ n3_; clear hb ho12))
   go_loopg [6, 7] k1 (fun kq v6 v7 w' => ∃ (x6_2 : List Int) (x7_2 : Int), v7 = .int .i64 x7_2 ∧ Aside0 (hopmeshref05_Table.l1 kq x4_1 x5_1 x6_2 x7_2 l0_0 l0_1 l0_2 a0_3 a0_4 a0_5 = some (r1, r2)) ∧ Aside0 (kq ≤ k1) ∧ Aside0 (Kd.S (Kd.slice 3 (Kd.int .i64)) 23 w' w.heap.size (fun k_ => some k_ ≠ (v6 : Value).ownBlock) u4 x4_1) ∧ Aside0 (Kd.R (Kd.int .i64) 3 w' w.heap.size (fun _ => True) v6 x6_2) ∧ Aside0 (w'.heap[gb426]? = some (.cells #[(.slice A0_0 l0_0.length c0_0), (.slice A0_1 l0_1.length c0_1), (.slice A0_2 l0_2.length c0_2), .int .i64 a0_3, .int .i64 a0_4, .int .i64 a0_5] 26 (0, 0))) ∧ Aside0 (Below w.heap.size w w'))
   case atStart => exact ⟨(y431), (0), (by first | rfl | (simp; done) | (simp [*]; done)), H', ⟨Nat.le_refl _⟩, ⟨by (with_reducible repeat (first | apply Kd.S_alloc | apply Kd.S_drewN | apply Kd.S_drew)); exact Kd.S_mono HO_4.out (fun _ hk => hk.2)⟩, ⟨by (with_reducible repeat (first | apply Kd.R_alloc | apply Kd.R_drewN | apply Kd.R_drew)); exact HO433.out⟩, ⟨by (with_reducible repeat (first | refine bkN ?_ _ | refine bkD ?_ | refine bkA ?_ _)); exact BK426.out⟩, ⟨by repeat (first | (with_reducible first | exact HB.out | apply blA | apply blN | apply blD | refine blS ?_ GE426.out) | exact HB.out)⟩⟩
   case round =>
    clear H'
    try clear p2
    try clear c3
    try clear c3b0
    try clear c3b1
    try clear c9
    try clear c9b0
    try clear hcz10_0
    try clear hcz10_1
    try clear hcz10_2
    try clear hcz10_3
    try clear hcz10_4
    try clear hcz10_5
    try clear hcz5_0
    try clear hcz5_1
    try clear hcz5_2
    try clear hcz5_3
    try clear hcz5_4
    try clear hcz5_5
    try clear hfz10_0
    try clear hfz10_1
    try clear hfz10_2
    try clear hfz10_3
    try clear hfz10_4
    try clear hfz10_5
    try clear hfz5_0
    try clear hfz5_1
    try clear hfz5_2
    try clear hfz5_3
    try clear hfz5_4
    try clear hfz5_5
    try clear p2
    obtain ⟨x6_2, x7_2, rfl, HA, HK2, HO_4, HO_6, BK426, HB⟩ := hrel
    cases gk with
    | zero => exact absurd HA.out (by simp [hopmeshref05_Table.l1])
    | succ k2 =>
     have H := HA.out
     clear HA
     simp only [hopmeshref05_Table.l1] at H
     by_cases c13 : x7_2 < (l0_0.length : Int)
     rotate_left
     ·rw [if_neg c13] at H
      have c13b0 : decide (x7_2 < (l0_0.length : Int)) = false := decide_eq_false c13
      clear c13
      by_cases c19 : x4_1.length < 5864062014805
      rotate_left
      ·rw [if_neg c19] at H
       exact absurd H (by simp)
      rw [if_pos c19] at H
      have LMc19 := Aside0.mk c19
      clear c19
      obtain ⟨y439, hy439⟩ : ∃ y_ : List (List Int), y_ = (x4_1 ++ [x6_2]) := ⟨_, rfl⟩
      replace H : (hopmeshref05_Table.l0 k2 y439 (wrap64 (x5_1 + 1)) l0_0 l0_1 l0_2 a0_3 a0_4 a0_5) = some (r1, r2) := by first | (rw [hy439]; with_reducible exact H) | (have H2_ := (Option.bind_some _ _).symm.trans H; rw [hy439]; with_reducible exact H2_) | (have H2_ := (Option.bind_some _ _).symm.trans H; with_reducible exact H2_) | with_reducible exact H | (rw [hy439]; exact H) | exact H
      have Ny439 := Aside0.mk hy439
      clear hy439
      have H' := Aside0.mk H
      clear H
      have hcz20_0 : wr.cell? ⟨gb426, 0, none⟩ = some (.slice A0_0 l0_0.length c0_0) := (bkC BK426.out 0).trans rfl
      have hcz20_1 : wr.cell? ⟨gb426, 1, none⟩ = some (.slice A0_1 l0_1.length c0_1) := (bkC BK426.out 1).trans rfl
      have hcz20_2 : wr.cell? ⟨gb426, 2, none⟩ = some (.slice A0_2 l0_2.length c0_2) := (bkC BK426.out 2).trans rfl
      have hcz20_3 : wr.cell? ⟨gb426, 3, none⟩ = some (.int .i64 a0_3) := (bkC BK426.out 3).trans rfl
      have hcz20_4 : wr.cell? ⟨gb426, 4, none⟩ = some (.int .i64 a0_4) := (bkC BK426.out 4).trans rfl
      have hcz20_5 : wr.cell? ⟨gb426, 5, none⟩ = some (.int .i64 a0_5) := (bkC BK426.out 5).trans rfl
      have hfz20_0 := bkF BK426.out 0
      have hfz20_1 := bkF BK426.out 1
      have hfz20_2 := bkF BK426.out 2
      have hfz20_3 := bkF BK426.out 3
      have hfz20_4 := bkF BK426.out 4
      have hfz20_5 := bkF BK426.out 5
      obtain ⟨Ao22, co22, eo22⟩ := Kd.R_slice HO_6.out
      subst eo22
      go_wp2_with (first | ((with_reducible refine gate_builtin (b := .append) (xs := #[.tmp 40, .tmp 42]) rfl ?_); at_builtin; refine Kd.S_append (Kd.slice 3 (Kd.int .i64)) (w0 := w) w.heap.size rfl (.tmp 40) (.tmp 42) 38 23 (.slice none 0 0) 24 rfl Try.underlying38 info23 rfl (by decide) (by omega) u4 x4_1 x6_2 [.slice Ao22 x6_2.length co22] (fun _ => True) (fun k_ => some k_ = (.slice Ao22 x6_2.length co22 : Value).ownBlock) rfl rfl ?aP (fun k_ hk_ => ((Kd.R_mono (ok' := fun k_ => ((fun _ => True)) k_ ∧ some k_ ≠ (u4 : Value).ownBlock) (Kd.R_apart' (HO_6.out) (Kd.S_typed HO_4.out) (by decide)) (fun k_ hk => ⟨trivial, hk.2⟩))).1 k_ hk_.symm) ?aF ?aO ?aB ?aS ?aL ?_; (case aP => exact Kd.M_row (Kd.R_mono (Kd.R_tight rfl (Kd.R_mono (ok' := fun k_ => ((fun _ => True)) k_ ∧ some k_ ≠ (u4 : Value).ownBlock) (Kd.R_apart' (HO_6.out) (Kd.S_typed HO_4.out) (by decide)) (fun k_ hk => ⟨trivial, hk.2⟩))) (fun _ h_ => h_))); (case aB => exact (by repeat (first | (with_reducible first | exact HB.out | apply blA | apply blN | apply blD | refine blS ?_ GE426.out) | exact HB.out))); (case aF => exact (fun _ _ => trivial)); (case aO => exact (by (with_reducible repeat (first | apply Kd.S_alloc | apply Kd.S_drewN | apply Kd.S_drew)); exact Kd.S_mono HO_4.out (fun k_ hk => ⟨trivial, fun e_ => hk e_⟩))); (case aS => exact (below_size (by repeat (first | (with_reducible first | exact HB.out | apply blA | apply blN | apply blD | refine blS ?_ GE426.out) | exact HB.out)))); (case aL => have := LMc19.out; omega); intro v440 w21 ho hb hg hat; rw [← Ny439.out] at ho; have n0_ := Aside0.mk (blk_grown (g := gb426) (o := .cells #[.slice A0_0 l0_0.length c0_0, .slice A0_1 l0_1.length c0_1, .slice A0_2 l0_2.length c0_2, .int .i64 a0_3, .int .i64 a0_4, .int .i64 a0_5] 26 (0, 0)) (by (with_reducible repeat (first | refine bkN ?_ _ | refine bkD ?_ | refine bkA ?_ _)); exact BK426.out) hg (Kd.S_ne HO_4.out BK426.out (by decide))); have n1_ := Aside0.mk (hb); have n2_ := Aside0.mk (ho); clear BK426; clear HB; clear HO_4; clear HO_6; have BK426 := n0_; have HB := n1_; have HO441 := n2_; clear n0_ n1_ n2_; clear ho hb hg hat))
      go_roundg k2
      case measure => have := HK1.out; have := HK2.out; omega
      case rel => exact ⟨(y439), (wrap64 (x5_1 + 1)), (by first | rfl | (simp; done) | (simp [*]; done)), H', ⟨by have := HK1.out; have := HK2.out; omega⟩, ⟨by (with_reducible repeat (first | apply Kd.S_alloc | apply Kd.S_drewN | apply Kd.S_drew)); exact HO441.out⟩, ⟨by (with_reducible repeat (first | refine bkN ?_ _ | refine bkD ?_ | refine bkA ?_ _)); exact BK426.out⟩, ⟨by repeat (first | (with_reducible first | exact HB.out | apply blA | apply blN | apply blD | refine blS ?_ GE426.out) | exact HB.out)⟩⟩
     rw [if_pos c13] at H
     have c13b0 : decide (x7_2 < (l0_0.length : Int)) = true := decide_eq_true c13
     clear c13
     replace H := Option.bind_eq_some_iff.mp H
     obtain ⟨⟨t434, t435⟩, A140, H⟩ := H
     replace H : (if x6_2.length < 17592186044416 then (hopmeshref05_Table.l1 k2 x4_1 x5_1 (x6_2 ++ [t434]) (wrap64 (x7_2 + 1)) l0_0 l0_1 l0_2 a0_3 a0_4 a0_5) else (none)) = some (r1, r2) := H
     have A14 := Aside0.mk A140
     clear A140
     by_cases c15 : x6_2.length < 17592186044416
     rotate_left
     ·rw [if_neg c15] at H
      exact absurd H (by simp)
     rw [if_pos c15] at H
     have LMc15 := Aside0.mk c15
     clear c15
     obtain ⟨y436, hy436⟩ : ∃ y_ : List Int, y_ = (x6_2 ++ [t434]) := ⟨_, rfl⟩
     replace H : (hopmeshref05_Table.l1 k2 x4_1 x5_1 y436 (wrap64 (x7_2 + 1)) l0_0 l0_1 l0_2 a0_3 a0_4 a0_5) = some (r1, r2) := by first | (rw [hy436]; with_reducible exact H) | (have H2_ := (Option.bind_some _ _).symm.trans H; rw [hy436]; with_reducible exact H2_) | (have H2_ := (Option.bind_some _ _).symm.trans H; with_reducible exact H2_) | with_reducible exact H | (rw [hy436]; exact H) | exact H
     have Ny436 := Aside0.mk hy436
     clear hy436
     have H' := Aside0.mk H
     clear H
     have hcz16_0 : wr.cell? ⟨gb426, 0, none⟩ = some (.slice A0_0 l0_0.length c0_0) := (bkC BK426.out 0).trans rfl
     have hcz16_1 : wr.cell? ⟨gb426, 1, none⟩ = some (.slice A0_1 l0_1.length c0_1) := (bkC BK426.out 1).trans rfl
     have hcz16_2 : wr.cell? ⟨gb426, 2, none⟩ = some (.slice A0_2 l0_2.length c0_2) := (bkC BK426.out 2).trans rfl
     have hcz16_3 : wr.cell? ⟨gb426, 3, none⟩ = some (.int .i64 a0_3) := (bkC BK426.out 3).trans rfl
     have hcz16_4 : wr.cell? ⟨gb426, 4, none⟩ = some (.int .i64 a0_4) := (bkC BK426.out 4).trans rfl
     have hcz16_5 : wr.cell? ⟨gb426, 5, none⟩ = some (.int .i64 a0_5) := (bkC BK426.out 5).trans rfl
     have hfz16_0 := bkF BK426.out 0
     have hfz16_1 := bkF BK426.out 1
     have hfz16_2 := bkF BK426.out 2
     have hfz16_3 := bkF BK426.out 3
     have hfz16_4 := bkF BK426.out 4
     have hfz16_5 := bkF BK426.out 5
     go_wp2_with (first | ((with_reducible refine gate_callee (f := 34) rfl ?_); refine goesL_ (some 33) rfl rfl Try.func34 (by kernel_rfl) rfl #[.agg #[.slice A0_0 l0_0.length c0_0, .slice A0_1 l0_1.length c0_1, .slice A0_2 l0_2.length c0_2, .int .i64 a0_3, .int .i64 a0_4, .int .i64 a0_5], .int .i64 x5_1, .int .i64 x7_2] rfl (by (try simp only [List.map_toArray, List.map_cons, List.map_nil]); first | done | rfl | (simp only [List.length_drop, List.length_take]; rfl)) ?_; (with_reducible refine (hopmeshref05_Between.calls k2 _ _ l0_0 _ _ l0_1 _ _ l0_2 a0_3 a0_4 a0_5 x5_1 x7_2 t434 t435 _ ?side1 ?side2 ?side3 ?side4 ?side5 ?side6 A14.out).mono ?_); (case side1 => repeat (first | exact (Kd.C_below HR0_0.out HB.out) | (with_reducible refine Kd.C_alloc ?_ _) | (with_reducible refine Kd.C_drewN ?_ _) | (with_reducible refine Kd.C_drew ?_))); (case side2 => exact HC0_0.out); (case side3 => repeat (first | exact (Kd.C_below HR0_1.out HB.out) | (with_reducible refine Kd.C_alloc ?_ _) | (with_reducible refine Kd.C_drewN ?_ _) | (with_reducible refine Kd.C_drew ?_))); (case side4 => exact HC0_1.out); (case side5 => repeat (first | exact (Kd.C_below HR0_2.out HB.out) | (with_reducible refine Kd.C_alloc ?_ _) | (with_reducible refine Kd.C_drewN ?_ _) | (with_reducible refine Kd.C_drew ?_))); (case side6 => exact HC0_2.out); rintro e w17 ⟨rfl, hb⟩; refine ⟨_, rfl, ?_⟩; have n0_ := Aside0.mk (Kd.S_below (by (with_reducible repeat (first | apply Kd.S_alloc | apply Kd.S_drewN | apply Kd.S_drew)); exact HO_4.out) hb); have n1_ := Aside0.mk (Kd.R_below (by (with_reducible repeat (first | apply Kd.R_alloc | apply Kd.R_drewN | apply Kd.R_drew)); exact HO_6.out) hb); have n2_ := Aside0.mk (bkB (g := gb426) (o := .cells #[.slice A0_0 l0_0.length c0_0, .slice A0_1 l0_1.length c0_1, .slice A0_2 l0_2.length c0_2, .int .i64 a0_3, .int .i64 a0_4, .int .i64 a0_5] 26 (0, 0)) (by (with_reducible repeat (first | refine bkN ?_ _ | refine bkD ?_ | refine bkA ?_ _)); exact BK426.out) hb); have n3_ := Aside0.mk (below_step (by repeat (first | (with_reducible first | exact HB.out | apply blA | apply blN | apply blD | refine blS ?_ GE426.out) | exact HB.out)) hb); clear HO_4; clear HO_6; clear BK426; clear HB; have HO_4 := n0_; have HO_6 := n1_; have BK426 := n2_; have HB := n3_; clear n0_ n1_ n2_ n3_; (try clear hb); (try clear hb2); (try clear hk); (try clear hi)) | ((with_reducible refine gate_builtin (b := .append) (xs := #[.tmp 36, .tmp 38]) rfl ?_); at_builtin; refine Kd.R_append (Kd.int .i64) (w0 := w) w.heap.size rfl (.tmp 36) (.tmp 38) 23 3 (.int .i64 0) 8 rfl Try.underlying23 info3 rfl (by decide) (by omega) u6 x6_2 t434 [.int .i64 t434] (fun _ => True) (fun _ => False) rfl rfl ?aP (fun _ hk => hk.elim) ?aF ?aO ?aB ?aS ?aL ?_; (case aP => exact rfl); (case aB => exact (by repeat (first | (with_reducible first | exact HB.out | apply blA | apply blN | apply blD | refine blS ?_ GE426.out) | exact HB.out))); (case aF => exact (fun _ _ => trivial)); (case aO => exact (by (with_reducible repeat (first | apply Kd.R_alloc | apply Kd.R_drewN | apply Kd.R_drew)); exact HO_6.out)); (case aS => exact (below_size (by repeat (first | (with_reducible first | exact HB.out | apply blA | apply blN | apply blD | refine blS ?_ GE426.out) | exact HB.out)))); (case aL => have := LMc15.out; omega); intro v437 w18 ho hb hg hat; rw [← Ny436.out] at ho; have n0_ := Aside0.mk (Kd.S_after (ok := (fun _ => True)) (by (with_reducible repeat (first | apply Kd.S_alloc | apply Kd.S_drewN | apply Kd.S_drew)); exact Kd.S_mono HO_4.out (fun _ hk => ⟨trivial, hk⟩)) hg hat); have n1_ := Aside0.mk (blk_grown (g := gb426) (o := .cells #[.slice A0_0 l0_0.length c0_0, .slice A0_1 l0_1.length c0_1, .slice A0_2 l0_2.length c0_2, .int .i64 a0_3, .int .i64 a0_4, .int .i64 a0_5] 26 (0, 0)) (by (with_reducible repeat (first | refine bkN ?_ _ | refine bkD ?_ | refine bkA ?_ _)); exact BK426.out) hg (Kd.R_ne HO_6.out BK426.out (by decide))); have n2_ := Aside0.mk (hb); have n3_ := Aside0.mk (ho); clear HO_4; clear BK426; clear HB; clear HO_6; have HO_4 := n0_; have BK426 := n1_; have HB := n2_; have HO438 := n3_; clear n0_ n1_ n2_ n3_; clear ho hb hg hat))
     go_roundg k2
     case measure => have := HK1.out; have := HK2.out; omega
     case rel => exact ⟨(y436), (wrap64 (x7_2 + 1)), (by first | rfl | (simp; done) | (simp [*]; done)), H', ⟨by have := HK1.out; have := HK2.out; omega⟩, ⟨by (with_reducible repeat (first | apply Kd.S_alloc | apply Kd.S_drewN | apply Kd.S_drew)); exact Kd.S_mono HO_4.out (fun _ hk => hk.2)⟩, ⟨by (with_reducible repeat (first | apply Kd.R_alloc | apply Kd.R_drewN | apply Kd.R_drew)); exact HO438.out⟩, ⟨by (with_reducible repeat (first | refine bkN ?_ _ | refine bkD ?_ | refine bkA ?_ _)); exact BK426.out⟩, ⟨by repeat (first | (with_reducible first | exact HB.out | apply blA | apply blN | apply blD | refine blS ?_ GE426.out) | exact HB.out)⟩⟩
-- NOT PRINTED: function 37 (slices_EqualFunc_int_int_int_int)

end Go.Proofs.Ytcdgpnjlaicbcaa.PA
