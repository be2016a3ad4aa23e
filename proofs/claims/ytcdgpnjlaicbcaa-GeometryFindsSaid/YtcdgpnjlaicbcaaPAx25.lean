-- Written by a program of this session (mkprint.py: the kit's print, changed) for this claim. Not trusted: Lean checks it.
import Derived.Test.YtcdgpnjlaicbcaaPAx0
import Derived.Test.YtcdgpnjlaicbcaaPAx14
import Derived.Test.YtcdgpnjlaicbcaaPAx23
import Derived.Test.YtcdgpnjlaicbcaaPAx24
namespace Go.Proofs.Ytcdgpnjlaicbcaa.PA
open Go.RowKit Go.Proofs.YtcdgpnjlaicbcaaW.PrintWords Go.Proofs.YtcdgpnjlaicbcaaW.PrintLast Go.Proofs.YtcdgpnjlaicbcaaW.PrintMore
attribute [local go_sem] max2_int min2_int max_two min_two max_three min_three max_four min_four   -- for this text's walks alone
-- thin
set_option linter.unusedVariables false
set_option linter.unusedSimpArgs false

/-! ### hopmeshref05_Hears: function 16 -/
mutual
def hopmeshref05_Hears.j0 : Nat → Int → Bool → List (S28) → List Int → List (S47) → Int → Int → Int → Option (List Int × Int)
 | 0, _, _, _, _, _, _, _, _ => none
 | k + 1, x1, x21, x253000, x253001, x253002, x253003, x253004, x253005 => if x21 = true then (some (([] : List Int), 7)) else (hopmeshref05_Hears.l0 k x1 (([] : List Int)) 0 x253000 x253001 x253002 x253003 x253004 x253005)
def hopmeshref05_Hears.l0 : Nat → Int → List Int → Int → List (S28) → List Int → List (S47) → Int → Int → Int → Option (List Int × Int)
 | 0, _, _, _, _, _, _, _, _, _ => none
 | k + 1, x1, x6, x7, x253000, x253001, x253002, x253003, x253004, x253005 => if x7 < (x253000.length : Int) then ((hopmeshref05_Between.f k x253000 x253001 x253002 x253003 x253004 x253005 x7 x1).bind fun bt257 => ((hopmeshref04_Decide.f bt257.1 x253005 x253004 0).bind fun t259 => (if t259 = true then (if x6.length < 17592186044416 then (hopmeshref05_Hears.l0 k x1 (x6 ++ [x7]) (wrap64 (x7 + 1)) x253000 x253001 x253002 x253003 x253004 x253005) else (none)) else (hopmeshref05_Hears.l0 k x1 x6 (wrap64 (x7 + 1)) x253000 x253001 x253002 x253003 x253004 x253005)))) else (some (x6, 0))
end
def hopmeshref05_Hears.f (k : Nat) (l0_0 : List (S28)) (l0_1 : List Int) (l0_2 : List (S47)) (a0_3 : Int) (a0_4 : Int) (a0_5 : Int) (a1 : Int) : Option (List Int × Int) := (hopmeshref05_Check.f k l0_0 l0_1 l0_2 a0_3 a0_4 a0_5).bind fun t253 => (if t253 = 0 then (if a1 < 0 then (hopmeshref05_Hears.j0 k a1 true l0_0 l0_1 l0_2 a0_3 a0_4 a0_5) else (hopmeshref05_Hears.j0 k a1 (decide (a1 ≥ (l0_0.length : Int))) l0_0 l0_1 l0_2 a0_3 a0_4 a0_5)) else (some (([] : List Int), 1)))
theorem hopmeshref05_Hears.mono_l : ∀ k, (∀ y0 y1 y2 y3 y4 y5 y6 y7, LeO (hopmeshref05_Hears.j0 k y0 y1 y2 y3 y4 y5 y6 y7) (hopmeshref05_Hears.j0 (k + 1) y0 y1 y2 y3 y4 y5 y6 y7)) ∧ (∀ y0 y1 y2 y3 y4 y5 y6 y7 y8, LeO (hopmeshref05_Hears.l0 k y0 y1 y2 y3 y4 y5 y6 y7 y8) (hopmeshref05_Hears.l0 (k + 1) y0 y1 y2 y3 y4 y5 y6 y7 y8))
 | 0 => ⟨fun _ _ _ _ _ _ _ _ r h => by simp [hopmeshref05_Hears.j0] at h, fun _ _ _ _ _ _ _ _ _ r h => by simp [hopmeshref05_Hears.l0] at h⟩
 | k + 1 => by
  obtain ⟨ih0, ih1⟩ := hopmeshref05_Hears.mono_l k
  refine ⟨?_, ?_⟩
  ·intro y0 y1 y2 y3 y4 y5 y6 y7
   unfold hopmeshref05_Hears.j0
   repeat' first
   | (with_reducible exact ih0 _ _ _ _ _ _ _ _)
   | (with_reducible exact ih1 _ _ _ _ _ _ _ _ _)
   | (with_reducible exact hopmeshref05_Between.mono _ _ _ _ _ _ _ _ _)
   | (with_reducible exact hopmeshref05_Check.mono _ _ _ _ _ _ _)
   | (with_reducible exact LeO.refl _)
   | (with_reducible exact LeO.none _)
   | (with_reducible refine LeO.ite ?_ ?_)
   | (with_reducible refine LeO.bind ?_ (fun _ => ?_))
   | exact ih0 _ _ _ _ _ _ _ _
   | exact ih1 _ _ _ _ _ _ _ _ _
   | exact hopmeshref05_Between.mono _ _ _ _ _ _ _ _ _
   | exact hopmeshref05_Check.mono _ _ _ _ _ _ _
   | exact LeO.none _
   | refine LeO.ite ?_ ?_
   | refine LeO.bind ?_ (fun _ => ?_)
  intro y0 y1 y2 y3 y4 y5 y6 y7 y8
  unfold hopmeshref05_Hears.l0
  repeat' first
  | (with_reducible exact ih0 _ _ _ _ _ _ _ _)
  | (with_reducible exact ih1 _ _ _ _ _ _ _ _ _)
  | (with_reducible exact hopmeshref05_Between.mono _ _ _ _ _ _ _ _ _)
  | (with_reducible exact hopmeshref05_Check.mono _ _ _ _ _ _ _)
  | (with_reducible exact LeO.refl _)
  | (with_reducible exact LeO.none _)
  | (with_reducible refine LeO.ite ?_ ?_)
  | (with_reducible refine LeO.bind ?_ (fun _ => ?_))
  | exact ih0 _ _ _ _ _ _ _ _
  | exact ih1 _ _ _ _ _ _ _ _ _
  | exact hopmeshref05_Between.mono _ _ _ _ _ _ _ _ _
  | exact hopmeshref05_Check.mono _ _ _ _ _ _ _
  | exact LeO.none _
  | refine LeO.ite ?_ ?_
  | refine LeO.bind ?_ (fun _ => ?_)
theorem hopmeshref05_Hears.mono : ∀ a0 a1 a2 a3 a4 a5 a6 k, LeO (hopmeshref05_Hears.f k a0 a1 a2 a3 a4 a5 a6) (hopmeshref05_Hears.f (k + 1) a0 a1 a2 a3 a4 a5 a6) := by
 intro a0 a1 a2 a3 a4 a5 a6 k
 obtain ⟨ih0, ih1⟩ := hopmeshref05_Hears.mono_l k
 unfold hopmeshref05_Hears.f
 repeat' first
  | (with_reducible exact ih0 _ _ _ _ _ _ _ _)
  | (with_reducible exact ih1 _ _ _ _ _ _ _ _ _)
  | (with_reducible exact hopmeshref05_Between.mono _ _ _ _ _ _ _ _ _)
  | (with_reducible exact hopmeshref05_Check.mono _ _ _ _ _ _ _)
  | (with_reducible exact LeO.refl _)
  | (with_reducible exact LeO.none _)
  | (with_reducible refine LeO.ite ?_ ?_)
  | (with_reducible refine LeO.bind ?_ (fun _ => ?_))
  | exact ih0 _ _ _ _ _ _ _ _
  | exact ih1 _ _ _ _ _ _ _ _ _
  | exact hopmeshref05_Between.mono _ _ _ _ _ _ _ _ _
  | exact hopmeshref05_Check.mono _ _ _ _ _ _ _
  | exact LeO.none _
  | refine LeO.ite ?_ ?_
  | refine LeO.bind ?_ (fun _ => ?_)
set_option maxHeartbeats 8000000 in
set_option maxRecDepth 100000 in
theorem hopmeshref05_Hears.calls (k : Nat) (A0_0 : Option Addr) (c0_0 : Nat) (l0_0 : List (S28)) (A0_1 : Option Addr) (c0_1 : Nat) (l0_1 : List Int) (A0_2 : Option Addr) (c0_2 : Nat) (l0_2 : List (S47)) (a0_3 : Int) (a0_4 : Int) (a0_5 : Int) (a1 : Int) (r1 : List Int) (r2 : Int) (w : World) (hr0_0 : Kd.C k28 w A0_0 l0_0.length l0_0) (hc0_0 : l0_0.length ≤ c0_0) (hr0_1 : Kd.C (Kd.int .i64) w A0_1 l0_1.length l0_1) (hc0_1 : l0_1.length ≤ c0_1) (hr0_2 : Kd.C k47 w A0_2 l0_2.length l0_2) (hc0_2 : l0_2.length ≤ c0_2) (h : hopmeshref05_Hears.f k l0_0 l0_1 l0_2 a0_3 a0_4 a0_5 a1 = some (r1, r2)) :
 Calls Try.prog 16 #[.agg #[.slice A0_0 l0_0.length c0_0, .slice A0_1 l0_1.length c0_1, .slice A0_2 l0_2.length c0_2, .int .i64 a0_3, .int .i64 a0_4, .int .i64 a0_5], .int .i64 a1] w fun e w' => ∃ v0_ : Value, e = .returned (.tuple #[v0_, .int .i64 r2]) ∧ Kd.R (Kd.int .i64) 3 w' w.heap.size (fun _ => True) v0_ r1 ∧ Below w.heap.size w w' := by
 have hu26 := Try.underlying26
 have HR0_0 := Aside0.mk hr0_0
 have HC0_0 := Aside0.mk hc0_0
 clear hr0_0 hc0_0
 have HR0_1 := Aside0.mk hr0_1
 have HC0_1 := Aside0.mk hc0_1
 clear hr0_1 hc0_1
 have HR0_2 := Aside0.mk hr0_2
 have HC0_2 := Aside0.mk hc0_2
 clear hr0_2 hc0_2
 have HB := Aside0.mk (Below.refl w.heap.size w)
 have H : ((hopmeshref05_Check.f k l0_0 l0_1 l0_2 a0_3 a0_4 a0_5).bind fun t253 => (if t253 = 0 then (if a1 < 0 then (hopmeshref05_Hears.j0 k a1 true l0_0 l0_1 l0_2 a0_3 a0_4 a0_5) else (hopmeshref05_Hears.j0 k a1 (decide (a1 ≥ (l0_0.length : Int))) l0_0 l0_1 l0_2 a0_3 a0_4 a0_5)) else (some (([] : List Int), 1)))) = some (r1, r2) := h
 clear h
 replace H := Option.bind_eq_some_iff.mp H
 obtain ⟨t253, A30, H⟩ := H
 replace H : (if t253 = 0 then (if a1 < 0 then (hopmeshref05_Hears.j0 k a1 true l0_0 l0_1 l0_2 a0_3 a0_4 a0_5) else (hopmeshref05_Hears.j0 k a1 (decide (a1 ≥ (l0_0.length : Int))) l0_0 l0_1 l0_2 a0_3 a0_4 a0_5)) else (some (([] : List Int), 1))) = some (r1, r2) := H
 have A3 := Aside0.mk A30
 clear A30
 by_cases c4 : t253 = 0
 rotate_left
 ·rw [if_neg c4] at H
  have c4b0 : (t253 == 0) = false := beq_eq_false_iff_ne.mpr c4
  have c4b1 : (t253 != 0) = true := bne_iff_ne.mpr c4
  simp only [Option.some.injEq, Prod.mk.injEq] at H
  obtain ⟨rfl, rfl⟩ := H
  go_enter Try.func16, Try.ntmps16
  go_wp2_with (first | ((with_reducible refine gate_dst (N := 2) rfl ?_); refine box_event ?hg (N := 2) ?hd (cs := #[.slice A0_0 l0_0.length c0_0, .slice A0_1 l0_1.length c0_1, .slice A0_2 l0_2.length c0_2, .int .i64 a0_3, .int .i64 a0_4, .int .i64 a0_5]) (t := 26) ?hr ?_; (case hd => rfl); (case hg => rfl); (case hr => first | (go_simp; done) | (go_simp; rfl)); intro gb252 hg w27 hbox hb; have n0_ := Aside0.mk (below_step (by repeat (first | (with_reducible first | exact HB.out | apply blA | apply blN | apply blD) | exact HB.out)) hb); have n1_ := Aside0.mk (hbox); have n2_ := Aside0.mk ((by rw [hg]; exact (below_size (by repeat (first | (with_reducible first | exact HB.out | apply blA | apply blN | apply blD) | exact HB.out))) : w.heap.size ≤ gb252)); have n3_ := Aside0.mk ((by rw [hg]; exact (below_size (by repeat (first | (with_reducible first | exact HB.out | apply blA | apply blN | apply blD) | exact HB.out))) : w.heap.size ≤ gb252)); clear HB; have HB := n0_; have BK252 := n1_; have GW252 := n2_; have GE252 := n3_; clear n0_ n1_ n2_ n3_; clear hb hbox hg; have hcz28_0 : w27.cell? ⟨gb252, 0, none⟩ = some (.slice A0_0 l0_0.length c0_0) := (bkC BK252.out 0).trans rfl; have hcz28_1 : w27.cell? ⟨gb252, 1, none⟩ = some (.slice A0_1 l0_1.length c0_1) := (bkC BK252.out 1).trans rfl; have hcz28_2 : w27.cell? ⟨gb252, 2, none⟩ = some (.slice A0_2 l0_2.length c0_2) := (bkC BK252.out 2).trans rfl; have hcz28_3 : w27.cell? ⟨gb252, 3, none⟩ = some (.int .i64 a0_3) := (bkC BK252.out 3).trans rfl; have hcz28_4 : w27.cell? ⟨gb252, 4, none⟩ = some (.int .i64 a0_4) := (bkC BK252.out 4).trans rfl; have hcz28_5 : w27.cell? ⟨gb252, 5, none⟩ = some (.int .i64 a0_5) := (bkC BK252.out 5).trans rfl; have hfz28_0 := bkF BK252.out 0; have hfz28_1 := bkF BK252.out 1; have hfz28_2 := bkF BK252.out 2; have hfz28_3 := bkF BK252.out 3; have hfz28_4 := bkF BK252.out 4; have hfz28_5 := bkF BK252.out 5) | ((with_reducible refine gate_callee (f := 36) rfl ?_); refine goesL_ (some 11) rfl rfl Try.func36 (by kernel_rfl) rfl #[.agg #[.slice A0_0 l0_0.length c0_0, .slice A0_1 l0_1.length c0_1, .slice A0_2 l0_2.length c0_2, .int .i64 a0_3, .int .i64 a0_4, .int .i64 a0_5]] rfl (by (try simp only [List.map_toArray, List.map_cons, List.map_nil]); first | done | rfl | (simp only [List.length_drop, List.length_take]; rfl)) ?_; (with_reducible refine (hopmeshref05_Check.calls k _ _ l0_0 _ _ l0_1 _ _ l0_2 a0_3 a0_4 a0_5 t253 _ ?side1 ?side2 ?side3 ?side4 ?side5 ?side6 A3.out).mono ?_); (case side1 => repeat (first | exact (Kd.C_below HR0_0.out HB.out) | (with_reducible refine Kd.C_alloc ?_ _) | (with_reducible refine Kd.C_drewN ?_ _) | (with_reducible refine Kd.C_drew ?_))); (case side2 => exact HC0_0.out); (case side3 => repeat (first | exact (Kd.C_below HR0_1.out HB.out) | (with_reducible refine Kd.C_alloc ?_ _) | (with_reducible refine Kd.C_drewN ?_ _) | (with_reducible refine Kd.C_drew ?_))); (case side4 => exact HC0_1.out); (case side5 => repeat (first | exact (Kd.C_below HR0_2.out HB.out) | (with_reducible refine Kd.C_alloc ?_ _) | (with_reducible refine Kd.C_drewN ?_ _) | (with_reducible refine Kd.C_drew ?_))); (case side6 => exact HC0_2.out); rintro e w29 ⟨rfl, hb⟩; refine ⟨_, rfl, ?_⟩; have n0_ := Aside0.mk (bkB (g := gb252) (o := .cells #[.slice A0_0 l0_0.length c0_0, .slice A0_1 l0_1.length c0_1, .slice A0_2 l0_2.length c0_2, .int .i64 a0_3, .int .i64 a0_4, .int .i64 a0_5] 26 (0, 0)) (by (with_reducible repeat (first | refine bkN ?_ _ | refine bkD ?_ | refine bkA ?_ _)); exact BK252.out) hb); have n1_ := Aside0.mk (below_step (by repeat (first | (with_reducible first | exact HB.out | apply blA | apply blN | apply blD | refine blS ?_ GE252.out) | exact HB.out)) hb); clear BK252; clear HB; have BK252 := n0_; have HB := n1_; clear n0_ n1_; (try clear hb); (try clear hb2); (try clear hk); (try clear hi)))
  go_ret2
  exact ⟨_, by first | rfl | (simp [errW_none, errW_some] <;> rfl) | (simp [*, errW_none, errW_some] <;> rfl), by first | exact Kd.R_nil _ _ _ _ _ | exact Kd.N_nil _ _ _ _ _ | exact Kd.V_nil _ _ _ _ _ | exact Kd.Q_nil _ _ _ _ _ | exact Kd.S_nil _ _ _ _ _, by repeat (first | (with_reducible first | exact HB.out | apply blA | apply blN | apply blD | refine blS ?_ GE252.out) | exact HB.out)⟩

 rw [if_pos c4] at H
 have c4b0 : (t253 == 0) = true := beq_iff_eq.mpr c4
 have c4b1 : (t253 != 0) = false := bne_eq_false_iff_eq.mpr c4
 clear c4
 have HC5 := Aside0.mk H
 clear H
 go_enter Try.func16, Try.ntmps16
 go_upto_region 3 with (first | ((with_reducible refine gate_dst (N := 2) rfl ?_); refine box_event ?hg (N := 2) ?hd (cs := #[.slice A0_0 l0_0.length c0_0, .slice A0_1 l0_1.length c0_1, .slice A0_2 l0_2.length c0_2, .int .i64 a0_3, .int .i64 a0_4, .int .i64 a0_5]) (t := 26) ?hr ?_; (case hd => rfl); (case hg => rfl); (case hr => first | (go_simp; done) | (go_simp; rfl)); intro gb252 hg w6 hbox hb; have n0_ := Aside0.mk (below_step (by repeat (first | (with_reducible first | exact HB.out | apply blA | apply blN | apply blD) | exact HB.out)) hb); have n1_ := Aside0.mk (hbox); have n2_ := Aside0.mk ((by rw [hg]; exact (below_size (by repeat (first | (with_reducible first | exact HB.out | apply blA | apply blN | apply blD) | exact HB.out))) : w.heap.size ≤ gb252)); have n3_ := Aside0.mk ((by rw [hg]; exact (below_size (by repeat (first | (with_reducible first | exact HB.out | apply blA | apply blN | apply blD) | exact HB.out))) : w.heap.size ≤ gb252)); clear HB; have HB := n0_; have BK252 := n1_; have GW252 := n2_; have GE252 := n3_; clear n0_ n1_ n2_ n3_; clear hb hbox hg; have hcz7_0 : w6.cell? ⟨gb252, 0, none⟩ = some (.slice A0_0 l0_0.length c0_0) := (bkC BK252.out 0).trans rfl; have hcz7_1 : w6.cell? ⟨gb252, 1, none⟩ = some (.slice A0_1 l0_1.length c0_1) := (bkC BK252.out 1).trans rfl; have hcz7_2 : w6.cell? ⟨gb252, 2, none⟩ = some (.slice A0_2 l0_2.length c0_2) := (bkC BK252.out 2).trans rfl; have hcz7_3 : w6.cell? ⟨gb252, 3, none⟩ = some (.int .i64 a0_3) := (bkC BK252.out 3).trans rfl; have hcz7_4 : w6.cell? ⟨gb252, 4, none⟩ = some (.int .i64 a0_4) := (bkC BK252.out 4).trans rfl; have hcz7_5 : w6.cell? ⟨gb252, 5, none⟩ = some (.int .i64 a0_5) := (bkC BK252.out 5).trans rfl; have hfz7_0 := bkF BK252.out 0; have hfz7_1 := bkF BK252.out 1; have hfz7_2 := bkF BK252.out 2; have hfz7_3 := bkF BK252.out 3; have hfz7_4 := bkF BK252.out 4; have hfz7_5 := bkF BK252.out 5) | ((with_reducible refine gate_callee (f := 36) rfl ?_); refine goesL_ (some 11) rfl rfl Try.func36 (by kernel_rfl) rfl #[.agg #[.slice A0_0 l0_0.length c0_0, .slice A0_1 l0_1.length c0_1, .slice A0_2 l0_2.length c0_2, .int .i64 a0_3, .int .i64 a0_4, .int .i64 a0_5]] rfl (by (try simp only [List.map_toArray, List.map_cons, List.map_nil]); first | done | rfl | (simp only [List.length_drop, List.length_take]; rfl)) ?_; (with_reducible refine (hopmeshref05_Check.calls k _ _ l0_0 _ _ l0_1 _ _ l0_2 a0_3 a0_4 a0_5 t253 _ ?side1 ?side2 ?side3 ?side4 ?side5 ?side6 A3.out).mono ?_); (case side1 => repeat (first | exact (Kd.C_below HR0_0.out HB.out) | (with_reducible refine Kd.C_alloc ?_ _) | (with_reducible refine Kd.C_drewN ?_ _) | (with_reducible refine Kd.C_drew ?_))); (case side2 => exact HC0_0.out); (case side3 => repeat (first | exact (Kd.C_below HR0_1.out HB.out) | (with_reducible refine Kd.C_alloc ?_ _) | (with_reducible refine Kd.C_drewN ?_ _) | (with_reducible refine Kd.C_drew ?_))); (case side4 => exact HC0_1.out); (case side5 => repeat (first | exact (Kd.C_below HR0_2.out HB.out) | (with_reducible refine Kd.C_alloc ?_ _) | (with_reducible refine Kd.C_drewN ?_ _) | (with_reducible refine Kd.C_drew ?_))); (case side6 => exact HC0_2.out); rintro e w8 ⟨rfl, hb⟩; refine ⟨_, rfl, ?_⟩; have n0_ := Aside0.mk (bkB (g := gb252) (o := .cells #[.slice A0_0 l0_0.length c0_0, .slice A0_1 l0_1.length c0_1, .slice A0_2 l0_2.length c0_2, .int .i64 a0_3, .int .i64 a0_4, .int .i64 a0_5] 26 (0, 0)) (by (with_reducible repeat (first | refine bkN ?_ _ | refine bkD ?_ | refine bkA ?_ _)); exact BK252.out) hb); have n1_ := Aside0.mk (below_step (by repeat (first | (with_reducible first | exact HB.out | apply blA | apply blN | apply blD | refine blS ?_ GE252.out) | exact HB.out)) hb); clear BK252; clear HB; have BK252 := n0_; have HB := n1_; clear n0_ n1_; (try clear hb); (try clear hb2); (try clear hk); (try clear hi)))
 (try simp only [Act.put, List.setIfInBounds_toArray, List.set_cons_zero, List.set_cons_succ])
 go_cut [21] (fun v21 wc => ∃ (kq : Nat) (x21_4 : Bool), v21 = .bool x21_4 ∧ Aside0 (hopmeshref05_Hears.j0 kq a1 x21_4 l0_0 l0_1 l0_2 a0_3 a0_4 a0_5 = some (r1, r2)) ∧ Aside0 (kq ≤ k) ∧ Aside0 (wc.heap[gb252]? = some (.cells #[(.slice A0_0 l0_0.length c0_0), (.slice A0_1 l0_1.length c0_1), (.slice A0_2 l0_2.length c0_2), .int .i64 a0_3, .int .i64 a0_4, .int .i64 a0_5] 26 (0, 0))) ∧ Aside0 (Below w.heap.size w wc))
 case first =>
  have H := HC5.out
  clear HC5
  by_cases c9 : a1 < 0
  ·rw [if_pos c9] at H
   have c9b0 : decide (a1 < 0) = true := decide_eq_true c9
   clear c9
   (first | rw [c9b0] | (simp only [i64_w, i32_w]; rw [c9b0]) | skip)
   have H' := Aside0.mk H
   clear H
   go_wp2
   go_meet
   case rel => exact ⟨_, (true), (by first | rfl | (simp; done) | (simp [*]; done)), H', ⟨by first | omega | exact Nat.le_refl _⟩, ⟨by (with_reducible repeat (first | refine bkN ?_ _ | refine bkD ?_ | refine bkA ?_ _)); exact BK252.out⟩, ⟨by repeat (first | (with_reducible first | exact HB.out | apply blA | apply blN | apply blD | refine blS ?_ GE252.out) | exact HB.out)⟩⟩
  rw [if_neg c9] at H
  have c9b0 : decide (a1 < 0) = false := decide_eq_false c9
  clear c9
  (first | rw [c9b0] | (simp only [i64_w, i32_w]; rw [c9b0]) | skip)
  have H' := Aside0.mk H
  clear H
  have hcz10_0 : w8.cell? ⟨gb252, 0, none⟩ = some (.slice A0_0 l0_0.length c0_0) := (bkC BK252.out 0).trans rfl
  have hcz10_1 : w8.cell? ⟨gb252, 1, none⟩ = some (.slice A0_1 l0_1.length c0_1) := (bkC BK252.out 1).trans rfl
  have hcz10_2 : w8.cell? ⟨gb252, 2, none⟩ = some (.slice A0_2 l0_2.length c0_2) := (bkC BK252.out 2).trans rfl
  have hcz10_3 : w8.cell? ⟨gb252, 3, none⟩ = some (.int .i64 a0_3) := (bkC BK252.out 3).trans rfl
  have hcz10_4 : w8.cell? ⟨gb252, 4, none⟩ = some (.int .i64 a0_4) := (bkC BK252.out 4).trans rfl
  have hcz10_5 : w8.cell? ⟨gb252, 5, none⟩ = some (.int .i64 a0_5) := (bkC BK252.out 5).trans rfl
  have hfz10_0 := bkF BK252.out 0
  have hfz10_1 := bkF BK252.out 1
  have hfz10_2 := bkF BK252.out 2
  have hfz10_3 := bkF BK252.out 3
  have hfz10_4 := bkF BK252.out 4
  have hfz10_5 := bkF BK252.out 5
  go_wp2
  go_meet
  case rel => exact ⟨_, (decide (a1 ≥ (l0_0.length : Int))), (by first | rfl | (simp; done) | (simp [*]; done)), H', ⟨by first | omega | exact Nat.le_refl _⟩, ⟨by (with_reducible repeat (first | refine bkN ?_ _ | refine bkD ?_ | refine bkA ?_ _)); exact BK252.out⟩, ⟨by repeat (first | (with_reducible first | exact HB.out | apply blA | apply blN | apply blD | refine blS ?_ GE252.out) | exact HB.out)⟩⟩
 case rest =>
  clear HC5
  try clear c1
  try clear p2
  try clear c3
  try clear c4
  try clear c4b0
  try clear c4b1
  try clear c9
  try clear c9b0
  try clear hcz10_0
  try clear hcz10_1
  try clear hcz10_2
  try clear hcz10_3
  try clear hcz10_4
  try clear hcz10_5
  try clear hcz7_0
  try clear hcz7_1
  try clear hcz7_2
  try clear hcz7_3
  try clear hcz7_4
  try clear hcz7_5
  try clear hfz10_0
  try clear hfz10_1
  try clear hfz10_2
  try clear hfz10_3
  try clear hfz10_4
  try clear hfz10_5
  try clear hfz7_0
  try clear hfz7_1
  try clear hfz7_2
  try clear hfz7_3
  try clear hfz7_4
  try clear hfz7_5
  obtain ⟨kq, x21_4, rfl, HA, HJ4, BK252, HB⟩ := hcut
  cases kq with
  | zero => exact absurd HA.out (by simp [hopmeshref05_Hears.j0])
  | succ kj4 =>
   have H := HA.out
   clear HA
   simp only [hopmeshref05_Hears.j0] at H
   by_cases c11 : x21_4 = true
   ·subst c11
    have H1 : (some (([] : List Int), 7)) = some (r1, r2) := by rw [if_pos rfl] at H; exact H
    clear H
    have H := H1
    clear H1
    simp only [Option.some.injEq, Prod.mk.injEq] at H
    obtain ⟨rfl, rfl⟩ := H
    go_wp2
    go_ret2
    exact ⟨_, by first | rfl | (simp [errW_none, errW_some] <;> rfl) | (simp [*, errW_none, errW_some] <;> rfl), by first | exact Kd.R_nil _ _ _ _ _ | exact Kd.N_nil _ _ _ _ _ | exact Kd.V_nil _ _ _ _ _ | exact Kd.Q_nil _ _ _ _ _ | exact Kd.S_nil _ _ _ _ _, by repeat (first | (with_reducible first | exact HB.out | apply blA | apply blN | apply blD | refine blS ?_ GE252.out) | exact HB.out)⟩
   replace c11 := Bool.eq_false_iff.mpr c11
   subst c11
   have H1 : (hopmeshref05_Hears.l0 kj4 a1 (([] : List Int)) 0 l0_0 l0_1 l0_2 a0_3 a0_4 a0_5) = some (r1, r2) := by rw [if_neg (show ¬ (false = true) by decide)] at H; exact H
   clear H
   have H := H1
   clear H1
   obtain ⟨y254, hy254⟩ : ∃ y_ : List Int, y_ = (([] : List Int)) := ⟨_, rfl⟩
   replace H : (hopmeshref05_Hears.l0 kj4 a1 y254 0 l0_0 l0_1 l0_2 a0_3 a0_4 a0_5) = some (r1, r2) := by first | (rw [hy254]; with_reducible exact H) | (have H2_ := (Option.bind_some _ _).symm.trans H; rw [hy254]; with_reducible exact H2_) | (have H2_ := (Option.bind_some _ _).symm.trans H; with_reducible exact H2_) | with_reducible exact H | (rw [hy254]; exact H) | exact H
   have Ny254 := Aside0.mk hy254
   clear hy254
   have H' := Aside0.mk H
   clear H
   go_wp2_with (first | ((with_reducible refine gate_dst (N := 22) rfl ?_); refine Kd.R_lit (Kd.int .i64) _ 3 ?hg (N := 22) ?hd (xs := ([] : List Int)) (inner := []) (ok := fun _ => True) (okp := fun _ => True) ?hr ?hp (fun _ hk => hk) trivial (Below.refl _ _) (Nat.le_refl _) (by simp) ?_; (case hd => rfl); (case hg => rfl); (case hr => first | (go_simp; done) | (go_simp; rfl)); (case hp => exact (Reps.none _ _)); intro v255 w12 ho13 hb hg_ hnew_; clear hg_ hnew_; (first | rw [← Ny254.out] at ho13 | (simp only [Int.reduceToNat] at ho13; rw [← Ny254.out] at ho13)); have n0_ := Aside0.mk (Kd.R_lower ho13 (below_size (by repeat (first | (with_reducible first | exact HB.out | apply blA | apply blN | apply blD | refine blS ?_ GE252.out) | exact HB.out)))); have n1_ := Aside0.mk (bkB (g := gb252) (o := .cells #[.slice A0_0 l0_0.length c0_0, .slice A0_1 l0_1.length c0_1, .slice A0_2 l0_2.length c0_2, .int .i64 a0_3, .int .i64 a0_4, .int .i64 a0_5] 26 (0, 0)) (by (with_reducible repeat (first | refine bkN ?_ _ | refine bkD ?_ | refine bkA ?_ _)); exact BK252.out) hb); have n2_ := Aside0.mk (below_step (by repeat (first | (with_reducible first | exact HB.out | apply blA | apply blN | apply blD | refine blS ?_ GE252.out) | exact HB.out)) hb); clear BK252; clear HB; have HO256 := n0_; have BK252 := n1_; have HB := n2_; clear n0_ n1_ n2_; clear hb ho13))
   go_loopg [6, 7] kj4 (fun kq v6 v7 w' => ∃ (x6_2 : List Int) (x7_2 : Int), v7 = .int .i64 x7_2 ∧ Aside0 (hopmeshref05_Hears.l0 kq a1 x6_2 x7_2 l0_0 l0_1 l0_2 a0_3 a0_4 a0_5 = some (r1, r2)) ∧ Aside0 (kq ≤ kj4) ∧ Aside0 (Kd.R (Kd.int .i64) 3 w' w.heap.size (fun _ => True) v6 x6_2) ∧ Aside0 (w'.heap[gb252]? = some (.cells #[(.slice A0_0 l0_0.length c0_0), (.slice A0_1 l0_1.length c0_1), (.slice A0_2 l0_2.length c0_2), .int .i64 a0_3, .int .i64 a0_4, .int .i64 a0_5] 26 (0, 0))) ∧ Aside0 (Below w.heap.size w w'))
   case atStart => exact ⟨(y254), (0), (by first | rfl | (simp; done) | (simp [*]; done)), H', ⟨Nat.le_refl _⟩, ⟨by (with_reducible repeat (first | apply Kd.R_alloc | apply Kd.R_drewN | apply Kd.R_drew)); exact HO256.out⟩, ⟨by (with_reducible repeat (first | refine bkN ?_ _ | refine bkD ?_ | refine bkA ?_ _)); exact BK252.out⟩, ⟨by repeat (first | (with_reducible first | exact HB.out | apply blA | apply blN | apply blD | refine blS ?_ GE252.out) | exact HB.out)⟩⟩
   case round =>
    clear H'
    try clear c1
    try clear p2
    try clear c3
    try clear c4
    try clear c4b0
    try clear c4b1
    try clear c9
    try clear c9b0
    try clear c11
    try clear hcz10_0
    try clear hcz10_1
    try clear hcz10_2
    try clear hcz10_3
    try clear hcz10_4
    try clear hcz10_5
    try clear hcz7_0
    try clear hcz7_1
    try clear hcz7_2
    try clear hcz7_3
    try clear hcz7_4
    try clear hcz7_5
    try clear hfz10_0
    try clear hfz10_1
    try clear hfz10_2
    try clear hfz10_3
    try clear hfz10_4
    try clear hfz10_5
    try clear hfz7_0
    try clear hfz7_1
    try clear hfz7_2
    try clear hfz7_3
    try clear hfz7_4
    try clear hfz7_5
    try clear p2
    obtain ⟨x6_2, x7_2, rfl, HA, HK2, HO_6, BK252, HB⟩ := hrel
    cases gk with
    | zero => exact absurd HA.out (by simp [hopmeshref05_Hears.l0])
    | succ k2 =>
     have H := HA.out
     clear HA
     simp only [hopmeshref05_Hears.l0] at H
     by_cases c14 : x7_2 < (l0_0.length : Int)
     rotate_left
     ·rw [if_neg c14] at H
      have c14b0 : decide (x7_2 < (l0_0.length : Int)) = false := decide_eq_false c14
      clear c14
      simp only [Option.some.injEq, Prod.mk.injEq] at H
      obtain ⟨rfl, rfl⟩ := H
      have hcz26_0 : wr.cell? ⟨gb252, 0, none⟩ = some (.slice A0_0 l0_0.length c0_0) := (bkC BK252.out 0).trans rfl
      have hcz26_1 : wr.cell? ⟨gb252, 1, none⟩ = some (.slice A0_1 l0_1.length c0_1) := (bkC BK252.out 1).trans rfl
      have hcz26_2 : wr.cell? ⟨gb252, 2, none⟩ = some (.slice A0_2 l0_2.length c0_2) := (bkC BK252.out 2).trans rfl
      have hcz26_3 : wr.cell? ⟨gb252, 3, none⟩ = some (.int .i64 a0_3) := (bkC BK252.out 3).trans rfl
      have hcz26_4 : wr.cell? ⟨gb252, 4, none⟩ = some (.int .i64 a0_4) := (bkC BK252.out 4).trans rfl
      have hcz26_5 : wr.cell? ⟨gb252, 5, none⟩ = some (.int .i64 a0_5) := (bkC BK252.out 5).trans rfl
      have hfz26_0 := bkF BK252.out 0
      have hfz26_1 := bkF BK252.out 1
      have hfz26_2 := bkF BK252.out 2
      have hfz26_3 := bkF BK252.out 3
      have hfz26_4 := bkF BK252.out 4
      have hfz26_5 := bkF BK252.out 5
      go_wp2
      go_ret2
      exact ⟨_, by first | rfl | (simp [errW_none, errW_some] <;> rfl) | (simp [*, errW_none, errW_some] <;> rfl), by (with_reducible repeat (first | apply Kd.R_alloc | apply Kd.R_drewN | apply Kd.R_drew)); exact HO_6.out, by repeat (first | (with_reducible first | exact HB.out | apply blA | apply blN | apply blD | refine blS ?_ GE252.out) | exact HB.out)⟩
     rw [if_pos c14] at H
     have c14b0 : decide (x7_2 < (l0_0.length : Int)) = true := decide_eq_true c14
     clear c14
     replace H := Option.bind_eq_some_iff.mp H
     obtain ⟨⟨t257, t258⟩, A150, H⟩ := H
     replace H : ((hopmeshref04_Decide.f t257 a0_5 a0_4 0).bind fun t259 => (if t259 = true then (if x6_2.length < 17592186044416 then (hopmeshref05_Hears.l0 k2 a1 (x6_2 ++ [x7_2]) (wrap64 (x7_2 + 1)) l0_0 l0_1 l0_2 a0_3 a0_4 a0_5) else (none)) else (hopmeshref05_Hears.l0 k2 a1 x6_2 (wrap64 (x7_2 + 1)) l0_0 l0_1 l0_2 a0_3 a0_4 a0_5))) = some (r1, r2) := H
     have A15 := Aside0.mk A150
     clear A150
     replace H := Option.bind_eq_some_iff.mp H
     obtain ⟨t259, A160, H⟩ := H
     replace H : (if t259 = true then (if x6_2.length < 17592186044416 then (hopmeshref05_Hears.l0 k2 a1 (x6_2 ++ [x7_2]) (wrap64 (x7_2 + 1)) l0_0 l0_1 l0_2 a0_3 a0_4 a0_5) else (none)) else (hopmeshref05_Hears.l0 k2 a1 x6_2 (wrap64 (x7_2 + 1)) l0_0 l0_1 l0_2 a0_3 a0_4 a0_5)) = some (r1, r2) := H
     have A16 := Aside0.mk A160
     clear A160
     by_cases c17 : t259 = true
     rotate_left
     ·replace c17 := Bool.eq_false_iff.mpr c17
      subst c17
      have H1 : (hopmeshref05_Hears.l0 k2 a1 x6_2 (wrap64 (x7_2 + 1)) l0_0 l0_1 l0_2 a0_3 a0_4 a0_5) = some (r1, r2) := by rw [if_neg (show ¬ (false = true) by decide)] at H; exact H
      clear H
      have H := H1
      clear H1
      have H' := Aside0.mk H
      clear H
      have hcz23_0 : wr.cell? ⟨gb252, 0, none⟩ = some (.slice A0_0 l0_0.length c0_0) := (bkC BK252.out 0).trans rfl
      have hcz23_1 : wr.cell? ⟨gb252, 1, none⟩ = some (.slice A0_1 l0_1.length c0_1) := (bkC BK252.out 1).trans rfl
      have hcz23_2 : wr.cell? ⟨gb252, 2, none⟩ = some (.slice A0_2 l0_2.length c0_2) := (bkC BK252.out 2).trans rfl
      have hcz23_3 : wr.cell? ⟨gb252, 3, none⟩ = some (.int .i64 a0_3) := (bkC BK252.out 3).trans rfl
      have hcz23_4 : wr.cell? ⟨gb252, 4, none⟩ = some (.int .i64 a0_4) := (bkC BK252.out 4).trans rfl
      have hcz23_5 : wr.cell? ⟨gb252, 5, none⟩ = some (.int .i64 a0_5) := (bkC BK252.out 5).trans rfl
      have hfz23_0 := bkF BK252.out 0
      have hfz23_1 := bkF BK252.out 1
      have hfz23_2 := bkF BK252.out 2
      have hfz23_3 := bkF BK252.out 3
      have hfz23_4 := bkF BK252.out 4
      have hfz23_5 := bkF BK252.out 5
      go_wp2_with (first | ((with_reducible refine gate_callee (f := 34) rfl ?_); refine goesL_ (some 34) rfl rfl Try.func34 (by kernel_rfl) rfl #[.agg #[.slice A0_0 l0_0.length c0_0, .slice A0_1 l0_1.length c0_1, .slice A0_2 l0_2.length c0_2, .int .i64 a0_3, .int .i64 a0_4, .int .i64 a0_5], .int .i64 x7_2, .int .i64 a1] rfl (by (try simp only [List.map_toArray, List.map_cons, List.map_nil]); first | done | rfl | (simp only [List.length_drop, List.length_take]; rfl)) ?_; (with_reducible refine (hopmeshref05_Between.calls k2 _ _ l0_0 _ _ l0_1 _ _ l0_2 a0_3 a0_4 a0_5 x7_2 a1 t257 t258 _ ?side1 ?side2 ?side3 ?side4 ?side5 ?side6 A15.out).mono ?_); (case side1 => repeat (first | exact (Kd.C_below HR0_0.out HB.out) | (with_reducible refine Kd.C_alloc ?_ _) | (with_reducible refine Kd.C_drewN ?_ _) | (with_reducible refine Kd.C_drew ?_))); (case side2 => exact HC0_0.out); (case side3 => repeat (first | exact (Kd.C_below HR0_1.out HB.out) | (with_reducible refine Kd.C_alloc ?_ _) | (with_reducible refine Kd.C_drewN ?_ _) | (with_reducible refine Kd.C_drew ?_))); (case side4 => exact HC0_1.out); (case side5 => repeat (first | exact (Kd.C_below HR0_2.out HB.out) | (with_reducible refine Kd.C_alloc ?_ _) | (with_reducible refine Kd.C_drewN ?_ _) | (with_reducible refine Kd.C_drew ?_))); (case side6 => exact HC0_2.out); rintro e w24 ⟨rfl, hb⟩; refine ⟨_, rfl, ?_⟩; have n0_ := Aside0.mk (Kd.R_below (by (with_reducible repeat (first | apply Kd.R_alloc | apply Kd.R_drewN | apply Kd.R_drew)); exact HO_6.out) hb); have n1_ := Aside0.mk (bkB (g := gb252) (o := .cells #[.slice A0_0 l0_0.length c0_0, .slice A0_1 l0_1.length c0_1, .slice A0_2 l0_2.length c0_2, .int .i64 a0_3, .int .i64 a0_4, .int .i64 a0_5] 26 (0, 0)) (by (with_reducible repeat (first | refine bkN ?_ _ | refine bkD ?_ | refine bkA ?_ _)); exact BK252.out) hb); have n2_ := Aside0.mk (below_step (by repeat (first | (with_reducible first | exact HB.out | apply blA | apply blN | apply blD | refine blS ?_ GE252.out) | exact HB.out)) hb); clear HO_6; clear BK252; clear HB; have HO_6 := n0_; have BK252 := n1_; have HB := n2_; clear n0_ n1_ n2_; (try clear hb); (try clear hb2); (try clear hk); (try clear hi); have hcz25_0 : w24.cell? ⟨gb252, 0, none⟩ = some (.slice A0_0 l0_0.length c0_0) := (bkC BK252.out 0).trans rfl; have hcz25_1 : w24.cell? ⟨gb252, 1, none⟩ = some (.slice A0_1 l0_1.length c0_1) := (bkC BK252.out 1).trans rfl; have hcz25_2 : w24.cell? ⟨gb252, 2, none⟩ = some (.slice A0_2 l0_2.length c0_2) := (bkC BK252.out 2).trans rfl; have hcz25_3 : w24.cell? ⟨gb252, 3, none⟩ = some (.int .i64 a0_3) := (bkC BK252.out 3).trans rfl; have hcz25_4 : w24.cell? ⟨gb252, 4, none⟩ = some (.int .i64 a0_4) := (bkC BK252.out 4).trans rfl; have hcz25_5 : w24.cell? ⟨gb252, 5, none⟩ = some (.int .i64 a0_5) := (bkC BK252.out 5).trans rfl; have hfz25_0 := bkF BK252.out 0; have hfz25_1 := bkF BK252.out 1; have hfz25_2 := bkF BK252.out 2; have hfz25_3 := bkF BK252.out 3; have hfz25_4 := bkF BK252.out 4; have hfz25_5 := bkF BK252.out 5) | ((with_reducible refine gate_callee (f := 42) rfl ?_); refine goesL_ (some 42) rfl rfl Try.func42 (by kernel_rfl) rfl #[.int .i64 t257, .int .i64 a0_5, .int .i64 a0_4, .int .i64 0] rfl (by (try simp only [List.map_toArray, List.map_cons, List.map_nil]); first | done | rfl | (simp only [List.length_drop, List.length_take]; rfl)) ?_; (with_reducible refine (hopmeshref04_Decide.calls t257 a0_5 a0_4 0 false _ A16.out).mono ?_); rintro e w' ⟨rfl, ⟨nd, rfl⟩⟩; refine ⟨_, rfl, ?_⟩))
      go_roundg k2
      case measure => have := HJ4.out; have := HK2.out; omega
      case rel => exact ⟨(x6_2), (wrap64 (x7_2 + 1)), (by first | rfl | (simp; done) | (simp [*]; done)), H', ⟨by have := HJ4.out; have := HK2.out; omega⟩, ⟨by (with_reducible repeat (first | apply Kd.R_alloc | apply Kd.R_drewN | apply Kd.R_drew)); exact HO_6.out⟩, ⟨by (with_reducible repeat (first | refine bkN ?_ _ | refine bkD ?_ | refine bkA ?_ _)); exact BK252.out⟩, ⟨by repeat (first | (with_reducible first | exact HB.out | apply blA | apply blN | apply blD | refine blS ?_ GE252.out) | exact HB.out)⟩⟩
     subst c17
     have H1 : (if x6_2.length < 17592186044416 then (hopmeshref05_Hears.l0 k2 a1 (x6_2 ++ [x7_2]) (wrap64 (x7_2 + 1)) l0_0 l0_1 l0_2 a0_3 a0_4 a0_5) else (none)) = some (r1, r2) := by rw [if_pos rfl] at H; exact H
     clear H
     have H := H1
     clear H1
     by_cases c18 : x6_2.length < 17592186044416
     rotate_left
     ·rw [if_neg c18] at H
      exact absurd H (by simp)
     rw [if_pos c18] at H
     have LMc18 := Aside0.mk c18
     clear c18
     obtain ⟨y260, hy260⟩ : ∃ y_ : List Int, y_ = (x6_2 ++ [x7_2]) := ⟨_, rfl⟩
     replace H : (hopmeshref05_Hears.l0 k2 a1 y260 (wrap64 (x7_2 + 1)) l0_0 l0_1 l0_2 a0_3 a0_4 a0_5) = some (r1, r2) := by first | (rw [hy260]; with_reducible exact H) | (have H2_ := (Option.bind_some _ _).symm.trans H; rw [hy260]; with_reducible exact H2_) | (have H2_ := (Option.bind_some _ _).symm.trans H; with_reducible exact H2_) | with_reducible exact H | (rw [hy260]; exact H) | exact H
     have Ny260 := Aside0.mk hy260
     clear hy260
     have H' := Aside0.mk H
     clear H
     have hcz19_0 : wr.cell? ⟨gb252, 0, none⟩ = some (.slice A0_0 l0_0.length c0_0) := (bkC BK252.out 0).trans rfl
     have hcz19_1 : wr.cell? ⟨gb252, 1, none⟩ = some (.slice A0_1 l0_1.length c0_1) := (bkC BK252.out 1).trans rfl
     have hcz19_2 : wr.cell? ⟨gb252, 2, none⟩ = some (.slice A0_2 l0_2.length c0_2) := (bkC BK252.out 2).trans rfl
     have hcz19_3 : wr.cell? ⟨gb252, 3, none⟩ = some (.int .i64 a0_3) := (bkC BK252.out 3).trans rfl
     have hcz19_4 : wr.cell? ⟨gb252, 4, none⟩ = some (.int .i64 a0_4) := (bkC BK252.out 4).trans rfl
     have hcz19_5 : wr.cell? ⟨gb252, 5, none⟩ = some (.int .i64 a0_5) := (bkC BK252.out 5).trans rfl
     have hfz19_0 := bkF BK252.out 0
     have hfz19_1 := bkF BK252.out 1
     have hfz19_2 := bkF BK252.out 2
     have hfz19_3 := bkF BK252.out 3
     have hfz19_4 := bkF BK252.out 4
     have hfz19_5 := bkF BK252.out 5
     go_wp2_with (first | ((with_reducible refine gate_callee (f := 34) rfl ?_); refine goesL_ (some 34) rfl rfl Try.func34 (by kernel_rfl) rfl #[.agg #[.slice A0_0 l0_0.length c0_0, .slice A0_1 l0_1.length c0_1, .slice A0_2 l0_2.length c0_2, .int .i64 a0_3, .int .i64 a0_4, .int .i64 a0_5], .int .i64 x7_2, .int .i64 a1] rfl (by (try simp only [List.map_toArray, List.map_cons, List.map_nil]); first | done | rfl | (simp only [List.length_drop, List.length_take]; rfl)) ?_; (with_reducible refine (hopmeshref05_Between.calls k2 _ _ l0_0 _ _ l0_1 _ _ l0_2 a0_3 a0_4 a0_5 x7_2 a1 t257 t258 _ ?side1 ?side2 ?side3 ?side4 ?side5 ?side6 A15.out).mono ?_); (case side1 => repeat (first | exact (Kd.C_below HR0_0.out HB.out) | (with_reducible refine Kd.C_alloc ?_ _) | (with_reducible refine Kd.C_drewN ?_ _) | (with_reducible refine Kd.C_drew ?_))); (case side2 => exact HC0_0.out); (case side3 => repeat (first | exact (Kd.C_below HR0_1.out HB.out) | (with_reducible refine Kd.C_alloc ?_ _) | (with_reducible refine Kd.C_drewN ?_ _) | (with_reducible refine Kd.C_drew ?_))); (case side4 => exact HC0_1.out); (case side5 => repeat (first | exact (Kd.C_below HR0_2.out HB.out) | (with_reducible refine Kd.C_alloc ?_ _) | (with_reducible refine Kd.C_drewN ?_ _) | (with_reducible refine Kd.C_drew ?_))); (case side6 => exact HC0_2.out); rintro e w20 ⟨rfl, hb⟩; refine ⟨_, rfl, ?_⟩; have n0_ := Aside0.mk (Kd.R_below (by (with_reducible repeat (first | apply Kd.R_alloc | apply Kd.R_drewN | apply Kd.R_drew)); exact HO_6.out) hb); have n1_ := Aside0.mk (bkB (g := gb252) (o := .cells #[.slice A0_0 l0_0.length c0_0, .slice A0_1 l0_1.length c0_1, .slice A0_2 l0_2.length c0_2, .int .i64 a0_3, .int .i64 a0_4, .int .i64 a0_5] 26 (0, 0)) (by (with_reducible repeat (first | refine bkN ?_ _ | refine bkD ?_ | refine bkA ?_ _)); exact BK252.out) hb); have n2_ := Aside0.mk (below_step (by repeat (first | (with_reducible first | exact HB.out | apply blA | apply blN | apply blD | refine blS ?_ GE252.out) | exact HB.out)) hb); clear HO_6; clear BK252; clear HB; have HO_6 := n0_; have BK252 := n1_; have HB := n2_; clear n0_ n1_ n2_; (try clear hb); (try clear hb2); (try clear hk); (try clear hi); have hcz21_0 : w20.cell? ⟨gb252, 0, none⟩ = some (.slice A0_0 l0_0.length c0_0) := (bkC BK252.out 0).trans rfl; have hcz21_1 : w20.cell? ⟨gb252, 1, none⟩ = some (.slice A0_1 l0_1.length c0_1) := (bkC BK252.out 1).trans rfl; have hcz21_2 : w20.cell? ⟨gb252, 2, none⟩ = some (.slice A0_2 l0_2.length c0_2) := (bkC BK252.out 2).trans rfl; have hcz21_3 : w20.cell? ⟨gb252, 3, none⟩ = some (.int .i64 a0_3) := (bkC BK252.out 3).trans rfl; have hcz21_4 : w20.cell? ⟨gb252, 4, none⟩ = some (.int .i64 a0_4) := (bkC BK252.out 4).trans rfl; have hcz21_5 : w20.cell? ⟨gb252, 5, none⟩ = some (.int .i64 a0_5) := (bkC BK252.out 5).trans rfl; have hfz21_0 := bkF BK252.out 0; have hfz21_1 := bkF BK252.out 1; have hfz21_2 := bkF BK252.out 2; have hfz21_3 := bkF BK252.out 3; have hfz21_4 := bkF BK252.out 4; have hfz21_5 := bkF BK252.out 5) | ((with_reducible refine gate_callee (f := 42) rfl ?_); refine goesL_ (some 42) rfl rfl Try.func42 (by kernel_rfl) rfl #[.int .i64 t257, .int .i64 a0_5, .int .i64 a0_4, .int .i64 0] rfl (by (try simp only [List.map_toArray, List.map_cons, List.map_nil]); first | done | rfl | (simp only [List.length_drop, List.length_take]; rfl)) ?_; (with_reducible refine (hopmeshref04_Decide.calls t257 a0_5 a0_4 0 true _ A16.out).mono ?_); rintro e w' ⟨rfl, ⟨nd, rfl⟩⟩; refine ⟨_, rfl, ?_⟩) | ((with_reducible refine gate_builtin (b := .append) (xs := #[.tmp 43, .tmp 45]) rfl ?_); at_builtin; refine Kd.R_append (Kd.int .i64) (w0 := w) w.heap.size rfl (.tmp 43) (.tmp 45) 23 3 (.int .i64 0) 8 rfl Try.underlying23 info3 rfl (by decide) (by omega) u6 x6_2 x7_2 [.int .i64 x7_2] (fun _ => True) (fun _ => False) rfl rfl ?aP (fun _ hk => hk.elim) ?aF ?aO ?aB ?aS ?aL ?_; (case aP => exact rfl); (case aB => exact (by repeat (first | (with_reducible first | exact HB.out | apply blA | apply blN | apply blD | refine blS ?_ GE252.out) | exact HB.out))); (case aF => exact (fun _ _ => trivial)); (case aO => exact (by (with_reducible repeat (first | apply Kd.R_alloc | apply Kd.R_drewN | apply Kd.R_drew)); exact HO_6.out)); (case aS => exact (below_size (by repeat (first | (with_reducible first | exact HB.out | apply blA | apply blN | apply blD | refine blS ?_ GE252.out) | exact HB.out)))); (case aL => have := LMc18.out; omega); intro v261 w22 ho hb hg hat; rw [← Ny260.out] at ho; have n0_ := Aside0.mk (blk_grown (g := gb252) (o := .cells #[.slice A0_0 l0_0.length c0_0, .slice A0_1 l0_1.length c0_1, .slice A0_2 l0_2.length c0_2, .int .i64 a0_3, .int .i64 a0_4, .int .i64 a0_5] 26 (0, 0)) (by (with_reducible repeat (first | refine bkN ?_ _ | refine bkD ?_ | refine bkA ?_ _)); exact BK252.out) hg (Kd.R_ne HO_6.out BK252.out (by decide))); have n1_ := Aside0.mk (hb); have n2_ := Aside0.mk (ho); clear BK252; clear HB; clear HO_6; have BK252 := n0_; have HB := n1_; have HO262 := n2_; clear n0_ n1_ n2_; clear ho hb hg hat))
     go_roundg k2
     case measure => have := HJ4.out; have := HK2.out; omega
     case rel => exact ⟨(y260), (wrap64 (x7_2 + 1)), (by first | rfl | (simp; done) | (simp [*]; done)), H', ⟨by have := HJ4.out; have := HK2.out; omega⟩, ⟨by (with_reducible repeat (first | apply Kd.R_alloc | apply Kd.R_drewN | apply Kd.R_drew)); exact HO262.out⟩, ⟨by (with_reducible repeat (first | refine bkN ?_ _ | refine bkD ?_ | refine bkA ?_ _)); exact BK252.out⟩, ⟨by repeat (first | (with_reducible first | exact HB.out | apply blA | apply blN | apply blD | refine blS ?_ GE252.out) | exact HB.out)⟩⟩
end Go.Proofs.Ytcdgpnjlaicbcaa.PA
