-- Written by a program of this session (mkprint.py: the kit's print, changed) for this claim. Not trusted: Lean checks it.
import Derived.Test.YtcdgpnjlaicbcaaPAx0
import Derived.Test.YtcdgpnjlaicbcaaPAx2
import Derived.Test.YtcdgpnjlaicbcaaPAx43
import Derived.Test.YtcdgpnjlaicbcaaPAx44
namespace Go.Proofs.Ytcdgpnjlaicbcaa.PA
open Go.RowKit Go.Proofs.YtcdgpnjlaicbcaaW.PrintWords Go.Proofs.YtcdgpnjlaicbcaaW.PrintLast Go.Proofs.YtcdgpnjlaicbcaaW.PrintMore
attribute [local go_sem] max2_int min2_int max_two min_two max_three min_three max_four min_four   -- for this text's walks alone
-- thin
set_option linter.unusedVariables false
set_option linter.unusedSimpArgs false

/-! ### geometry_At: function 23 -/
def geometry_At.j0 : Nat → Int → Bool → List (S28) → List Int → List (S47) → Int → Int → Int → Int → Int → Int → Int → Option (Int × Int)
 | 0, _, _, _, _, _, _, _, _, _, _, _, _ => none
 | k + 1, x2, x14, x297000, x297001, x297002, x297003, x297004, x297005, x298000, x298001, x299000, x299001 => if x14 = true then (some (0, 2)) else ((geometry_at.f x297000 x297001 x297002 x297003 x297004 x297005 x298000 x298001 x2 x299000 x299001).bind fun t303 => (some (t303, 0)))
def geometry_At.f (k : Nat) (l0_0 : List (S28)) (l0_1 : List Int) (l0_2 : List (S47)) (a0_3 : Int) (a0_4 : Int) (a0_5 : Int) (a1_0 : Int) (a1_1 : Int) (a2 : Int) (a3_0 : Int) (a3_1 : Int) : Option (Int × Int) := (geometry_Check.f l0_0 l0_1 l0_2 a0_3 a0_4 a0_5).bind fun t299 => (if t299 = 0 then ((geometry_point.f a1_0 a1_1).bind fun t300 => (if t300 = true then ((geometry_point.f a3_0 a3_1).bind fun t301 => (if t301 = true then ((geometry_isPower.f a2).bind fun t302 => (geometry_At.j0 k a2 (!t302) l0_0 l0_1 l0_2 a0_3 a0_4 a0_5 a1_0 a1_1 a3_0 a3_1)) else (geometry_At.j0 k a2 true l0_0 l0_1 l0_2 a0_3 a0_4 a0_5 a1_0 a1_1 a3_0 a3_1))) else (geometry_At.j0 k a2 true l0_0 l0_1 l0_2 a0_3 a0_4 a0_5 a1_0 a1_1 a3_0 a3_1))) else (some (0, 1)))
theorem geometry_At.mono_l : ∀ k, (∀ y0 y1 y2 y3 y4 y5 y6 y7 y8 y9 y10 y11, LeO (geometry_At.j0 k y0 y1 y2 y3 y4 y5 y6 y7 y8 y9 y10 y11) (geometry_At.j0 (k + 1) y0 y1 y2 y3 y4 y5 y6 y7 y8 y9 y10 y11))
 | 0 => fun _ _ _ _ _ _ _ _ _ _ _ _ r h => by simp [geometry_At.j0] at h
 | k + 1 => by
  have ih0 := geometry_At.mono_l k
  ·intro y0 y1 y2 y3 y4 y5 y6 y7 y8 y9 y10 y11
   unfold geometry_At.j0
   repeat' first
   | (with_reducible exact ih0 _ _ _ _ _ _ _ _ _ _ _ _)
   | (with_reducible exact LeO.refl _)
   | (with_reducible exact LeO.none _)
   | (with_reducible refine LeO.ite ?_ ?_)
   | (with_reducible refine LeO.bind ?_ (fun _ => ?_))
   | exact ih0 _ _ _ _ _ _ _ _ _ _ _ _
   | exact LeO.none _
   | refine LeO.ite ?_ ?_
   | refine LeO.bind ?_ (fun _ => ?_)
theorem geometry_At.mono : ∀ a0 a1 a2 a3 a4 a5 a6 a7 a8 a9 a10 k, LeO (geometry_At.f k a0 a1 a2 a3 a4 a5 a6 a7 a8 a9 a10) (geometry_At.f (k + 1) a0 a1 a2 a3 a4 a5 a6 a7 a8 a9 a10) := by
 intro a0 a1 a2 a3 a4 a5 a6 a7 a8 a9 a10 k
 have ih0 := geometry_At.mono_l k
 unfold geometry_At.f
 repeat' first
  | (with_reducible exact ih0 _ _ _ _ _ _ _ _ _ _ _ _)
  | (with_reducible exact LeO.refl _)
  | (with_reducible exact LeO.none _)
  | (with_reducible refine LeO.ite ?_ ?_)
  | (with_reducible refine LeO.bind ?_ (fun _ => ?_))
  | exact ih0 _ _ _ _ _ _ _ _ _ _ _ _
  | exact LeO.none _
  | refine LeO.ite ?_ ?_
  | refine LeO.bind ?_ (fun _ => ?_)
set_option maxHeartbeats 8000000 in
set_option maxRecDepth 100000 in
theorem geometry_At.calls (k : Nat) (A0_0 : Option Addr) (c0_0 : Nat) (l0_0 : List (S28)) (A0_1 : Option Addr) (c0_1 : Nat) (l0_1 : List Int) (A0_2 : Option Addr) (c0_2 : Nat) (l0_2 : List (S47)) (a0_3 : Int) (a0_4 : Int) (a0_5 : Int) (a1_0 : Int) (a1_1 : Int) (a2 : Int) (a3_0 : Int) (a3_1 : Int) (r1 : Int) (r2 : Int) (w : World) (hr0_0 : Kd.C k28 w A0_0 l0_0.length l0_0) (hc0_0 : l0_0.length ≤ c0_0) (hr0_1 : Kd.C (Kd.int .i64) w A0_1 l0_1.length l0_1) (hc0_1 : l0_1.length ≤ c0_1) (hr0_2 : Kd.C k47 w A0_2 l0_2.length l0_2) (hc0_2 : l0_2.length ≤ c0_2) (h : geometry_At.f k l0_0 l0_1 l0_2 a0_3 a0_4 a0_5 a1_0 a1_1 a2 a3_0 a3_1 = some (r1, r2)) :
 Calls Try.prog 23 #[.agg #[.slice A0_0 l0_0.length c0_0, .slice A0_1 l0_1.length c0_1, .slice A0_2 l0_2.length c0_2, .int .i64 a0_3, .int .i64 a0_4, .int .i64 a0_5], .agg #[.int .i64 a1_0, .int .i64 a1_1], .int .i64 a2, .agg #[.int .i64 a3_0, .int .i64 a3_1]] w fun e w' => e = .returned (.tuple #[.int .i64 r1, .int .i64 r2]) ∧ Below w.heap.size w w' := by
 have hu26 := Try.underlying26
 have hu28 := Try.underlying28
 have HR0_0 := Aside0.mk hr0_0
 have HC0_0 := Aside0.mk hc0_0
 clear hr0_0 hc0_0
 have HR0_1 := Aside0.mk hr0_1
 have HC0_1 := Aside0.mk hc0_1
 clear hr0_1 hc0_1
 have HR0_2 := Aside0.mk hr0_2
 have HC0_2 := Aside0.mk hc0_2
 clear hr0_2 hc0_2
 have HB := Aside0.mk (Below.refl w.heap.size w)
 have H : ((geometry_Check.f l0_0 l0_1 l0_2 a0_3 a0_4 a0_5).bind fun t299 => (if t299 = 0 then ((geometry_point.f a1_0 a1_1).bind fun t300 => (if t300 = true then ((geometry_point.f a3_0 a3_1).bind fun t301 => (if t301 = true then ((geometry_isPower.f a2).bind fun t302 => (geometry_At.j0 k a2 (!t302) l0_0 l0_1 l0_2 a0_3 a0_4 a0_5 a1_0 a1_1 a3_0 a3_1)) else (geometry_At.j0 k a2 true l0_0 l0_1 l0_2 a0_3 a0_4 a0_5 a1_0 a1_1 a3_0 a3_1))) else (geometry_At.j0 k a2 true l0_0 l0_1 l0_2 a0_3 a0_4 a0_5 a1_0 a1_1 a3_0 a3_1))) else (some (0, 1)))) = some (r1, r2) := h
 clear h
 replace H := Option.bind_eq_some_iff.mp H
 obtain ⟨t299, A50, H⟩ := H
 replace H : (if t299 = 0 then ((geometry_point.f a1_0 a1_1).bind fun t300 => (if t300 = true then ((geometry_point.f a3_0 a3_1).bind fun t301 => (if t301 = true then ((geometry_isPower.f a2).bind fun t302 => (geometry_At.j0 k a2 (!t302) l0_0 l0_1 l0_2 a0_3 a0_4 a0_5 a1_0 a1_1 a3_0 a3_1)) else (geometry_At.j0 k a2 true l0_0 l0_1 l0_2 a0_3 a0_4 a0_5 a1_0 a1_1 a3_0 a3_1))) else (geometry_At.j0 k a2 true l0_0 l0_1 l0_2 a0_3 a0_4 a0_5 a1_0 a1_1 a3_0 a3_1))) else (some (0, 1))) = some (r1, r2) := H
 have A5 := Aside0.mk A50
 clear A50
 by_cases c6 : t299 = 0
 rotate_left
 ·rw [if_neg c6] at H
  have c6b0 : (t299 == 0) = false := beq_eq_false_iff_ne.mpr c6
  have c6b1 : (t299 != 0) = true := bne_iff_ne.mpr c6
  simp only [Option.some.injEq, Prod.mk.injEq] at H
  obtain ⟨rfl, rfl⟩ := H
  go_enter Try.func23, Try.ntmps23
  go_wp2_with (first | ((with_reducible refine gate_dst (N := 4) rfl ?_); refine box_event ?hg (N := 4) ?hd (cs := #[.slice A0_0 l0_0.length c0_0, .slice A0_1 l0_1.length c0_1, .slice A0_2 l0_2.length c0_2, .int .i64 a0_3, .int .i64 a0_4, .int .i64 a0_5]) (t := 26) ?hr ?_; (case hd => rfl); (case hg => rfl); (case hr => first | (go_simp; done) | (go_simp; rfl)); intro gb296 hg w47 hbox hb; have n0_ := Aside0.mk (below_step (by repeat (first | (with_reducible first | exact HB.out | apply blA | apply blN | apply blD) | exact HB.out)) hb); have n1_ := Aside0.mk (hbox); have n2_ := Aside0.mk ((by rw [hg]; exact (below_size (by repeat (first | (with_reducible first | exact HB.out | apply blA | apply blN | apply blD) | exact HB.out))) : w.heap.size ≤ gb296)); have n3_ := Aside0.mk ((by rw [hg]; exact (below_size (by repeat (first | (with_reducible first | exact HB.out | apply blA | apply blN | apply blD) | exact HB.out))) : w.heap.size ≤ gb296)); clear HB; have HB := n0_; have BK296 := n1_; have GW296 := n2_; have GE296 := n3_; clear n0_ n1_ n2_ n3_; clear hb hbox hg) | ((with_reducible refine gate_dst (N := 5) rfl ?_); refine box_event ?hg (N := 5) ?hd (cs := #[.int .i64 a1_0, .int .i64 a1_1]) (t := 28) ?hr ?_; (case hd => rfl); (case hg => rfl); (case hr => first | (go_simp; done) | (go_simp; rfl)); intro gb297 hg w48 hbox hb; have n0_ := Aside0.mk (bkB (g := gb296) (o := .cells #[.slice A0_0 l0_0.length c0_0, .slice A0_1 l0_1.length c0_1, .slice A0_2 l0_2.length c0_2, .int .i64 a0_3, .int .i64 a0_4, .int .i64 a0_5] 26 (0, 0)) (by (with_reducible repeat (first | refine bkN ?_ _ | refine bkD ?_ | refine bkA ?_ _)); exact BK296.out) hb); have n1_ := Aside0.mk (below_step (by repeat (first | (with_reducible first | exact HB.out | apply blA | apply blN | apply blD | refine blS ?_ GE296.out) | exact HB.out)) hb); have n2_ := Aside0.mk (hbox); have n3_ := Aside0.mk ((by rw [hg]; exact (below_size (by repeat (first | (with_reducible first | exact HB.out | apply blA | apply blN | apply blD | refine blS ?_ GE296.out) | exact HB.out))) : w.heap.size ≤ gb297)); have n4_ := Aside0.mk ((by rw [hg]; exact (below_size (by repeat (first | (with_reducible first | exact HB.out | apply blA | apply blN | apply blD | refine blS ?_ GE296.out) | exact HB.out))) : w.heap.size ≤ gb297)); have n5_ := Aside0.mk ((by rw [hg]; exact Nat.ne_of_lt (blk_lt (g := gb296) (o := .cells #[.slice A0_0 l0_0.length c0_0, .slice A0_1 l0_1.length c0_1, .slice A0_2 l0_2.length c0_2, .int .i64 a0_3, .int .i64 a0_4, .int .i64 a0_5] 26 (0, 0)) (by (with_reducible repeat (first | refine bkN ?_ _ | refine bkD ?_ | refine bkA ?_ _)); exact BK296.out)) : gb296 ≠ gb297)); have n6_ := Aside0.mk ((by rw [hg]; exact Nat.ne_of_gt (blk_lt (g := gb296) (o := .cells #[.slice A0_0 l0_0.length c0_0, .slice A0_1 l0_1.length c0_1, .slice A0_2 l0_2.length c0_2, .int .i64 a0_3, .int .i64 a0_4, .int .i64 a0_5] 26 (0, 0)) (by (with_reducible repeat (first | refine bkN ?_ _ | refine bkD ?_ | refine bkA ?_ _)); exact BK296.out)) : gb297 ≠ gb296)); clear BK296; clear HB; have BK296 := n0_; have HB := n1_; have BK297 := n2_; have GW297 := n3_; have GE297 := n4_; have NB296_297 := n5_; have NB297_296 := n6_; clear n0_ n1_ n2_ n3_ n4_ n5_ n6_; clear hb hbox hg) | ((with_reducible refine gate_dst (N := 7) rfl ?_); refine box_event ?hg (N := 7) ?hd (cs := #[.int .i64 a3_0, .int .i64 a3_1]) (t := 28) ?hr ?_; (case hd => rfl); (case hg => rfl); (case hr => first | (go_simp; done) | (go_simp; rfl)); intro gb298 hg w49 hbox hb; have n0_ := Aside0.mk (bkB (g := gb296) (o := .cells #[.slice A0_0 l0_0.length c0_0, .slice A0_1 l0_1.length c0_1, .slice A0_2 l0_2.length c0_2, .int .i64 a0_3, .int .i64 a0_4, .int .i64 a0_5] 26 (0, 0)) (by (with_reducible repeat (first | refine bkN ?_ _ | refine bkD ?_ | refine bkA ?_ _)); exact BK296.out) hb); have n1_ := Aside0.mk (bkB (g := gb297) (o := .cells #[.int .i64 a1_0, .int .i64 a1_1] 28 (0, 0)) (by (with_reducible repeat (first | refine bkN ?_ _ | refine bkD ?_ | refine bkA ?_ _)); exact BK297.out) hb); have n2_ := Aside0.mk (below_step (by repeat (first | (with_reducible first | exact HB.out | apply blA | apply blN | apply blD | refine blS ?_ GE296.out | refine blS ?_ GE297.out) | exact HB.out)) hb); have n3_ := Aside0.mk (hbox); have n4_ := Aside0.mk ((by rw [hg]; exact (below_size (by repeat (first | (with_reducible first | exact HB.out | apply blA | apply blN | apply blD | refine blS ?_ GE296.out | refine blS ?_ GE297.out) | exact HB.out))) : w.heap.size ≤ gb298)); have n5_ := Aside0.mk ((by rw [hg]; exact (below_size (by repeat (first | (with_reducible first | exact HB.out | apply blA | apply blN | apply blD | refine blS ?_ GE296.out | refine blS ?_ GE297.out) | exact HB.out))) : w.heap.size ≤ gb298)); have n6_ := Aside0.mk ((by rw [hg]; exact Nat.ne_of_lt (blk_lt (g := gb296) (o := .cells #[.slice A0_0 l0_0.length c0_0, .slice A0_1 l0_1.length c0_1, .slice A0_2 l0_2.length c0_2, .int .i64 a0_3, .int .i64 a0_4, .int .i64 a0_5] 26 (0, 0)) (by (with_reducible repeat (first | refine bkN ?_ _ | refine bkD ?_ | refine bkA ?_ _)); exact BK296.out)) : gb296 ≠ gb298)); have n7_ := Aside0.mk ((by rw [hg]; exact Nat.ne_of_gt (blk_lt (g := gb296) (o := .cells #[.slice A0_0 l0_0.length c0_0, .slice A0_1 l0_1.length c0_1, .slice A0_2 l0_2.length c0_2, .int .i64 a0_3, .int .i64 a0_4, .int .i64 a0_5] 26 (0, 0)) (by (with_reducible repeat (first | refine bkN ?_ _ | refine bkD ?_ | refine bkA ?_ _)); exact BK296.out)) : gb298 ≠ gb296)); have n8_ := Aside0.mk ((by rw [hg]; exact Nat.ne_of_lt (blk_lt (g := gb297) (o := .cells #[.int .i64 a1_0, .int .i64 a1_1] 28 (0, 0)) (by (with_reducible repeat (first | refine bkN ?_ _ | refine bkD ?_ | refine bkA ?_ _)); exact BK297.out)) : gb297 ≠ gb298)); have n9_ := Aside0.mk ((by rw [hg]; exact Nat.ne_of_gt (blk_lt (g := gb297) (o := .cells #[.int .i64 a1_0, .int .i64 a1_1] 28 (0, 0)) (by (with_reducible repeat (first | refine bkN ?_ _ | refine bkD ?_ | refine bkA ?_ _)); exact BK297.out)) : gb298 ≠ gb297)); clear BK296; clear BK297; clear HB; have BK296 := n0_; have BK297 := n1_; have HB := n2_; have BK298 := n3_; have GW298 := n4_; have GE298 := n5_; have NB296_298 := n6_; have NB298_296 := n7_; have NB297_298 := n8_; have NB298_297 := n9_; clear n0_ n1_ n2_ n3_ n4_ n5_ n6_ n7_ n8_ n9_; clear hb hbox hg; have hnb50 := NB296_297.out; have hnc50 := NB297_296.out; have hnb51 := NB296_298.out; have hnc51 := NB298_296.out; have hcz52_0 : w49.cell? ⟨gb296, 0, none⟩ = some (.slice A0_0 l0_0.length c0_0) := (bkC BK296.out 0).trans rfl; have hcz52_1 : w49.cell? ⟨gb296, 1, none⟩ = some (.slice A0_1 l0_1.length c0_1) := (bkC BK296.out 1).trans rfl; have hcz52_2 : w49.cell? ⟨gb296, 2, none⟩ = some (.slice A0_2 l0_2.length c0_2) := (bkC BK296.out 2).trans rfl; have hcz52_3 : w49.cell? ⟨gb296, 3, none⟩ = some (.int .i64 a0_3) := (bkC BK296.out 3).trans rfl; have hcz52_4 : w49.cell? ⟨gb296, 4, none⟩ = some (.int .i64 a0_4) := (bkC BK296.out 4).trans rfl; have hcz52_5 : w49.cell? ⟨gb296, 5, none⟩ = some (.int .i64 a0_5) := (bkC BK296.out 5).trans rfl; have hfz52_0 := bkF BK296.out 0; have hfz52_1 := bkF BK296.out 1; have hfz52_2 := bkF BK296.out 2; have hfz52_3 := bkF BK296.out 3; have hfz52_4 := bkF BK296.out 4; have hfz52_5 := bkF BK296.out 5) | ((with_reducible refine gate_callee (f := 19) rfl ?_); refine goesL_ (some 12) rfl rfl Try.func19 (by kernel_rfl) rfl #[.agg #[.slice A0_0 l0_0.length c0_0, .slice A0_1 l0_1.length c0_1, .slice A0_2 l0_2.length c0_2, .int .i64 a0_3, .int .i64 a0_4, .int .i64 a0_5]] rfl (by (try simp only [List.map_toArray, List.map_cons, List.map_nil]); first | done | rfl | (simp only [List.length_drop, List.length_take]; rfl)) ?_; (with_reducible refine (geometry_Check.calls _ _ l0_0 _ _ l0_1 _ _ l0_2 a0_3 a0_4 a0_5 t299 _ ?side1 ?side2 ?side3 ?side4 ?side5 ?side6 A5.out).mono ?_); (case side1 => repeat (first | exact (Kd.C_below HR0_0.out HB.out) | (with_reducible refine Kd.C_alloc ?_ _) | (with_reducible refine Kd.C_drewN ?_ _) | (with_reducible refine Kd.C_drew ?_))); (case side2 => exact HC0_0.out); (case side3 => repeat (first | exact (Kd.C_below HR0_1.out HB.out) | (with_reducible refine Kd.C_alloc ?_ _) | (with_reducible refine Kd.C_drewN ?_ _) | (with_reducible refine Kd.C_drew ?_))); (case side4 => exact HC0_1.out); (case side5 => repeat (first | exact (Kd.C_below HR0_2.out HB.out) | (with_reducible refine Kd.C_alloc ?_ _) | (with_reducible refine Kd.C_drewN ?_ _) | (with_reducible refine Kd.C_drew ?_))); (case side6 => exact HC0_2.out); rintro e w53 ⟨rfl, hb⟩; refine ⟨_, rfl, ?_⟩; have n0_ := Aside0.mk (bkB (g := gb296) (o := .cells #[.slice A0_0 l0_0.length c0_0, .slice A0_1 l0_1.length c0_1, .slice A0_2 l0_2.length c0_2, .int .i64 a0_3, .int .i64 a0_4, .int .i64 a0_5] 26 (0, 0)) (by (with_reducible repeat (first | refine bkN ?_ _ | refine bkD ?_ | refine bkA ?_ _)); exact BK296.out) hb); have n1_ := Aside0.mk (bkB (g := gb297) (o := .cells #[.int .i64 a1_0, .int .i64 a1_1] 28 (0, 0)) (by (with_reducible repeat (first | refine bkN ?_ _ | refine bkD ?_ | refine bkA ?_ _)); exact BK297.out) hb); have n2_ := Aside0.mk (bkB (g := gb298) (o := .cells #[.int .i64 a3_0, .int .i64 a3_1] 28 (0, 0)) (by (with_reducible repeat (first | refine bkN ?_ _ | refine bkD ?_ | refine bkA ?_ _)); exact BK298.out) hb); have n3_ := Aside0.mk (below_step (by repeat (first | (with_reducible first | exact HB.out | apply blA | apply blN | apply blD | refine blS ?_ GE296.out | refine blS ?_ GE297.out | refine blS ?_ GE298.out) | exact HB.out)) hb); clear BK296; clear BK297; clear BK298; clear HB; have BK296 := n0_; have BK297 := n1_; have BK298 := n2_; have HB := n3_; clear n0_ n1_ n2_ n3_; (try clear hb); (try clear hb2); (try clear hk); (try clear hi)))
  go_ret2
  exact ⟨by first | rfl | (simp [errW_none, errW_some] <;> rfl) | (simp [*, errW_none, errW_some] <;> rfl), by repeat (first | (with_reducible first | exact HB.out | apply blA | apply blN | apply blD | refine blS ?_ GE296.out | refine blS ?_ GE297.out | refine blS ?_ GE298.out) | exact HB.out)⟩

 rw [if_pos c6] at H
 have c6b0 : (t299 == 0) = true := beq_iff_eq.mpr c6
 have c6b1 : (t299 != 0) = false := bne_eq_false_iff_eq.mpr c6
 clear c6
 have HC7 := Aside0.mk H
 clear H
 go_enter Try.func23, Try.ntmps23
 go_upto_region 3 with (first | ((with_reducible refine gate_dst (N := 4) rfl ?_); refine box_event ?hg (N := 4) ?hd (cs := #[.slice A0_0 l0_0.length c0_0, .slice A0_1 l0_1.length c0_1, .slice A0_2 l0_2.length c0_2, .int .i64 a0_3, .int .i64 a0_4, .int .i64 a0_5]) (t := 26) ?hr ?_; (case hd => rfl); (case hg => rfl); (case hr => first | (go_simp; done) | (go_simp; rfl)); intro gb296 hg w8 hbox hb; have n0_ := Aside0.mk (below_step (by repeat (first | (with_reducible first | exact HB.out | apply blA | apply blN | apply blD) | exact HB.out)) hb); have n1_ := Aside0.mk (hbox); have n2_ := Aside0.mk ((by rw [hg]; exact (below_size (by repeat (first | (with_reducible first | exact HB.out | apply blA | apply blN | apply blD) | exact HB.out))) : w.heap.size ≤ gb296)); have n3_ := Aside0.mk ((by rw [hg]; exact (below_size (by repeat (first | (with_reducible first | exact HB.out | apply blA | apply blN | apply blD) | exact HB.out))) : w.heap.size ≤ gb296)); clear HB; have HB := n0_; have BK296 := n1_; have GW296 := n2_; have GE296 := n3_; clear n0_ n1_ n2_ n3_; clear hb hbox hg) | ((with_reducible refine gate_dst (N := 5) rfl ?_); refine box_event ?hg (N := 5) ?hd (cs := #[.int .i64 a1_0, .int .i64 a1_1]) (t := 28) ?hr ?_; (case hd => rfl); (case hg => rfl); (case hr => first | (go_simp; done) | (go_simp; rfl)); intro gb297 hg w9 hbox hb; have n0_ := Aside0.mk (bkB (g := gb296) (o := .cells #[.slice A0_0 l0_0.length c0_0, .slice A0_1 l0_1.length c0_1, .slice A0_2 l0_2.length c0_2, .int .i64 a0_3, .int .i64 a0_4, .int .i64 a0_5] 26 (0, 0)) (by (with_reducible repeat (first | refine bkN ?_ _ | refine bkD ?_ | refine bkA ?_ _)); exact BK296.out) hb); have n1_ := Aside0.mk (below_step (by repeat (first | (with_reducible first | exact HB.out | apply blA | apply blN | apply blD | refine blS ?_ GE296.out) | exact HB.out)) hb); have n2_ := Aside0.mk (hbox); have n3_ := Aside0.mk ((by rw [hg]; exact (below_size (by repeat (first | (with_reducible first | exact HB.out | apply blA | apply blN | apply blD | refine blS ?_ GE296.out) | exact HB.out))) : w.heap.size ≤ gb297)); have n4_ := Aside0.mk ((by rw [hg]; exact (below_size (by repeat (first | (with_reducible first | exact HB.out | apply blA | apply blN | apply blD | refine blS ?_ GE296.out) | exact HB.out))) : w.heap.size ≤ gb297)); have n5_ := Aside0.mk ((by rw [hg]; exact Nat.ne_of_lt (blk_lt (g := gb296) (o := .cells #[.slice A0_0 l0_0.length c0_0, .slice A0_1 l0_1.length c0_1, .slice A0_2 l0_2.length c0_2, .int .i64 a0_3, .int .i64 a0_4, .int .i64 a0_5] 26 (0, 0)) (by (with_reducible repeat (first | refine bkN ?_ _ | refine bkD ?_ | refine bkA ?_ _)); exact BK296.out)) : gb296 ≠ gb297)); have n6_ := Aside0.mk ((by rw [hg]; exact Nat.ne_of_gt (blk_lt (g := gb296) (o := .cells #[.slice A0_0 l0_0.length c0_0, .slice A0_1 l0_1.length c0_1, .slice A0_2 l0_2.length c0_2, .int .i64 a0_3, .int .i64 a0_4, .int .i64 a0_5] 26 (0, 0)) (by (with_reducible repeat (first | refine bkN ?_ _ | refine bkD ?_ | refine bkA ?_ _)); exact BK296.out)) : gb297 ≠ gb296)); clear BK296; clear HB; have BK296 := n0_; have HB := n1_; have BK297 := n2_; have GW297 := n3_; have GE297 := n4_; have NB296_297 := n5_; have NB297_296 := n6_; clear n0_ n1_ n2_ n3_ n4_ n5_ n6_; clear hb hbox hg) | ((with_reducible refine gate_dst (N := 7) rfl ?_); refine box_event ?hg (N := 7) ?hd (cs := #[.int .i64 a3_0, .int .i64 a3_1]) (t := 28) ?hr ?_; (case hd => rfl); (case hg => rfl); (case hr => first | (go_simp; done) | (go_simp; rfl)); intro gb298 hg w10 hbox hb; have n0_ := Aside0.mk (bkB (g := gb296) (o := .cells #[.slice A0_0 l0_0.length c0_0, .slice A0_1 l0_1.length c0_1, .slice A0_2 l0_2.length c0_2, .int .i64 a0_3, .int .i64 a0_4, .int .i64 a0_5] 26 (0, 0)) (by (with_reducible repeat (first | refine bkN ?_ _ | refine bkD ?_ | refine bkA ?_ _)); exact BK296.out) hb); have n1_ := Aside0.mk (bkB (g := gb297) (o := .cells #[.int .i64 a1_0, .int .i64 a1_1] 28 (0, 0)) (by (with_reducible repeat (first | refine bkN ?_ _ | refine bkD ?_ | refine bkA ?_ _)); exact BK297.out) hb); have n2_ := Aside0.mk (below_step (by repeat (first | (with_reducible first | exact HB.out | apply blA | apply blN | apply blD | refine blS ?_ GE296.out | refine blS ?_ GE297.out) | exact HB.out)) hb); have n3_ := Aside0.mk (hbox); have n4_ := Aside0.mk ((by rw [hg]; exact (below_size (by repeat (first | (with_reducible first | exact HB.out | apply blA | apply blN | apply blD | refine blS ?_ GE296.out | refine blS ?_ GE297.out) | exact HB.out))) : w.heap.size ≤ gb298)); have n5_ := Aside0.mk ((by rw [hg]; exact (below_size (by repeat (first | (with_reducible first | exact HB.out | apply blA | apply blN | apply blD | refine blS ?_ GE296.out | refine blS ?_ GE297.out) | exact HB.out))) : w.heap.size ≤ gb298)); have n6_ := Aside0.mk ((by rw [hg]; exact Nat.ne_of_lt (blk_lt (g := gb296) (o := .cells #[.slice A0_0 l0_0.length c0_0, .slice A0_1 l0_1.length c0_1, .slice A0_2 l0_2.length c0_2, .int .i64 a0_3, .int .i64 a0_4, .int .i64 a0_5] 26 (0, 0)) (by (with_reducible repeat (first | refine bkN ?_ _ | refine bkD ?_ | refine bkA ?_ _)); exact BK296.out)) : gb296 ≠ gb298)); have n7_ := Aside0.mk ((by rw [hg]; exact Nat.ne_of_gt (blk_lt (g := gb296) (o := .cells #[.slice A0_0 l0_0.length c0_0, .slice A0_1 l0_1.length c0_1, .slice A0_2 l0_2.length c0_2, .int .i64 a0_3, .int .i64 a0_4, .int .i64 a0_5] 26 (0, 0)) (by (with_reducible repeat (first | refine bkN ?_ _ | refine bkD ?_ | refine bkA ?_ _)); exact BK296.out)) : gb298 ≠ gb296)); have n8_ := Aside0.mk ((by rw [hg]; exact Nat.ne_of_lt (blk_lt (g := gb297) (o := .cells #[.int .i64 a1_0, .int .i64 a1_1] 28 (0, 0)) (by (with_reducible repeat (first | refine bkN ?_ _ | refine bkD ?_ | refine bkA ?_ _)); exact BK297.out)) : gb297 ≠ gb298)); have n9_ := Aside0.mk ((by rw [hg]; exact Nat.ne_of_gt (blk_lt (g := gb297) (o := .cells #[.int .i64 a1_0, .int .i64 a1_1] 28 (0, 0)) (by (with_reducible repeat (first | refine bkN ?_ _ | refine bkD ?_ | refine bkA ?_ _)); exact BK297.out)) : gb298 ≠ gb297)); clear BK296; clear BK297; clear HB; have BK296 := n0_; have BK297 := n1_; have HB := n2_; have BK298 := n3_; have GW298 := n4_; have GE298 := n5_; have NB296_298 := n6_; have NB298_296 := n7_; have NB297_298 := n8_; have NB298_297 := n9_; clear n0_ n1_ n2_ n3_ n4_ n5_ n6_ n7_ n8_ n9_; clear hb hbox hg; have hnb11 := NB296_297.out; have hnc11 := NB297_296.out; have hnb12 := NB296_298.out; have hnc12 := NB298_296.out; have hcz13_0 : w10.cell? ⟨gb296, 0, none⟩ = some (.slice A0_0 l0_0.length c0_0) := (bkC BK296.out 0).trans rfl; have hcz13_1 : w10.cell? ⟨gb296, 1, none⟩ = some (.slice A0_1 l0_1.length c0_1) := (bkC BK296.out 1).trans rfl; have hcz13_2 : w10.cell? ⟨gb296, 2, none⟩ = some (.slice A0_2 l0_2.length c0_2) := (bkC BK296.out 2).trans rfl; have hcz13_3 : w10.cell? ⟨gb296, 3, none⟩ = some (.int .i64 a0_3) := (bkC BK296.out 3).trans rfl; have hcz13_4 : w10.cell? ⟨gb296, 4, none⟩ = some (.int .i64 a0_4) := (bkC BK296.out 4).trans rfl; have hcz13_5 : w10.cell? ⟨gb296, 5, none⟩ = some (.int .i64 a0_5) := (bkC BK296.out 5).trans rfl; have hfz13_0 := bkF BK296.out 0; have hfz13_1 := bkF BK296.out 1; have hfz13_2 := bkF BK296.out 2; have hfz13_3 := bkF BK296.out 3; have hfz13_4 := bkF BK296.out 4; have hfz13_5 := bkF BK296.out 5) | ((with_reducible refine gate_callee (f := 19) rfl ?_); refine goesL_ (some 12) rfl rfl Try.func19 (by kernel_rfl) rfl #[.agg #[.slice A0_0 l0_0.length c0_0, .slice A0_1 l0_1.length c0_1, .slice A0_2 l0_2.length c0_2, .int .i64 a0_3, .int .i64 a0_4, .int .i64 a0_5]] rfl (by (try simp only [List.map_toArray, List.map_cons, List.map_nil]); first | done | rfl | (simp only [List.length_drop, List.length_take]; rfl)) ?_; (with_reducible refine (geometry_Check.calls _ _ l0_0 _ _ l0_1 _ _ l0_2 a0_3 a0_4 a0_5 t299 _ ?side1 ?side2 ?side3 ?side4 ?side5 ?side6 A5.out).mono ?_); (case side1 => repeat (first | exact (Kd.C_below HR0_0.out HB.out) | (with_reducible refine Kd.C_alloc ?_ _) | (with_reducible refine Kd.C_drewN ?_ _) | (with_reducible refine Kd.C_drew ?_))); (case side2 => exact HC0_0.out); (case side3 => repeat (first | exact (Kd.C_below HR0_1.out HB.out) | (with_reducible refine Kd.C_alloc ?_ _) | (with_reducible refine Kd.C_drewN ?_ _) | (with_reducible refine Kd.C_drew ?_))); (case side4 => exact HC0_1.out); (case side5 => repeat (first | exact (Kd.C_below HR0_2.out HB.out) | (with_reducible refine Kd.C_alloc ?_ _) | (with_reducible refine Kd.C_drewN ?_ _) | (with_reducible refine Kd.C_drew ?_))); (case side6 => exact HC0_2.out); rintro e w14 ⟨rfl, hb⟩; refine ⟨_, rfl, ?_⟩; have n0_ := Aside0.mk (bkB (g := gb296) (o := .cells #[.slice A0_0 l0_0.length c0_0, .slice A0_1 l0_1.length c0_1, .slice A0_2 l0_2.length c0_2, .int .i64 a0_3, .int .i64 a0_4, .int .i64 a0_5] 26 (0, 0)) (by (with_reducible repeat (first | refine bkN ?_ _ | refine bkD ?_ | refine bkA ?_ _)); exact BK296.out) hb); have n1_ := Aside0.mk (bkB (g := gb297) (o := .cells #[.int .i64 a1_0, .int .i64 a1_1] 28 (0, 0)) (by (with_reducible repeat (first | refine bkN ?_ _ | refine bkD ?_ | refine bkA ?_ _)); exact BK297.out) hb); have n2_ := Aside0.mk (bkB (g := gb298) (o := .cells #[.int .i64 a3_0, .int .i64 a3_1] 28 (0, 0)) (by (with_reducible repeat (first | refine bkN ?_ _ | refine bkD ?_ | refine bkA ?_ _)); exact BK298.out) hb); have n3_ := Aside0.mk (below_step (by repeat (first | (with_reducible first | exact HB.out | apply blA | apply blN | apply blD | refine blS ?_ GE296.out | refine blS ?_ GE297.out | refine blS ?_ GE298.out) | exact HB.out)) hb); clear BK296; clear BK297; clear BK298; clear HB; have BK296 := n0_; have BK297 := n1_; have BK298 := n2_; have HB := n3_; clear n0_ n1_ n2_ n3_; (try clear hb); (try clear hb2); (try clear hk); (try clear hi)))
 (try simp only [Act.put, List.setIfInBounds_toArray, List.set_cons_zero, List.set_cons_succ])
 go_cut [14] (fun v14 wc => ∃ (kq : Nat) (x14_6 : Bool), v14 = .bool x14_6 ∧ Aside0 (geometry_At.j0 kq a2 x14_6 l0_0 l0_1 l0_2 a0_3 a0_4 a0_5 a1_0 a1_1 a3_0 a3_1 = some (r1, r2)) ∧ Aside0 (kq ≤ k) ∧ Aside0 (wc.heap[gb296]? = some (.cells #[(.slice A0_0 l0_0.length c0_0), (.slice A0_1 l0_1.length c0_1), (.slice A0_2 l0_2.length c0_2), .int .i64 a0_3, .int .i64 a0_4, .int .i64 a0_5] 26 (0, 0))) ∧ Aside0 (wc.heap[gb297]? = some (.cells #[.int .i64 a1_0, .int .i64 a1_1] 28 (0, 0))) ∧ Aside0 (wc.heap[gb298]? = some (.cells #[.int .i64 a3_0, .int .i64 a3_1] 28 (0, 0))) ∧ Aside0 (Below w.heap.size w wc))
 case first =>
  have H := HC7.out
  clear HC7
  replace H := Option.bind_eq_some_iff.mp H
  obtain ⟨t300, A150, H⟩ := H
  replace H : (if t300 = true then ((geometry_point.f a3_0 a3_1).bind fun t301 => (if t301 = true then ((geometry_isPower.f a2).bind fun t302 => (geometry_At.j0 k a2 (!t302) l0_0 l0_1 l0_2 a0_3 a0_4 a0_5 a1_0 a1_1 a3_0 a3_1)) else (geometry_At.j0 k a2 true l0_0 l0_1 l0_2 a0_3 a0_4 a0_5 a1_0 a1_1 a3_0 a3_1))) else (geometry_At.j0 k a2 true l0_0 l0_1 l0_2 a0_3 a0_4 a0_5 a1_0 a1_1 a3_0 a3_1)) = some (r1, r2) := H
  have A15 := Aside0.mk A150
  clear A150
  by_cases c16 : t300 = true
  rotate_left
  ·replace c16 := Bool.eq_false_iff.mpr c16
   subst c16
   have H1 : (geometry_At.j0 k a2 true l0_0 l0_1 l0_2 a0_3 a0_4 a0_5 a1_0 a1_1 a3_0 a3_1) = some (r1, r2) := by rw [if_neg (show ¬ (false = true) by decide)] at H; exact H
   clear H
   have H := H1
   clear H1
   have H' := Aside0.mk H
   clear H
   have hnb34 := NB297_296.out
   have hnc34 := NB296_297.out
   have hnb35 := NB297_298.out
   have hnc35 := NB298_297.out
   have hcz36_0 : w14.cell? ⟨gb297, 0, none⟩ = some (.int .i64 a1_0) := (bkC BK297.out 0).trans rfl
   have hcz36_1 : w14.cell? ⟨gb297, 1, none⟩ = some (.int .i64 a1_1) := (bkC BK297.out 1).trans rfl
   have hfz36_0 := bkF BK297.out 0
   have hfz36_1 := bkF BK297.out 1
   go_wp2_with (first | ((with_reducible refine gate_callee (f := 38) rfl ?_); refine goesL_ (some 16) rfl rfl Try.func38 (by kernel_rfl) rfl #[.agg #[.int .i64 a1_0, .int .i64 a1_1]] rfl (by (try simp only [List.map_toArray, List.map_cons, List.map_nil]); first | done | rfl | (simp only [List.length_drop, List.length_take]; rfl)) ?_; (with_reducible refine (geometry_point.calls a1_0 a1_1 false _ A15.out).mono ?_); rintro e w37 ⟨rfl, hb⟩; refine ⟨_, rfl, ?_⟩; have n0_ := Aside0.mk (bkB (g := gb296) (o := .cells #[.slice A0_0 l0_0.length c0_0, .slice A0_1 l0_1.length c0_1, .slice A0_2 l0_2.length c0_2, .int .i64 a0_3, .int .i64 a0_4, .int .i64 a0_5] 26 (0, 0)) (by (with_reducible repeat (first | refine bkN ?_ _ | refine bkD ?_ | refine bkA ?_ _)); exact BK296.out) hb); have n1_ := Aside0.mk (bkB (g := gb297) (o := .cells #[.int .i64 a1_0, .int .i64 a1_1] 28 (0, 0)) (by (with_reducible repeat (first | refine bkN ?_ _ | refine bkD ?_ | refine bkA ?_ _)); exact BK297.out) hb); have n2_ := Aside0.mk (bkB (g := gb298) (o := .cells #[.int .i64 a3_0, .int .i64 a3_1] 28 (0, 0)) (by (with_reducible repeat (first | refine bkN ?_ _ | refine bkD ?_ | refine bkA ?_ _)); exact BK298.out) hb); have n3_ := Aside0.mk (below_step (by repeat (first | (with_reducible first | exact HB.out | apply blA | apply blN | apply blD | refine blS ?_ GE296.out | refine blS ?_ GE297.out | refine blS ?_ GE298.out) | exact HB.out)) hb); clear BK296; clear BK297; clear BK298; clear HB; have BK296 := n0_; have BK297 := n1_; have BK298 := n2_; have HB := n3_; clear n0_ n1_ n2_ n3_; (try clear hb); (try clear hb2); (try clear hk); (try clear hi)))
   go_meet
   case rel => exact ⟨_, (true), (by first | rfl | (simp; done) | (simp [*]; done)), H', ⟨by first | omega | exact Nat.le_refl _⟩, ⟨by (with_reducible repeat (first | refine bkN ?_ _ | refine bkD ?_ | refine bkA ?_ _)); exact BK296.out⟩, ⟨by (with_reducible repeat (first | refine bkN ?_ _ | refine bkD ?_ | refine bkA ?_ _)); exact BK297.out⟩, ⟨by (with_reducible repeat (first | refine bkN ?_ _ | refine bkD ?_ | refine bkA ?_ _)); exact BK298.out⟩, ⟨by repeat (first | (with_reducible first | exact HB.out | apply blA | apply blN | apply blD | refine blS ?_ GE296.out | refine blS ?_ GE297.out | refine blS ?_ GE298.out) | exact HB.out)⟩⟩
  subst c16
  have H1 : ((geometry_point.f a3_0 a3_1).bind fun t301 => (if t301 = true then ((geometry_isPower.f a2).bind fun t302 => (geometry_At.j0 k a2 (!t302) l0_0 l0_1 l0_2 a0_3 a0_4 a0_5 a1_0 a1_1 a3_0 a3_1)) else (geometry_At.j0 k a2 true l0_0 l0_1 l0_2 a0_3 a0_4 a0_5 a1_0 a1_1 a3_0 a3_1))) = some (r1, r2) := by rw [if_pos rfl] at H; exact H
  clear H
  have H := H1
  clear H1
  replace H := Option.bind_eq_some_iff.mp H
  obtain ⟨t301, A170, H⟩ := H
  replace H : (if t301 = true then ((geometry_isPower.f a2).bind fun t302 => (geometry_At.j0 k a2 (!t302) l0_0 l0_1 l0_2 a0_3 a0_4 a0_5 a1_0 a1_1 a3_0 a3_1)) else (geometry_At.j0 k a2 true l0_0 l0_1 l0_2 a0_3 a0_4 a0_5 a1_0 a1_1 a3_0 a3_1)) = some (r1, r2) := H
  have A17 := Aside0.mk A170
  clear A170
  by_cases c18 : t301 = true
  rotate_left
  ·replace c18 := Bool.eq_false_iff.mpr c18
   subst c18
   have H1 : (geometry_At.j0 k a2 true l0_0 l0_1 l0_2 a0_3 a0_4 a0_5 a1_0 a1_1 a3_0 a3_1) = some (r1, r2) := by rw [if_neg (show ¬ (false = true) by decide)] at H; exact H
   clear H
   have H := H1
   clear H1
   have H' := Aside0.mk H
   clear H
   have hnb27 := NB297_296.out
   have hnc27 := NB296_297.out
   have hnb28 := NB297_298.out
   have hnc28 := NB298_297.out
   have hcz29_0 : w14.cell? ⟨gb297, 0, none⟩ = some (.int .i64 a1_0) := (bkC BK297.out 0).trans rfl
   have hcz29_1 : w14.cell? ⟨gb297, 1, none⟩ = some (.int .i64 a1_1) := (bkC BK297.out 1).trans rfl
   have hfz29_0 := bkF BK297.out 0
   have hfz29_1 := bkF BK297.out 1
   go_wp2_with (first | ((with_reducible refine gate_callee (f := 38) rfl ?_); refine goesL_ (some 16) rfl rfl Try.func38 (by kernel_rfl) rfl #[.agg #[.int .i64 a1_0, .int .i64 a1_1]] rfl (by (try simp only [List.map_toArray, List.map_cons, List.map_nil]); first | done | rfl | (simp only [List.length_drop, List.length_take]; rfl)) ?_; (with_reducible refine (geometry_point.calls a1_0 a1_1 true _ A15.out).mono ?_); rintro e w30 ⟨rfl, hb⟩; refine ⟨_, rfl, ?_⟩; have n0_ := Aside0.mk (bkB (g := gb296) (o := .cells #[.slice A0_0 l0_0.length c0_0, .slice A0_1 l0_1.length c0_1, .slice A0_2 l0_2.length c0_2, .int .i64 a0_3, .int .i64 a0_4, .int .i64 a0_5] 26 (0, 0)) (by (with_reducible repeat (first | refine bkN ?_ _ | refine bkD ?_ | refine bkA ?_ _)); exact BK296.out) hb); have n1_ := Aside0.mk (bkB (g := gb297) (o := .cells #[.int .i64 a1_0, .int .i64 a1_1] 28 (0, 0)) (by (with_reducible repeat (first | refine bkN ?_ _ | refine bkD ?_ | refine bkA ?_ _)); exact BK297.out) hb); have n2_ := Aside0.mk (bkB (g := gb298) (o := .cells #[.int .i64 a3_0, .int .i64 a3_1] 28 (0, 0)) (by (with_reducible repeat (first | refine bkN ?_ _ | refine bkD ?_ | refine bkA ?_ _)); exact BK298.out) hb); have n3_ := Aside0.mk (below_step (by repeat (first | (with_reducible first | exact HB.out | apply blA | apply blN | apply blD | refine blS ?_ GE296.out | refine blS ?_ GE297.out | refine blS ?_ GE298.out) | exact HB.out)) hb); clear BK296; clear BK297; clear BK298; clear HB; have BK296 := n0_; have BK297 := n1_; have BK298 := n2_; have HB := n3_; clear n0_ n1_ n2_ n3_; (try clear hb); (try clear hb2); (try clear hk); (try clear hi); have hnb31 := NB298_296.out; have hnc31 := NB296_298.out; have hcz32_0 : w30.cell? ⟨gb298, 0, none⟩ = some (.int .i64 a3_0) := (bkC BK298.out 0).trans rfl; have hcz32_1 : w30.cell? ⟨gb298, 1, none⟩ = some (.int .i64 a3_1) := (bkC BK298.out 1).trans rfl; have hfz32_0 := bkF BK298.out 0; have hfz32_1 := bkF BK298.out 1) | (go_at_call 38; (with_reducible refine (geometry_point.calls a3_0 a3_1 false _ A17.out).mono ?_); rintro e w33 ⟨rfl, hb⟩; have n0_ := Aside0.mk (bkB (g := gb296) (o := .cells #[.slice A0_0 l0_0.length c0_0, .slice A0_1 l0_1.length c0_1, .slice A0_2 l0_2.length c0_2, .int .i64 a0_3, .int .i64 a0_4, .int .i64 a0_5] 26 (0, 0)) (by (with_reducible repeat (first | refine bkN ?_ _ | refine bkD ?_ | refine bkA ?_ _)); exact BK296.out) hb); have n1_ := Aside0.mk (bkB (g := gb297) (o := .cells #[.int .i64 a1_0, .int .i64 a1_1] 28 (0, 0)) (by (with_reducible repeat (first | refine bkN ?_ _ | refine bkD ?_ | refine bkA ?_ _)); exact BK297.out) hb); have n2_ := Aside0.mk (bkB (g := gb298) (o := .cells #[.int .i64 a3_0, .int .i64 a3_1] 28 (0, 0)) (by (with_reducible repeat (first | refine bkN ?_ _ | refine bkD ?_ | refine bkA ?_ _)); exact BK298.out) hb); have n3_ := Aside0.mk (below_step (by repeat (first | (with_reducible first | exact HB.out | apply blA | apply blN | apply blD | refine blS ?_ GE296.out | refine blS ?_ GE297.out | refine blS ?_ GE298.out) | exact HB.out)) hb); clear BK296; clear BK297; clear BK298; clear HB; have BK296 := n0_; have BK297 := n1_; have BK298 := n2_; have HB := n3_; clear n0_ n1_ n2_ n3_; (try clear hb); (try clear hb2); (try clear hk); (try clear hi)))
   go_meet
   case rel => exact ⟨_, (true), (by first | rfl | (simp; done) | (simp [*]; done)), H', ⟨by first | omega | exact Nat.le_refl _⟩, ⟨by (with_reducible repeat (first | refine bkN ?_ _ | refine bkD ?_ | refine bkA ?_ _)); exact BK296.out⟩, ⟨by (with_reducible repeat (first | refine bkN ?_ _ | refine bkD ?_ | refine bkA ?_ _)); exact BK297.out⟩, ⟨by (with_reducible repeat (first | refine bkN ?_ _ | refine bkD ?_ | refine bkA ?_ _)); exact BK298.out⟩, ⟨by repeat (first | (with_reducible first | exact HB.out | apply blA | apply blN | apply blD | refine blS ?_ GE296.out | refine blS ?_ GE297.out | refine blS ?_ GE298.out) | exact HB.out)⟩⟩
  subst c18
  have H1 : ((geometry_isPower.f a2).bind fun t302 => (geometry_At.j0 k a2 (!t302) l0_0 l0_1 l0_2 a0_3 a0_4 a0_5 a1_0 a1_1 a3_0 a3_1)) = some (r1, r2) := by rw [if_pos rfl] at H; exact H
  clear H
  have H := H1
  clear H1
  replace H := Option.bind_eq_some_iff.mp H
  obtain ⟨t302, A190, H⟩ := H
  replace H : (geometry_At.j0 k a2 (!t302) l0_0 l0_1 l0_2 a0_3 a0_4 a0_5 a1_0 a1_1 a3_0 a3_1) = some (r1, r2) := H
  have A19 := Aside0.mk A190
  clear A190
  have H' := Aside0.mk H
  clear H
  have hnb20 := NB297_296.out
  have hnc20 := NB296_297.out
  have hnb21 := NB297_298.out
  have hnc21 := NB298_297.out
  have hcz22_0 : w14.cell? ⟨gb297, 0, none⟩ = some (.int .i64 a1_0) := (bkC BK297.out 0).trans rfl
  have hcz22_1 : w14.cell? ⟨gb297, 1, none⟩ = some (.int .i64 a1_1) := (bkC BK297.out 1).trans rfl
  have hfz22_0 := bkF BK297.out 0
  have hfz22_1 := bkF BK297.out 1
  go_wp2_with (first | ((with_reducible refine gate_callee (f := 38) rfl ?_); refine goesL_ (some 16) rfl rfl Try.func38 (by kernel_rfl) rfl #[.agg #[.int .i64 a1_0, .int .i64 a1_1]] rfl (by (try simp only [List.map_toArray, List.map_cons, List.map_nil]); first | done | rfl | (simp only [List.length_drop, List.length_take]; rfl)) ?_; (with_reducible refine (geometry_point.calls a1_0 a1_1 true _ A15.out).mono ?_); rintro e w23 ⟨rfl, hb⟩; refine ⟨_, rfl, ?_⟩; have n0_ := Aside0.mk (bkB (g := gb296) (o := .cells #[.slice A0_0 l0_0.length c0_0, .slice A0_1 l0_1.length c0_1, .slice A0_2 l0_2.length c0_2, .int .i64 a0_3, .int .i64 a0_4, .int .i64 a0_5] 26 (0, 0)) (by (with_reducible repeat (first | refine bkN ?_ _ | refine bkD ?_ | refine bkA ?_ _)); exact BK296.out) hb); have n1_ := Aside0.mk (bkB (g := gb297) (o := .cells #[.int .i64 a1_0, .int .i64 a1_1] 28 (0, 0)) (by (with_reducible repeat (first | refine bkN ?_ _ | refine bkD ?_ | refine bkA ?_ _)); exact BK297.out) hb); have n2_ := Aside0.mk (bkB (g := gb298) (o := .cells #[.int .i64 a3_0, .int .i64 a3_1] 28 (0, 0)) (by (with_reducible repeat (first | refine bkN ?_ _ | refine bkD ?_ | refine bkA ?_ _)); exact BK298.out) hb); have n3_ := Aside0.mk (below_step (by repeat (first | (with_reducible first | exact HB.out | apply blA | apply blN | apply blD | refine blS ?_ GE296.out | refine blS ?_ GE297.out | refine blS ?_ GE298.out) | exact HB.out)) hb); clear BK296; clear BK297; clear BK298; clear HB; have BK296 := n0_; have BK297 := n1_; have BK298 := n2_; have HB := n3_; clear n0_ n1_ n2_ n3_; (try clear hb); (try clear hb2); (try clear hk); (try clear hi); have hnb24 := NB298_296.out; have hnc24 := NB296_298.out; have hcz25_0 : w23.cell? ⟨gb298, 0, none⟩ = some (.int .i64 a3_0) := (bkC BK298.out 0).trans rfl; have hcz25_1 : w23.cell? ⟨gb298, 1, none⟩ = some (.int .i64 a3_1) := (bkC BK298.out 1).trans rfl; have hfz25_0 := bkF BK298.out 0; have hfz25_1 := bkF BK298.out 1) | (go_at_call 38; (with_reducible refine (geometry_point.calls a3_0 a3_1 true _ A17.out).mono ?_); rintro e w26 ⟨rfl, hb⟩; have n0_ := Aside0.mk (bkB (g := gb296) (o := .cells #[.slice A0_0 l0_0.length c0_0, .slice A0_1 l0_1.length c0_1, .slice A0_2 l0_2.length c0_2, .int .i64 a0_3, .int .i64 a0_4, .int .i64 a0_5] 26 (0, 0)) (by (with_reducible repeat (first | refine bkN ?_ _ | refine bkD ?_ | refine bkA ?_ _)); exact BK296.out) hb); have n1_ := Aside0.mk (bkB (g := gb297) (o := .cells #[.int .i64 a1_0, .int .i64 a1_1] 28 (0, 0)) (by (with_reducible repeat (first | refine bkN ?_ _ | refine bkD ?_ | refine bkA ?_ _)); exact BK297.out) hb); have n2_ := Aside0.mk (bkB (g := gb298) (o := .cells #[.int .i64 a3_0, .int .i64 a3_1] 28 (0, 0)) (by (with_reducible repeat (first | refine bkN ?_ _ | refine bkD ?_ | refine bkA ?_ _)); exact BK298.out) hb); have n3_ := Aside0.mk (below_step (by repeat (first | (with_reducible first | exact HB.out | apply blA | apply blN | apply blD | refine blS ?_ GE296.out | refine blS ?_ GE297.out | refine blS ?_ GE298.out) | exact HB.out)) hb); clear BK296; clear BK297; clear BK298; clear HB; have BK296 := n0_; have BK297 := n1_; have BK298 := n2_; have HB := n3_; clear n0_ n1_ n2_ n3_; (try clear hb); (try clear hb2); (try clear hk); (try clear hi)) | (go_at_call 47; (with_reducible refine (geometry_isPower.calls a2 t302 _ A19.out).mono ?_); rintro e w' ⟨rfl, ⟨nd, rfl⟩⟩))
  go_meet
  case rel => exact ⟨_, (!t302), (by first | rfl | (simp; done) | (simp [*]; done)), H', ⟨by first | omega | exact Nat.le_refl _⟩, ⟨by (with_reducible repeat (first | refine bkN ?_ _ | refine bkD ?_ | refine bkA ?_ _)); exact BK296.out⟩, ⟨by (with_reducible repeat (first | refine bkN ?_ _ | refine bkD ?_ | refine bkA ?_ _)); exact BK297.out⟩, ⟨by (with_reducible repeat (first | refine bkN ?_ _ | refine bkD ?_ | refine bkA ?_ _)); exact BK298.out⟩, ⟨by repeat (first | (with_reducible first | exact HB.out | apply blA | apply blN | apply blD | refine blS ?_ GE296.out | refine blS ?_ GE297.out | refine blS ?_ GE298.out) | exact HB.out)⟩⟩
 case rest =>
  clear HC7
  try clear c1
  try clear c2
  try clear p2
  try clear c3
  try clear c6
  try clear c6b0
  try clear c6b1
  try clear c11
  try clear c12
  try clear c16
  try clear c18
  try clear c19
  try clear c20
  try clear c21
  try clear c23
  try clear c24
  try clear c27
  try clear c28
  try clear c31
  try clear c34
  try clear c35
  try clear hcz13_0
  try clear hcz13_1
  try clear hcz13_2
  try clear hcz13_3
  try clear hcz13_4
  try clear hcz13_5
  try clear hcz22_0
  try clear hcz22_1
  try clear hcz25_0
  try clear hcz25_1
  try clear hcz29_0
  try clear hcz29_1
  try clear hcz32_0
  try clear hcz32_1
  try clear hcz36_0
  try clear hcz36_1
  try clear hfz13_0
  try clear hfz13_1
  try clear hfz13_2
  try clear hfz13_3
  try clear hfz13_4
  try clear hfz13_5
  try clear hfz22_0
  try clear hfz22_1
  try clear hfz25_0
  try clear hfz25_1
  try clear hfz29_0
  try clear hfz29_1
  try clear hfz32_0
  try clear hfz32_1
  try clear hfz36_0
  try clear hfz36_1
  obtain ⟨kq, x14_6, rfl, HA, HJ6, BK296, BK297, BK298, HB⟩ := hcut
  cases kq with
  | zero => exact absurd HA.out (by simp [geometry_At.j0])
  | succ kj6 =>
   have H := HA.out
   clear HA
   simp only [geometry_At.j0] at H
   by_cases c38 : x14_6 = true
   ·subst c38
    have H1 : (some (0, 2)) = some (r1, r2) := by rw [if_pos rfl] at H; exact H
    clear H
    have H := H1
    clear H1
    simp only [Option.some.injEq, Prod.mk.injEq] at H
    obtain ⟨rfl, rfl⟩ := H
    go_wp2
    go_ret2
    exact ⟨by first | rfl | (simp [errW_none, errW_some] <;> rfl) | (simp [*, errW_none, errW_some] <;> rfl), by repeat (first | (with_reducible first | exact HB.out | apply blA | apply blN | apply blD | refine blS ?_ GE296.out | refine blS ?_ GE297.out | refine blS ?_ GE298.out) | exact HB.out)⟩
   replace c38 := Bool.eq_false_iff.mpr c38
   subst c38
   have H1 : ((geometry_at.f l0_0 l0_1 l0_2 a0_3 a0_4 a0_5 a1_0 a1_1 a2 a3_0 a3_1).bind fun t303 => (some (t303, 0))) = some (r1, r2) := by rw [if_neg (show ¬ (false = true) by decide)] at H; exact H
   clear H
   have H := H1
   clear H1
   replace H := Option.bind_eq_some_iff.mp H
   obtain ⟨t303, A390, H⟩ := H
   replace H : (some (t303, 0)) = some (r1, r2) := H
   have A39 := Aside0.mk A390
   clear A390
   simp only [Option.some.injEq, Prod.mk.injEq] at H
   obtain ⟨rfl, rfl⟩ := H
   have hnb40 := NB296_297.out
   have hnc40 := NB297_296.out
   have hnb41 := NB296_298.out
   have hnc41 := NB298_296.out
   have hcz42_0 : wc.cell? ⟨gb296, 0, none⟩ = some (.slice A0_0 l0_0.length c0_0) := (bkC BK296.out 0).trans rfl
   have hcz42_1 : wc.cell? ⟨gb296, 1, none⟩ = some (.slice A0_1 l0_1.length c0_1) := (bkC BK296.out 1).trans rfl
   have hcz42_2 : wc.cell? ⟨gb296, 2, none⟩ = some (.slice A0_2 l0_2.length c0_2) := (bkC BK296.out 2).trans rfl
   have hcz42_3 : wc.cell? ⟨gb296, 3, none⟩ = some (.int .i64 a0_3) := (bkC BK296.out 3).trans rfl
   have hcz42_4 : wc.cell? ⟨gb296, 4, none⟩ = some (.int .i64 a0_4) := (bkC BK296.out 4).trans rfl
   have hcz42_5 : wc.cell? ⟨gb296, 5, none⟩ = some (.int .i64 a0_5) := (bkC BK296.out 5).trans rfl
   have hfz42_0 := bkF BK296.out 0
   have hfz42_1 := bkF BK296.out 1
   have hfz42_2 := bkF BK296.out 2
   have hfz42_3 := bkF BK296.out 3
   have hfz42_4 := bkF BK296.out 4
   have hfz42_5 := bkF BK296.out 5
   have hnb43 := NB297_298.out
   have hnc43 := NB298_297.out
   have hcz44_0 : wc.cell? ⟨gb297, 0, none⟩ = some (.int .i64 a1_0) := (bkC BK297.out 0).trans rfl
   have hcz44_1 : wc.cell? ⟨gb297, 1, none⟩ = some (.int .i64 a1_1) := (bkC BK297.out 1).trans rfl
   have hfz44_0 := bkF BK297.out 0
   have hfz44_1 := bkF BK297.out 1
   have hcz45_0 : wc.cell? ⟨gb298, 0, none⟩ = some (.int .i64 a3_0) := (bkC BK298.out 0).trans rfl
   have hcz45_1 : wc.cell? ⟨gb298, 1, none⟩ = some (.int .i64 a3_1) := (bkC BK298.out 1).trans rfl
   have hfz45_0 := bkF BK298.out 0
   have hfz45_1 := bkF BK298.out 1
   go_wp2_with (first | ((with_reducible refine gate_callee (f := 52) rfl ?_); refine goesL_ (some 32) rfl rfl Try.func52 (by kernel_rfl) rfl #[.agg #[.slice A0_0 l0_0.length c0_0, .slice A0_1 l0_1.length c0_1, .slice A0_2 l0_2.length c0_2, .int .i64 a0_3, .int .i64 a0_4, .int .i64 a0_5], .agg #[.int .i64 a1_0, .int .i64 a1_1], .int .i64 a2, .agg #[.int .i64 a3_0, .int .i64 a3_1]] rfl (by (try simp only [List.map_toArray, List.map_cons, List.map_nil]); first | done | rfl | (simp only [List.length_drop, List.length_take]; rfl)) ?_; (with_reducible refine (geometry_at.calls _ _ l0_0 _ _ l0_1 _ _ l0_2 a0_3 a0_4 a0_5 a1_0 a1_1 a2 a3_0 a3_1 t303 _ ?side1 ?side2 ?side3 ?side4 ?side5 ?side6 A39.out).mono ?_); (case side1 => repeat (first | exact (Kd.C_below HR0_0.out HB.out) | (with_reducible refine Kd.C_alloc ?_ _) | (with_reducible refine Kd.C_drewN ?_ _) | (with_reducible refine Kd.C_drew ?_))); (case side2 => exact HC0_0.out); (case side3 => repeat (first | exact (Kd.C_below HR0_1.out HB.out) | (with_reducible refine Kd.C_alloc ?_ _) | (with_reducible refine Kd.C_drewN ?_ _) | (with_reducible refine Kd.C_drew ?_))); (case side4 => exact HC0_1.out); (case side5 => repeat (first | exact (Kd.C_below HR0_2.out HB.out) | (with_reducible refine Kd.C_alloc ?_ _) | (with_reducible refine Kd.C_drewN ?_ _) | (with_reducible refine Kd.C_drew ?_))); (case side6 => exact HC0_2.out); rintro e w46 ⟨rfl, hb⟩; refine ⟨_, rfl, ?_⟩; have n0_ := Aside0.mk (bkB (g := gb296) (o := .cells #[.slice A0_0 l0_0.length c0_0, .slice A0_1 l0_1.length c0_1, .slice A0_2 l0_2.length c0_2, .int .i64 a0_3, .int .i64 a0_4, .int .i64 a0_5] 26 (0, 0)) (by (with_reducible repeat (first | refine bkN ?_ _ | refine bkD ?_ | refine bkA ?_ _)); exact BK296.out) hb); have n1_ := Aside0.mk (bkB (g := gb297) (o := .cells #[.int .i64 a1_0, .int .i64 a1_1] 28 (0, 0)) (by (with_reducible repeat (first | refine bkN ?_ _ | refine bkD ?_ | refine bkA ?_ _)); exact BK297.out) hb); have n2_ := Aside0.mk (bkB (g := gb298) (o := .cells #[.int .i64 a3_0, .int .i64 a3_1] 28 (0, 0)) (by (with_reducible repeat (first | refine bkN ?_ _ | refine bkD ?_ | refine bkA ?_ _)); exact BK298.out) hb); have n3_ := Aside0.mk (below_step (by repeat (first | (with_reducible first | exact HB.out | apply blA | apply blN | apply blD | refine blS ?_ GE296.out | refine blS ?_ GE297.out | refine blS ?_ GE298.out) | exact HB.out)) hb); clear BK296; clear BK297; clear BK298; clear HB; have BK296 := n0_; have BK297 := n1_; have BK298 := n2_; have HB := n3_; clear n0_ n1_ n2_ n3_; (try clear hb); (try clear hb2); (try clear hk); (try clear hi)))
   go_ret2
   exact ⟨by first | rfl | (simp [errW_none, errW_some] <;> rfl) | (simp [*, errW_none, errW_some] <;> rfl), by repeat (first | (with_reducible first | exact HB.out | apply blA | apply blN | apply blD | refine blS ?_ GE296.out | refine blS ?_ GE297.out | refine blS ?_ GE298.out) | exact HB.out)⟩
end Go.Proofs.Ytcdgpnjlaicbcaa.PA
