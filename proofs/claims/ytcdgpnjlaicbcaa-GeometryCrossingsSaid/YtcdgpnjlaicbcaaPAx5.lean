-- Written by a program of this session (mkprint.py: the kit's print, changed) for this claim. Not trusted: Lean checks it.
import Derived.Test.YtcdgpnjlaicbcaaPAx0
import Derived.Test.YtcdgpnjlaicbcaaPAx1
import Derived.Test.YtcdgpnjlaicbcaaPAx3
import Derived.Test.YtcdgpnjlaicbcaaPAx4
namespace Go.Proofs.Ytcdgpnjlaicbcaa.PA
open Go.RowKit Go.Proofs.YtcdgpnjlaicbcaaW.PrintWords Go.Proofs.YtcdgpnjlaicbcaaW.PrintLast Go.Proofs.YtcdgpnjlaicbcaaW.PrintMore
attribute [local go_sem] max2_int min2_int max_two min_two max_three min_three max_four min_four   -- for this text's walks alone
-- thin
set_option linter.unusedVariables false
set_option linter.unusedSimpArgs false

attribute [local go_sem high] eqA28
/-! ### geometry_on: function 54 -/
def geometry_on.j0 : Nat → Bool → Option (Bool)
 | 0, _ => none
 | k + 1, x6 => some x6
def geometry_on.f (k : Nat) (a0_0 : Int) (a0_1 : Int) (a1_0 : Int) (a1_1 : Int) (a2_0 : Int) (a2_1 : Int) : Option (Bool) := if (a0_0 == a1_0 && (a0_1 == a1_1)) = true then (geometry_on.j0 k true) else (if (a0_0 == a2_0 && (a0_1 == a2_1)) = true then (geometry_on.j0 k true) else ((geometry_turn.f a1_0 a1_1 a2_0 a2_1 a0_0 a0_1).bind fun t119 => (if t119 = 0 then ((geometry_within.f k a0_0 a0_1 a1_0 a1_1 a2_0 a2_1).bind fun t120 => (geometry_on.j0 k t120)) else (geometry_on.j0 k false))))
theorem geometry_on.mono_l : ∀ k, (∀ y0, LeO (geometry_on.j0 k y0) (geometry_on.j0 (k + 1) y0))
 | 0 => fun _ r h => by simp [geometry_on.j0] at h
 | k + 1 => by
  have ih0 := geometry_on.mono_l k
  ·intro y0
   unfold geometry_on.j0
   repeat' first
   | (with_reducible exact ih0 _)
   | (with_reducible exact geometry_within.mono _ _ _ _ _ _ _)
   | (with_reducible exact LeO.refl _)
   | (with_reducible exact LeO.none _)
   | (with_reducible refine LeO.ite ?_ ?_)
   | (with_reducible refine LeO.bind ?_ (fun _ => ?_))
   | exact ih0 _
   | exact geometry_within.mono _ _ _ _ _ _ _
   | exact LeO.none _
   | refine LeO.ite ?_ ?_
   | refine LeO.bind ?_ (fun _ => ?_)
theorem geometry_on.mono : ∀ a0 a1 a2 a3 a4 a5 k, LeO (geometry_on.f k a0 a1 a2 a3 a4 a5) (geometry_on.f (k + 1) a0 a1 a2 a3 a4 a5) := by
 intro a0 a1 a2 a3 a4 a5 k
 have ih0 := geometry_on.mono_l k
 unfold geometry_on.f
 repeat' first
  | (with_reducible exact ih0 _)
  | (with_reducible exact geometry_within.mono _ _ _ _ _ _ _)
  | (with_reducible exact LeO.refl _)
  | (with_reducible exact LeO.none _)
  | (with_reducible refine LeO.ite ?_ ?_)
  | (with_reducible refine LeO.bind ?_ (fun _ => ?_))
  | exact ih0 _
  | exact geometry_within.mono _ _ _ _ _ _ _
  | exact LeO.none _
  | refine LeO.ite ?_ ?_
  | refine LeO.bind ?_ (fun _ => ?_)
set_option maxHeartbeats 8000000 in
set_option maxRecDepth 100000 in
theorem geometry_on.calls (k : Nat) (a0_0 : Int) (a0_1 : Int) (a1_0 : Int) (a1_1 : Int) (a2_0 : Int) (a2_1 : Int) (r : Bool) (w : World) (h : geometry_on.f k a0_0 a0_1 a1_0 a1_1 a2_0 a2_1 = some r) :
 Calls Try.prog 54 #[.agg #[.int .i64 a0_0, .int .i64 a0_1], .agg #[.int .i64 a1_0, .int .i64 a1_1], .agg #[.int .i64 a2_0, .int .i64 a2_1]] w fun e w' => e = .returned (.bool r) ∧ Below w.heap.size w w' := by
 have hu28 := Try.underlying28
 have HB := Aside0.mk (Below.refl w.heap.size w)
 have H : (if (a0_0 == a1_0 && (a0_1 == a1_1)) = true then (geometry_on.j0 k true) else (if (a0_0 == a2_0 && (a0_1 == a2_1)) = true then (geometry_on.j0 k true) else ((geometry_turn.f a1_0 a1_1 a2_0 a2_1 a0_0 a0_1).bind fun t119 => (if t119 = 0 then ((geometry_within.f k a0_0 a0_1 a1_0 a1_1 a2_0 a2_1).bind fun t120 => (geometry_on.j0 k t120)) else (geometry_on.j0 k false))))) = some r := h
 clear h
 have HC4 := Aside0.mk H
 clear H
 go_enter Try.func54, Try.ntmps54
 go_upto_region 1 with (first | ((with_reducible refine gate_dst (N := 3) rfl ?_); refine box_event ?hg (N := 3) ?hd (cs := #[.int .i64 a0_0, .int .i64 a0_1]) (t := 28) ?hr ?_; (case hd => rfl); (case hg => rfl); (case hr => first | (go_simp; done) | (go_simp; rfl)); intro gb116 hg w5 hbox hb; have n0_ := Aside0.mk (below_step (by repeat (first | (with_reducible first | exact HB.out | apply blA | apply blN | apply blD) | exact HB.out)) hb); have n1_ := Aside0.mk (hbox); have n2_ := Aside0.mk ((by rw [hg]; exact (below_size (by repeat (first | (with_reducible first | exact HB.out | apply blA | apply blN | apply blD) | exact HB.out))) : w.heap.size ≤ gb116)); have n3_ := Aside0.mk ((by rw [hg]; exact (below_size (by repeat (first | (with_reducible first | exact HB.out | apply blA | apply blN | apply blD) | exact HB.out))) : w.heap.size ≤ gb116)); clear HB; have HB := n0_; have BK116 := n1_; have GW116 := n2_; have GE116 := n3_; clear n0_ n1_ n2_ n3_; clear hb hbox hg) | ((with_reducible refine gate_dst (N := 4) rfl ?_); refine box_event ?hg (N := 4) ?hd (cs := #[.int .i64 a1_0, .int .i64 a1_1]) (t := 28) ?hr ?_; (case hd => rfl); (case hg => rfl); (case hr => first | (go_simp; done) | (go_simp; rfl)); intro gb117 hg w6 hbox hb; have n0_ := Aside0.mk (bkB (g := gb116) (o := .cells #[.int .i64 a0_0, .int .i64 a0_1] 28 (0, 0)) (by (with_reducible repeat (first | refine bkN ?_ _ | refine bkD ?_ | refine bkA ?_ _)); exact BK116.out) hb); have n1_ := Aside0.mk (below_step (by repeat (first | (with_reducible first | exact HB.out | apply blA | apply blN | apply blD | refine blS ?_ GE116.out) | exact HB.out)) hb); have n2_ := Aside0.mk (hbox); have n3_ := Aside0.mk ((by rw [hg]; exact (below_size (by repeat (first | (with_reducible first | exact HB.out | apply blA | apply blN | apply blD | refine blS ?_ GE116.out) | exact HB.out))) : w.heap.size ≤ gb117)); have n4_ := Aside0.mk ((by rw [hg]; exact (below_size (by repeat (first | (with_reducible first | exact HB.out | apply blA | apply blN | apply blD | refine blS ?_ GE116.out) | exact HB.out))) : w.heap.size ≤ gb117)); have n5_ := Aside0.mk ((by rw [hg]; exact Nat.ne_of_lt (blk_lt (g := gb116) (o := .cells #[.int .i64 a0_0, .int .i64 a0_1] 28 (0, 0)) (by (with_reducible repeat (first | refine bkN ?_ _ | refine bkD ?_ | refine bkA ?_ _)); exact BK116.out)) : gb116 ≠ gb117)); have n6_ := Aside0.mk ((by rw [hg]; exact Nat.ne_of_gt (blk_lt (g := gb116) (o := .cells #[.int .i64 a0_0, .int .i64 a0_1] 28 (0, 0)) (by (with_reducible repeat (first | refine bkN ?_ _ | refine bkD ?_ | refine bkA ?_ _)); exact BK116.out)) : gb117 ≠ gb116)); clear BK116; clear HB; have BK116 := n0_; have HB := n1_; have BK117 := n2_; have GW117 := n3_; have GE117 := n4_; have NB116_117 := n5_; have NB117_116 := n6_; clear n0_ n1_ n2_ n3_ n4_ n5_ n6_; clear hb hbox hg) | ((with_reducible refine gate_dst (N := 5) rfl ?_); refine box_event ?hg (N := 5) ?hd (cs := #[.int .i64 a2_0, .int .i64 a2_1]) (t := 28) ?hr ?_; (case hd => rfl); (case hg => rfl); (case hr => first | (go_simp; done) | (go_simp; rfl)); intro gb118 hg w7 hbox hb; have n0_ := Aside0.mk (bkB (g := gb116) (o := .cells #[.int .i64 a0_0, .int .i64 a0_1] 28 (0, 0)) (by (with_reducible repeat (first | refine bkN ?_ _ | refine bkD ?_ | refine bkA ?_ _)); exact BK116.out) hb); have n1_ := Aside0.mk (bkB (g := gb117) (o := .cells #[.int .i64 a1_0, .int .i64 a1_1] 28 (0, 0)) (by (with_reducible repeat (first | refine bkN ?_ _ | refine bkD ?_ | refine bkA ?_ _)); exact BK117.out) hb); have n2_ := Aside0.mk (below_step (by repeat (first | (with_reducible first | exact HB.out | apply blA | apply blN | apply blD | refine blS ?_ GE116.out | refine blS ?_ GE117.out) | exact HB.out)) hb); have n3_ := Aside0.mk (hbox); have n4_ := Aside0.mk ((by rw [hg]; exact (below_size (by repeat (first | (with_reducible first | exact HB.out | apply blA | apply blN | apply blD | refine blS ?_ GE116.out | refine blS ?_ GE117.out) | exact HB.out))) : w.heap.size ≤ gb118)); have n5_ := Aside0.mk ((by rw [hg]; exact (below_size (by repeat (first | (with_reducible first | exact HB.out | apply blA | apply blN | apply blD | refine blS ?_ GE116.out | refine blS ?_ GE117.out) | exact HB.out))) : w.heap.size ≤ gb118)); have n6_ := Aside0.mk ((by rw [hg]; exact Nat.ne_of_lt (blk_lt (g := gb116) (o := .cells #[.int .i64 a0_0, .int .i64 a0_1] 28 (0, 0)) (by (with_reducible repeat (first | refine bkN ?_ _ | refine bkD ?_ | refine bkA ?_ _)); exact BK116.out)) : gb116 ≠ gb118)); have n7_ := Aside0.mk ((by rw [hg]; exact Nat.ne_of_gt (blk_lt (g := gb116) (o := .cells #[.int .i64 a0_0, .int .i64 a0_1] 28 (0, 0)) (by (with_reducible repeat (first | refine bkN ?_ _ | refine bkD ?_ | refine bkA ?_ _)); exact BK116.out)) : gb118 ≠ gb116)); have n8_ := Aside0.mk ((by rw [hg]; exact Nat.ne_of_lt (blk_lt (g := gb117) (o := .cells #[.int .i64 a1_0, .int .i64 a1_1] 28 (0, 0)) (by (with_reducible repeat (first | refine bkN ?_ _ | refine bkD ?_ | refine bkA ?_ _)); exact BK117.out)) : gb117 ≠ gb118)); have n9_ := Aside0.mk ((by rw [hg]; exact Nat.ne_of_gt (blk_lt (g := gb117) (o := .cells #[.int .i64 a1_0, .int .i64 a1_1] 28 (0, 0)) (by (with_reducible repeat (first | refine bkN ?_ _ | refine bkD ?_ | refine bkA ?_ _)); exact BK117.out)) : gb118 ≠ gb117)); clear BK116; clear BK117; clear HB; have BK116 := n0_; have BK117 := n1_; have HB := n2_; have BK118 := n3_; have GW118 := n4_; have GE118 := n5_; have NB116_118 := n6_; have NB118_116 := n7_; have NB117_118 := n8_; have NB118_117 := n9_; clear n0_ n1_ n2_ n3_ n4_ n5_ n6_ n7_ n8_ n9_; clear hb hbox hg))
 (try simp only [Act.put, List.setIfInBounds_toArray, List.set_cons_zero, List.set_cons_succ])
 go_cut [6] (fun v6 wc => ∃ (kq : Nat) (x6_3 : Bool), v6 = .bool x6_3 ∧ Aside0 (geometry_on.j0 kq x6_3 = some r) ∧ Aside0 (kq ≤ k) ∧ Aside0 (wc.heap[gb116]? = some (.cells #[.int .i64 a0_0, .int .i64 a0_1] 28 (0, 0))) ∧ Aside0 (wc.heap[gb117]? = some (.cells #[.int .i64 a1_0, .int .i64 a1_1] 28 (0, 0))) ∧ Aside0 (wc.heap[gb118]? = some (.cells #[.int .i64 a2_0, .int .i64 a2_1] 28 (0, 0))) ∧ Aside0 (Below w.heap.size w wc))
 case first =>
  have H := HC4.out
  clear HC4
  by_cases c8 : (a0_0 == a1_0 && (a0_1 == a1_1)) = true
  ·rw [if_pos c8] at H
   have c8b0 : (a0_0 == a1_0 && (a0_1 == a1_1)) = true := c8
   (try (have c8b1 : decide (a0_0 = a1_0 && (a0_1 == a1_1)) = true := by simpa using c8))
   (try (have c8b2 : (a0_0 == a1_0 && (a0_1 == a1_1)) = true := by simpa using c8))
   clear c8
   (first | rw [c8b0] | (simp only [i64_w, i32_w]; rw [c8b0]) | skip)
   have H' := Aside0.mk H
   clear H
   have hnb9 := NB116_117.out
   have hnc9 := NB117_116.out
   have hnb10 := NB116_118.out
   have hnc10 := NB118_116.out
   have hcz11_0 : w7.cell? ⟨gb116, 0, none⟩ = some (.int .i64 a0_0) := (bkC BK116.out 0).trans rfl
   have hcz11_1 : w7.cell? ⟨gb116, 1, none⟩ = some (.int .i64 a0_1) := (bkC BK116.out 1).trans rfl
   have hfz11_0 := bkF BK116.out 0
   have hfz11_1 := bkF BK116.out 1
   have hnb12 := NB117_118.out
   have hnc12 := NB118_117.out
   have hcz13_0 : w7.cell? ⟨gb117, 0, none⟩ = some (.int .i64 a1_0) := (bkC BK117.out 0).trans rfl
   have hcz13_1 : w7.cell? ⟨gb117, 1, none⟩ = some (.int .i64 a1_1) := (bkC BK117.out 1).trans rfl
   have hfz13_0 := bkF BK117.out 0
   have hfz13_1 := bkF BK117.out 1
   go_wp2
   go_meet
   case rel => exact ⟨_, (true), (by first | rfl | (simp; done) | (simp [*]; done)), H', ⟨by first | omega | exact Nat.le_refl _⟩, ⟨by (with_reducible repeat (first | refine bkN ?_ _ | refine bkD ?_ | refine bkA ?_ _)); exact BK116.out⟩, ⟨by (with_reducible repeat (first | refine bkN ?_ _ | refine bkD ?_ | refine bkA ?_ _)); exact BK117.out⟩, ⟨by (with_reducible repeat (first | refine bkN ?_ _ | refine bkD ?_ | refine bkA ?_ _)); exact BK118.out⟩, ⟨by repeat (first | (with_reducible first | exact HB.out | apply blA | apply blN | apply blD | refine blS ?_ GE116.out | refine blS ?_ GE117.out | refine blS ?_ GE118.out) | exact HB.out)⟩⟩
  rw [if_neg c8] at H
  have c8b0 : (a0_0 == a1_0 && (a0_1 == a1_1)) = false := by simpa using c8
  (try (have c8b1 : decide (a0_0 = a1_0 && (a0_1 == a1_1)) = false := by simpa using c8))
  (try (have c8b2 : (a0_0 == a1_0 && (a0_1 == a1_1)) = false := by simpa using c8))
  (try (have c8b3 : ¬ (a0_0 = a1_0 && (a0_1 == a1_1)) := by simpa using c8))
  clear c8
  (first | rw [c8b0] | (simp only [i64_w, i32_w]; rw [c8b0]) | skip)
  by_cases c14 : (a0_0 == a2_0 && (a0_1 == a2_1)) = true
  ·rw [if_pos c14] at H
   have c14b0 : (a0_0 == a2_0 && (a0_1 == a2_1)) = true := c14
   (try (have c14b1 : decide (a0_0 = a2_0 && (a0_1 == a2_1)) = true := by simpa using c14))
   (try (have c14b2 : (a0_0 == a2_0 && (a0_1 == a2_1)) = true := by simpa using c14))
   clear c14
   have H' := Aside0.mk H
   clear H
   have hnb15 := NB116_117.out
   have hnc15 := NB117_116.out
   have hnb16 := NB116_118.out
   have hnc16 := NB118_116.out
   have hcz17_0 : w7.cell? ⟨gb116, 0, none⟩ = some (.int .i64 a0_0) := (bkC BK116.out 0).trans rfl
   have hcz17_1 : w7.cell? ⟨gb116, 1, none⟩ = some (.int .i64 a0_1) := (bkC BK116.out 1).trans rfl
   have hfz17_0 := bkF BK116.out 0
   have hfz17_1 := bkF BK116.out 1
   have hnb18 := NB117_118.out
   have hnc18 := NB118_117.out
   have hcz19_0 : w7.cell? ⟨gb117, 0, none⟩ = some (.int .i64 a1_0) := (bkC BK117.out 0).trans rfl
   have hcz19_1 : w7.cell? ⟨gb117, 1, none⟩ = some (.int .i64 a1_1) := (bkC BK117.out 1).trans rfl
   have hfz19_0 := bkF BK117.out 0
   have hfz19_1 := bkF BK117.out 1
   have hcz20_0 : w7.cell? ⟨gb118, 0, none⟩ = some (.int .i64 a2_0) := (bkC BK118.out 0).trans rfl
   have hcz20_1 : w7.cell? ⟨gb118, 1, none⟩ = some (.int .i64 a2_1) := (bkC BK118.out 1).trans rfl
   have hfz20_0 := bkF BK118.out 0
   have hfz20_1 := bkF BK118.out 1
   go_wp2
   go_meet
   case rel => exact ⟨_, (true), (by first | rfl | (simp; done) | (simp [*]; done)), H', ⟨by first | omega | exact Nat.le_refl _⟩, ⟨by (with_reducible repeat (first | refine bkN ?_ _ | refine bkD ?_ | refine bkA ?_ _)); exact BK116.out⟩, ⟨by (with_reducible repeat (first | refine bkN ?_ _ | refine bkD ?_ | refine bkA ?_ _)); exact BK117.out⟩, ⟨by (with_reducible repeat (first | refine bkN ?_ _ | refine bkD ?_ | refine bkA ?_ _)); exact BK118.out⟩, ⟨by repeat (first | (with_reducible first | exact HB.out | apply blA | apply blN | apply blD | refine blS ?_ GE116.out | refine blS ?_ GE117.out | refine blS ?_ GE118.out) | exact HB.out)⟩⟩
  rw [if_neg c14] at H
  have c14b0 : (a0_0 == a2_0 && (a0_1 == a2_1)) = false := by simpa using c14
  (try (have c14b1 : decide (a0_0 = a2_0 && (a0_1 == a2_1)) = false := by simpa using c14))
  (try (have c14b2 : (a0_0 == a2_0 && (a0_1 == a2_1)) = false := by simpa using c14))
  (try (have c14b3 : ¬ (a0_0 = a2_0 && (a0_1 == a2_1)) := by simpa using c14))
  clear c14
  replace H := Option.bind_eq_some_iff.mp H
  obtain ⟨t119, A210, H⟩ := H
  replace H : (if t119 = 0 then ((geometry_within.f k a0_0 a0_1 a1_0 a1_1 a2_0 a2_1).bind fun t120 => (geometry_on.j0 k t120)) else (geometry_on.j0 k false)) = some r := H
  have A21 := Aside0.mk A210
  clear A210
  by_cases c22 : t119 = 0
  rotate_left
  ·rw [if_neg c22] at H
   have c22b0 : (t119 == 0) = false := beq_eq_false_iff_ne.mpr c22
   have c22b1 : (t119 != 0) = true := bne_iff_ne.mpr c22
   have H' := Aside0.mk H
   clear H
   have hnb35 := NB116_117.out
   have hnc35 := NB117_116.out
   have hnb36 := NB116_118.out
   have hnc36 := NB118_116.out
   have hcz37_0 : w7.cell? ⟨gb116, 0, none⟩ = some (.int .i64 a0_0) := (bkC BK116.out 0).trans rfl
   have hcz37_1 : w7.cell? ⟨gb116, 1, none⟩ = some (.int .i64 a0_1) := (bkC BK116.out 1).trans rfl
   have hfz37_0 := bkF BK116.out 0
   have hfz37_1 := bkF BK116.out 1
   have hnb38 := NB117_118.out
   have hnc38 := NB118_117.out
   have hcz39_0 : w7.cell? ⟨gb117, 0, none⟩ = some (.int .i64 a1_0) := (bkC BK117.out 0).trans rfl
   have hcz39_1 : w7.cell? ⟨gb117, 1, none⟩ = some (.int .i64 a1_1) := (bkC BK117.out 1).trans rfl
   have hfz39_0 := bkF BK117.out 0
   have hfz39_1 := bkF BK117.out 1
   have hcz40_0 : w7.cell? ⟨gb118, 0, none⟩ = some (.int .i64 a2_0) := (bkC BK118.out 0).trans rfl
   have hcz40_1 : w7.cell? ⟨gb118, 1, none⟩ = some (.int .i64 a2_1) := (bkC BK118.out 1).trans rfl
   have hfz40_0 := bkF BK118.out 0
   have hfz40_1 := bkF BK118.out 1
   go_wp2_with (first | (go_at_call 55; (with_reducible refine (geometry_turn.calls a1_0 a1_1 a2_0 a2_1 a0_0 a0_1 t119 _ A21.out).mono ?_); rintro e w41 ⟨rfl, hb⟩; have n0_ := Aside0.mk (bkB (g := gb116) (o := .cells #[.int .i64 a0_0, .int .i64 a0_1] 28 (0, 0)) (by (with_reducible repeat (first | refine bkN ?_ _ | refine bkD ?_ | refine bkA ?_ _)); exact BK116.out) hb); have n1_ := Aside0.mk (bkB (g := gb117) (o := .cells #[.int .i64 a1_0, .int .i64 a1_1] 28 (0, 0)) (by (with_reducible repeat (first | refine bkN ?_ _ | refine bkD ?_ | refine bkA ?_ _)); exact BK117.out) hb); have n2_ := Aside0.mk (bkB (g := gb118) (o := .cells #[.int .i64 a2_0, .int .i64 a2_1] 28 (0, 0)) (by (with_reducible repeat (first | refine bkN ?_ _ | refine bkD ?_ | refine bkA ?_ _)); exact BK118.out) hb); have n3_ := Aside0.mk (below_step (by repeat (first | (with_reducible first | exact HB.out | apply blA | apply blN | apply blD | refine blS ?_ GE116.out | refine blS ?_ GE117.out | refine blS ?_ GE118.out) | exact HB.out)) hb); clear BK116; clear BK117; clear BK118; clear HB; have BK116 := n0_; have BK117 := n1_; have BK118 := n2_; have HB := n3_; clear n0_ n1_ n2_ n3_; (try clear hb); (try clear hb2); (try clear hk); (try clear hi)))
   go_meet
   case rel => exact ⟨_, (false), (by first | rfl | (simp; done) | (simp [*]; done)), H', ⟨by first | omega | exact Nat.le_refl _⟩, ⟨by (with_reducible repeat (first | refine bkN ?_ _ | refine bkD ?_ | refine bkA ?_ _)); exact BK116.out⟩, ⟨by (with_reducible repeat (first | refine bkN ?_ _ | refine bkD ?_ | refine bkA ?_ _)); exact BK117.out⟩, ⟨by (with_reducible repeat (first | refine bkN ?_ _ | refine bkD ?_ | refine bkA ?_ _)); exact BK118.out⟩, ⟨by repeat (first | (with_reducible first | exact HB.out | apply blA | apply blN | apply blD | refine blS ?_ GE116.out | refine blS ?_ GE117.out | refine blS ?_ GE118.out) | exact HB.out)⟩⟩
  rw [if_pos c22] at H
  have c22b0 : (t119 == 0) = true := beq_iff_eq.mpr c22
  have c22b1 : (t119 != 0) = false := bne_eq_false_iff_eq.mpr c22
  clear c22
  replace H := Option.bind_eq_some_iff.mp H
  obtain ⟨t120, A230, H⟩ := H
  replace H : (geometry_on.j0 k t120) = some r := H
  have A23 := Aside0.mk A230
  clear A230
  have H' := Aside0.mk H
  clear H
  have hnb24 := NB116_117.out
  have hnc24 := NB117_116.out
  have hnb25 := NB116_118.out
  have hnc25 := NB118_116.out
  have hcz26_0 : w7.cell? ⟨gb116, 0, none⟩ = some (.int .i64 a0_0) := (bkC BK116.out 0).trans rfl
  have hcz26_1 : w7.cell? ⟨gb116, 1, none⟩ = some (.int .i64 a0_1) := (bkC BK116.out 1).trans rfl
  have hfz26_0 := bkF BK116.out 0
  have hfz26_1 := bkF BK116.out 1
  have hnb27 := NB117_118.out
  have hnc27 := NB118_117.out
  have hcz28_0 : w7.cell? ⟨gb117, 0, none⟩ = some (.int .i64 a1_0) := (bkC BK117.out 0).trans rfl
  have hcz28_1 : w7.cell? ⟨gb117, 1, none⟩ = some (.int .i64 a1_1) := (bkC BK117.out 1).trans rfl
  have hfz28_0 := bkF BK117.out 0
  have hfz28_1 := bkF BK117.out 1
  have hcz29_0 : w7.cell? ⟨gb118, 0, none⟩ = some (.int .i64 a2_0) := (bkC BK118.out 0).trans rfl
  have hcz29_1 : w7.cell? ⟨gb118, 1, none⟩ = some (.int .i64 a2_1) := (bkC BK118.out 1).trans rfl
  have hfz29_0 := bkF BK118.out 0
  have hfz29_1 := bkF BK118.out 1
  go_wp2_with (first | (go_at_call 55; (with_reducible refine (geometry_turn.calls a1_0 a1_1 a2_0 a2_1 a0_0 a0_1 t119 _ A21.out).mono ?_); rintro e w30 ⟨rfl, hb⟩; have n0_ := Aside0.mk (bkB (g := gb116) (o := .cells #[.int .i64 a0_0, .int .i64 a0_1] 28 (0, 0)) (by (with_reducible repeat (first | refine bkN ?_ _ | refine bkD ?_ | refine bkA ?_ _)); exact BK116.out) hb); have n1_ := Aside0.mk (bkB (g := gb117) (o := .cells #[.int .i64 a1_0, .int .i64 a1_1] 28 (0, 0)) (by (with_reducible repeat (first | refine bkN ?_ _ | refine bkD ?_ | refine bkA ?_ _)); exact BK117.out) hb); have n2_ := Aside0.mk (bkB (g := gb118) (o := .cells #[.int .i64 a2_0, .int .i64 a2_1] 28 (0, 0)) (by (with_reducible repeat (first | refine bkN ?_ _ | refine bkD ?_ | refine bkA ?_ _)); exact BK118.out) hb); have n3_ := Aside0.mk (below_step (by repeat (first | (with_reducible first | exact HB.out | apply blA | apply blN | apply blD | refine blS ?_ GE116.out | refine blS ?_ GE117.out | refine blS ?_ GE118.out) | exact HB.out)) hb); clear BK116; clear BK117; clear BK118; clear HB; have BK116 := n0_; have BK117 := n1_; have BK118 := n2_; have HB := n3_; clear n0_ n1_ n2_ n3_; (try clear hb); (try clear hb2); (try clear hk); (try clear hi); have hcz31_0 : w30.cell? ⟨gb116, 0, none⟩ = some (.int .i64 a0_0) := (bkC BK116.out 0).trans rfl; have hcz31_1 : w30.cell? ⟨gb116, 1, none⟩ = some (.int .i64 a0_1) := (bkC BK116.out 1).trans rfl; have hfz31_0 := bkF BK116.out 0; have hfz31_1 := bkF BK116.out 1; have hcz32_0 : w30.cell? ⟨gb117, 0, none⟩ = some (.int .i64 a1_0) := (bkC BK117.out 0).trans rfl; have hcz32_1 : w30.cell? ⟨gb117, 1, none⟩ = some (.int .i64 a1_1) := (bkC BK117.out 1).trans rfl; have hfz32_0 := bkF BK117.out 0; have hfz32_1 := bkF BK117.out 1; have hcz33_0 : w30.cell? ⟨gb118, 0, none⟩ = some (.int .i64 a2_0) := (bkC BK118.out 0).trans rfl; have hcz33_1 : w30.cell? ⟨gb118, 1, none⟩ = some (.int .i64 a2_1) := (bkC BK118.out 1).trans rfl; have hfz33_0 := bkF BK118.out 0; have hfz33_1 := bkF BK118.out 1) | (go_at_call 70; (with_reducible refine (geometry_within.calls k a0_0 a0_1 a1_0 a1_1 a2_0 a2_1 t120 _ A23.out).mono ?_); rintro e w34 ⟨rfl, hb⟩; have n0_ := Aside0.mk (bkB (g := gb116) (o := .cells #[.int .i64 a0_0, .int .i64 a0_1] 28 (0, 0)) (by (with_reducible repeat (first | refine bkN ?_ _ | refine bkD ?_ | refine bkA ?_ _)); exact BK116.out) hb); have n1_ := Aside0.mk (bkB (g := gb117) (o := .cells #[.int .i64 a1_0, .int .i64 a1_1] 28 (0, 0)) (by (with_reducible repeat (first | refine bkN ?_ _ | refine bkD ?_ | refine bkA ?_ _)); exact BK117.out) hb); have n2_ := Aside0.mk (bkB (g := gb118) (o := .cells #[.int .i64 a2_0, .int .i64 a2_1] 28 (0, 0)) (by (with_reducible repeat (first | refine bkN ?_ _ | refine bkD ?_ | refine bkA ?_ _)); exact BK118.out) hb); have n3_ := Aside0.mk (below_step (by repeat (first | (with_reducible first | exact HB.out | apply blA | apply blN | apply blD | refine blS ?_ GE116.out | refine blS ?_ GE117.out | refine blS ?_ GE118.out) | exact HB.out)) hb); clear BK116; clear BK117; clear BK118; clear HB; have BK116 := n0_; have BK117 := n1_; have BK118 := n2_; have HB := n3_; clear n0_ n1_ n2_ n3_; (try clear hb); (try clear hb2); (try clear hk); (try clear hi)))
  go_meet
  case rel => exact ⟨_, (t120), (by first | rfl | (simp; done) | (simp [*]; done)), H', ⟨by first | omega | exact Nat.le_refl _⟩, ⟨by (with_reducible repeat (first | refine bkN ?_ _ | refine bkD ?_ | refine bkA ?_ _)); exact BK116.out⟩, ⟨by (with_reducible repeat (first | refine bkN ?_ _ | refine bkD ?_ | refine bkA ?_ _)); exact BK117.out⟩, ⟨by (with_reducible repeat (first | refine bkN ?_ _ | refine bkD ?_ | refine bkA ?_ _)); exact BK118.out⟩, ⟨by repeat (first | (with_reducible first | exact HB.out | apply blA | apply blN | apply blD | refine blS ?_ GE116.out | refine blS ?_ GE117.out | refine blS ?_ GE118.out) | exact HB.out)⟩⟩
 case rest =>
  clear HC4
  try clear c1
  try clear c2
  try clear p2
  try clear c3
  try clear c5
  try clear c8
  try clear c8b0
  try clear c8b1
  try clear c8b2
  try clear c9
  try clear c10
  try clear c12
  try clear c14
  try clear c14b0
  try clear c14b1
  try clear c14b2
  try clear c15
  try clear c16
  try clear c18
  try clear c22
  try clear c22b0
  try clear c22b1
  try clear c24
  try clear c25
  try clear c27
  try clear c35
  try clear c36
  try clear c38
  try clear hcz11_0
  try clear hcz11_1
  try clear hcz13_0
  try clear hcz13_1
  try clear hcz17_0
  try clear hcz17_1
  try clear hcz19_0
  try clear hcz19_1
  try clear hcz20_0
  try clear hcz20_1
  try clear hcz26_0
  try clear hcz26_1
  try clear hcz28_0
  try clear hcz28_1
  try clear hcz29_0
  try clear hcz29_1
  try clear hcz31_0
  try clear hcz31_1
  try clear hcz32_0
  try clear hcz32_1
  try clear hcz33_0
  try clear hcz33_1
  try clear hcz37_0
  try clear hcz37_1
  try clear hcz39_0
  try clear hcz39_1
  try clear hcz40_0
  try clear hcz40_1
  try clear hfz11_0
  try clear hfz11_1
  try clear hfz13_0
  try clear hfz13_1
  try clear hfz17_0
  try clear hfz17_1
  try clear hfz19_0
  try clear hfz19_1
  try clear hfz20_0
  try clear hfz20_1
  try clear hfz26_0
  try clear hfz26_1
  try clear hfz28_0
  try clear hfz28_1
  try clear hfz29_0
  try clear hfz29_1
  try clear hfz31_0
  try clear hfz31_1
  try clear hfz32_0
  try clear hfz32_1
  try clear hfz33_0
  try clear hfz33_1
  try clear hfz37_0
  try clear hfz37_1
  try clear hfz39_0
  try clear hfz39_1
  try clear hfz40_0
  try clear hfz40_1
  obtain ⟨kq, x6_3, rfl, HA, HJ3, BK116, BK117, BK118, HB⟩ := hcut
  cases kq with
  | zero => exact absurd HA.out (by simp [geometry_on.j0])
  | succ kj3 =>
   have H := HA.out
   clear HA
   simp only [geometry_on.j0] at H
   obtain rfl := Option.some.inj H
   go_wp2
   go_ret
   exact ⟨by first | rfl | (simp [errW_none, errW_some] <;> rfl) | (simp [*, errW_none, errW_some] <;> rfl), by repeat (first | (with_reducible first | exact HB.out | apply blA | apply blN | apply blD | refine blS ?_ GE116.out | refine blS ?_ GE117.out | refine blS ?_ GE118.out) | exact HB.out)⟩

end Go.Proofs.Ytcdgpnjlaicbcaa.PA
