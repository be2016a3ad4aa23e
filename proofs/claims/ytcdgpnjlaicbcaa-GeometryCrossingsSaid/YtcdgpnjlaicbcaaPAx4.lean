-- Written by a program of this session (mkprint.py: the kit's print, changed) for this claim. Not trusted: Lean checks it.
import Derived.Test.YtcdgpnjlaicbcaaPAx0
namespace Go.Proofs.Ytcdgpnjlaicbcaa.PA
open Go.RowKit Go.Proofs.YtcdgpnjlaicbcaaW.PrintWords Go.Proofs.YtcdgpnjlaicbcaaW.PrintLast Go.Proofs.YtcdgpnjlaicbcaaW.PrintMore
attribute [local go_sem] max2_int min2_int max_two min_two max_three min_three max_four min_four   -- for this text's walks alone
-- thin
set_option linter.unusedVariables false
set_option linter.unusedSimpArgs false

/-! ### geometry_within: function 70 -/
def geometry_within.j0 : Nat → Bool → Option (Bool)
 | 0, _ => none
 | k + 1, x6 => some x6
def geometry_within.f (k : Nat) (a0_0 : Int) (a0_1 : Int) (a1_0 : Int) (a1_1 : Int) (a2_0 : Int) (a2_1 : Int) : Option (Bool) := if a0_0 ≥ (mn a1_0 a2_0) then (if a0_0 ≤ (mx a1_0 a2_0) then (if a0_1 ≥ (mn a1_1 a2_1) then (geometry_within.j0 k (decide (a0_1 ≤ (mx a1_1 a2_1)))) else (geometry_within.j0 k false)) else (geometry_within.j0 k false)) else (geometry_within.j0 k false)
theorem geometry_within.mono_l : ∀ k, (∀ y0, LeO (geometry_within.j0 k y0) (geometry_within.j0 (k + 1) y0))
 | 0 => fun _ r h => by simp [geometry_within.j0] at h
 | k + 1 => by
  have ih0 := geometry_within.mono_l k
  ·intro y0
   unfold geometry_within.j0
   repeat' first
   | (with_reducible exact ih0 _)
   | (with_reducible exact LeO.refl _)
   | (with_reducible exact LeO.none _)
   | (with_reducible refine LeO.ite ?_ ?_)
   | (with_reducible refine LeO.bind ?_ (fun _ => ?_))
   | exact ih0 _
   | exact LeO.none _
   | refine LeO.ite ?_ ?_
   | refine LeO.bind ?_ (fun _ => ?_)
theorem geometry_within.mono : ∀ a0 a1 a2 a3 a4 a5 k, LeO (geometry_within.f k a0 a1 a2 a3 a4 a5) (geometry_within.f (k + 1) a0 a1 a2 a3 a4 a5) := by
 intro a0 a1 a2 a3 a4 a5 k
 have ih0 := geometry_within.mono_l k
 unfold geometry_within.f
 repeat' first
  | (with_reducible exact ih0 _)
  | (with_reducible exact LeO.refl _)
  | (with_reducible exact LeO.none _)
  | (with_reducible refine LeO.ite ?_ ?_)
  | (with_reducible refine LeO.bind ?_ (fun _ => ?_))
  | exact ih0 _
  | exact LeO.none _
  | refine LeO.ite ?_ ?_
  | refine LeO.bind ?_ (fun _ => ?_)
set_option maxHeartbeats 8000000 in
set_option maxRecDepth 100000 in
theorem geometry_within.calls (k : Nat) (a0_0 : Int) (a0_1 : Int) (a1_0 : Int) (a1_1 : Int) (a2_0 : Int) (a2_1 : Int) (r : Bool) (w : World) (h : geometry_within.f k a0_0 a0_1 a1_0 a1_1 a2_0 a2_1 = some r) :
 Calls Try.prog 70 #[.agg #[.int .i64 a0_0, .int .i64 a0_1], .agg #[.int .i64 a1_0, .int .i64 a1_1], .agg #[.int .i64 a2_0, .int .i64 a2_1]] w fun e w' => e = .returned (.bool r) ∧ Below w.heap.size w w' := by
 have hu28 := Try.underlying28
 have HB := Aside0.mk (Below.refl w.heap.size w)
 have H : (if a0_0 ≥ (mn a1_0 a2_0) then (if a0_0 ≤ (mx a1_0 a2_0) then (if a0_1 ≥ (mn a1_1 a2_1) then (geometry_within.j0 k (decide (a0_1 ≤ (mx a1_1 a2_1)))) else (geometry_within.j0 k false)) else (geometry_within.j0 k false)) else (geometry_within.j0 k false)) = some r := h
 clear h
 have HC4 := Aside0.mk H
 clear H
 go_enter Try.func70, Try.ntmps70
 go_upto_region 1 with (first | ((with_reducible refine gate_dst (N := 3) rfl ?_); refine box_event ?hg (N := 3) ?hd (cs := #[.int .i64 a0_0, .int .i64 a0_1]) (t := 28) ?hr ?_; (case hd => rfl); (case hg => rfl); (case hr => first | (go_simp; done) | (go_simp; rfl)); intro gb113 hg w5 hbox hb; have n0_ := Aside0.mk (below_step (by repeat (first | (with_reducible first | exact HB.out | apply blA | apply blN | apply blD) | exact HB.out)) hb); have n1_ := Aside0.mk (hbox); have n2_ := Aside0.mk ((by rw [hg]; exact (below_size (by repeat (first | (with_reducible first | exact HB.out | apply blA | apply blN | apply blD) | exact HB.out))) : w.heap.size ≤ gb113)); have n3_ := Aside0.mk ((by rw [hg]; exact (below_size (by repeat (first | (with_reducible first | exact HB.out | apply blA | apply blN | apply blD) | exact HB.out))) : w.heap.size ≤ gb113)); clear HB; have HB := n0_; have BK113 := n1_; have GW113 := n2_; have GE113 := n3_; clear n0_ n1_ n2_ n3_; clear hb hbox hg) | ((with_reducible refine gate_dst (N := 4) rfl ?_); refine box_event ?hg (N := 4) ?hd (cs := #[.int .i64 a1_0, .int .i64 a1_1]) (t := 28) ?hr ?_; (case hd => rfl); (case hg => rfl); (case hr => first | (go_simp; done) | (go_simp; rfl)); intro gb114 hg w6 hbox hb; have n0_ := Aside0.mk (bkB (g := gb113) (o := .cells #[.int .i64 a0_0, .int .i64 a0_1] 28 (0, 0)) (by (with_reducible repeat (first | refine bkN ?_ _ | refine bkD ?_ | refine bkA ?_ _)); exact BK113.out) hb); have n1_ := Aside0.mk (below_step (by repeat (first | (with_reducible first | exact HB.out | apply blA | apply blN | apply blD | refine blS ?_ GE113.out) | exact HB.out)) hb); have n2_ := Aside0.mk (hbox); have n3_ := Aside0.mk ((by rw [hg]; exact (below_size (by repeat (first | (with_reducible first | exact HB.out | apply blA | apply blN | apply blD | refine blS ?_ GE113.out) | exact HB.out))) : w.heap.size ≤ gb114)); have n4_ := Aside0.mk ((by rw [hg]; exact (below_size (by repeat (first | (with_reducible first | exact HB.out | apply blA | apply blN | apply blD | refine blS ?_ GE113.out) | exact HB.out))) : w.heap.size ≤ gb114)); have n5_ := Aside0.mk ((by rw [hg]; exact Nat.ne_of_lt (blk_lt (g := gb113) (o := .cells #[.int .i64 a0_0, .int .i64 a0_1] 28 (0, 0)) (by (with_reducible repeat (first | refine bkN ?_ _ | refine bkD ?_ | refine bkA ?_ _)); exact BK113.out)) : gb113 ≠ gb114)); have n6_ := Aside0.mk ((by rw [hg]; exact Nat.ne_of_gt (blk_lt (g := gb113) (o := .cells #[.int .i64 a0_0, .int .i64 a0_1] 28 (0, 0)) (by (with_reducible repeat (first | refine bkN ?_ _ | refine bkD ?_ | refine bkA ?_ _)); exact BK113.out)) : gb114 ≠ gb113)); clear BK113; clear HB; have BK113 := n0_; have HB := n1_; have BK114 := n2_; have GW114 := n3_; have GE114 := n4_; have NB113_114 := n5_; have NB114_113 := n6_; clear n0_ n1_ n2_ n3_ n4_ n5_ n6_; clear hb hbox hg) | ((with_reducible refine gate_dst (N := 5) rfl ?_); refine box_event ?hg (N := 5) ?hd (cs := #[.int .i64 a2_0, .int .i64 a2_1]) (t := 28) ?hr ?_; (case hd => rfl); (case hg => rfl); (case hr => first | (go_simp; done) | (go_simp; rfl)); intro gb115 hg w7 hbox hb; have n0_ := Aside0.mk (bkB (g := gb113) (o := .cells #[.int .i64 a0_0, .int .i64 a0_1] 28 (0, 0)) (by (with_reducible repeat (first | refine bkN ?_ _ | refine bkD ?_ | refine bkA ?_ _)); exact BK113.out) hb); have n1_ := Aside0.mk (bkB (g := gb114) (o := .cells #[.int .i64 a1_0, .int .i64 a1_1] 28 (0, 0)) (by (with_reducible repeat (first | refine bkN ?_ _ | refine bkD ?_ | refine bkA ?_ _)); exact BK114.out) hb); have n2_ := Aside0.mk (below_step (by repeat (first | (with_reducible first | exact HB.out | apply blA | apply blN | apply blD | refine blS ?_ GE113.out | refine blS ?_ GE114.out) | exact HB.out)) hb); have n3_ := Aside0.mk (hbox); have n4_ := Aside0.mk ((by rw [hg]; exact (below_size (by repeat (first | (with_reducible first | exact HB.out | apply blA | apply blN | apply blD | refine blS ?_ GE113.out | refine blS ?_ GE114.out) | exact HB.out))) : w.heap.size ≤ gb115)); have n5_ := Aside0.mk ((by rw [hg]; exact (below_size (by repeat (first | (with_reducible first | exact HB.out | apply blA | apply blN | apply blD | refine blS ?_ GE113.out | refine blS ?_ GE114.out) | exact HB.out))) : w.heap.size ≤ gb115)); have n6_ := Aside0.mk ((by rw [hg]; exact Nat.ne_of_lt (blk_lt (g := gb113) (o := .cells #[.int .i64 a0_0, .int .i64 a0_1] 28 (0, 0)) (by (with_reducible repeat (first | refine bkN ?_ _ | refine bkD ?_ | refine bkA ?_ _)); exact BK113.out)) : gb113 ≠ gb115)); have n7_ := Aside0.mk ((by rw [hg]; exact Nat.ne_of_gt (blk_lt (g := gb113) (o := .cells #[.int .i64 a0_0, .int .i64 a0_1] 28 (0, 0)) (by (with_reducible repeat (first | refine bkN ?_ _ | refine bkD ?_ | refine bkA ?_ _)); exact BK113.out)) : gb115 ≠ gb113)); have n8_ := Aside0.mk ((by rw [hg]; exact Nat.ne_of_lt (blk_lt (g := gb114) (o := .cells #[.int .i64 a1_0, .int .i64 a1_1] 28 (0, 0)) (by (with_reducible repeat (first | refine bkN ?_ _ | refine bkD ?_ | refine bkA ?_ _)); exact BK114.out)) : gb114 ≠ gb115)); have n9_ := Aside0.mk ((by rw [hg]; exact Nat.ne_of_gt (blk_lt (g := gb114) (o := .cells #[.int .i64 a1_0, .int .i64 a1_1] 28 (0, 0)) (by (with_reducible repeat (first | refine bkN ?_ _ | refine bkD ?_ | refine bkA ?_ _)); exact BK114.out)) : gb115 ≠ gb114)); clear BK113; clear BK114; clear HB; have BK113 := n0_; have BK114 := n1_; have HB := n2_; have BK115 := n3_; have GW115 := n4_; have GE115 := n5_; have NB113_115 := n6_; have NB115_113 := n7_; have NB114_115 := n8_; have NB115_114 := n9_; clear n0_ n1_ n2_ n3_ n4_ n5_ n6_ n7_ n8_ n9_; clear hb hbox hg))
 (try simp only [Act.put, List.setIfInBounds_toArray, List.set_cons_zero, List.set_cons_succ])
 go_cut [6] (fun v6 wc => ∃ (kq : Nat) (x6_3 : Bool), v6 = .bool x6_3 ∧ Aside0 (geometry_within.j0 kq x6_3 = some r) ∧ Aside0 (kq ≤ k) ∧ Aside0 (wc.heap[gb113]? = some (.cells #[.int .i64 a0_0, .int .i64 a0_1] 28 (0, 0))) ∧ Aside0 (wc.heap[gb114]? = some (.cells #[.int .i64 a1_0, .int .i64 a1_1] 28 (0, 0))) ∧ Aside0 (wc.heap[gb115]? = some (.cells #[.int .i64 a2_0, .int .i64 a2_1] 28 (0, 0))) ∧ Aside0 (Below w.heap.size w wc))
 case first =>
  have H := HC4.out
  clear HC4
  obtain ⟨ji8, hji8⟩ : ∃ j_ : Int, (mn a1_0 a2_0) = j_ := ⟨_, rfl⟩
  replace H : (if a0_0 ≥ (ji8) then (if a0_0 ≤ (mx a1_0 a2_0) then (if a0_1 ≥ (mn a1_1 a2_1) then (geometry_within.j0 k (decide (a0_1 ≤ (mx a1_1 a2_1)))) else (geometry_within.j0 k false)) else (geometry_within.j0 k false)) else (geometry_within.j0 k false)) = some r := by first | (rw [hji8] at H; exact H) | (simp only [hji8] at H ⊢; exact H)
  have hji8_ : (if a2_0 < a1_0 then a2_0 else a1_0) = ji8 := hji8
  by_cases c9 : a0_0 ≥ (ji8)
  rotate_left
  ·rw [if_neg c9] at H
   have c9b0 : decide ((ji8) ≤ a0_0) = false := decide_eq_false c9
   clear c9
   (first | rw [c9b0] | (simp only [i64_w, i32_w]; rw [c9b0]) | skip)
   have H' := Aside0.mk H
   clear H
   have hnb33 := NB113_114.out
   have hnc33 := NB114_113.out
   have hnb34 := NB113_115.out
   have hnc34 := NB115_113.out
   have hcz35_0 : w7.cell? ⟨gb113, 0, none⟩ = some (.int .i64 a0_0) := (bkC BK113.out 0).trans rfl
   have hcz35_1 : w7.cell? ⟨gb113, 1, none⟩ = some (.int .i64 a0_1) := (bkC BK113.out 1).trans rfl
   have hfz35_0 := bkF BK113.out 0
   have hfz35_1 := bkF BK113.out 1
   have hnb36 := NB114_115.out
   have hnc36 := NB115_114.out
   have hcz37_0 : w7.cell? ⟨gb114, 0, none⟩ = some (.int .i64 a1_0) := (bkC BK114.out 0).trans rfl
   have hcz37_1 : w7.cell? ⟨gb114, 1, none⟩ = some (.int .i64 a1_1) := (bkC BK114.out 1).trans rfl
   have hfz37_0 := bkF BK114.out 0
   have hfz37_1 := bkF BK114.out 1
   have hcz38_0 : w7.cell? ⟨gb115, 0, none⟩ = some (.int .i64 a2_0) := (bkC BK115.out 0).trans rfl
   have hcz38_1 : w7.cell? ⟨gb115, 1, none⟩ = some (.int .i64 a2_1) := (bkC BK115.out 1).trans rfl
   have hfz38_0 := bkF BK115.out 0
   have hfz38_1 := bkF BK115.out 1
   go_wp2
   go_meet
   case rel => exact ⟨_, (false), (by first | rfl | (simp; done) | (simp [*]; done)), H', ⟨by first | omega | exact Nat.le_refl _⟩, ⟨by (with_reducible repeat (first | refine bkN ?_ _ | refine bkD ?_ | refine bkA ?_ _)); exact BK113.out⟩, ⟨by (with_reducible repeat (first | refine bkN ?_ _ | refine bkD ?_ | refine bkA ?_ _)); exact BK114.out⟩, ⟨by (with_reducible repeat (first | refine bkN ?_ _ | refine bkD ?_ | refine bkA ?_ _)); exact BK115.out⟩, ⟨by repeat (first | (with_reducible first | exact HB.out | apply blA | apply blN | apply blD | refine blS ?_ GE113.out | refine blS ?_ GE114.out | refine blS ?_ GE115.out) | exact HB.out)⟩⟩
  rw [if_pos c9] at H
  have c9b0 : decide ((ji8) ≤ a0_0) = true := decide_eq_true c9
  clear c9
  (first | rw [c9b0] | (simp only [i64_w, i32_w]; rw [c9b0]) | skip)
  obtain ⟨ji10, hji10⟩ : ∃ j_ : Int, (mx a1_0 a2_0) = j_ := ⟨_, rfl⟩
  replace H : (if a0_0 ≤ (ji10) then (if a0_1 ≥ (mn a1_1 a2_1) then (geometry_within.j0 k (decide (a0_1 ≤ (mx a1_1 a2_1)))) else (geometry_within.j0 k false)) else (geometry_within.j0 k false)) = some r := by first | (rw [hji10] at H; exact H) | (simp only [hji10] at H ⊢; exact H)
  have hji10_ : (if a1_0 < a2_0 then a2_0 else a1_0) = ji10 := hji10
  by_cases c11 : a0_0 ≤ (ji10)
  rotate_left
  ·rw [if_neg c11] at H
   have c11b0 : decide (a0_0 ≤ (ji10)) = false := decide_eq_false c11
   clear c11
   have H' := Aside0.mk H
   clear H
   have hnb27 := NB113_114.out
   have hnc27 := NB114_113.out
   have hnb28 := NB113_115.out
   have hnc28 := NB115_113.out
   have hcz29_0 : w7.cell? ⟨gb113, 0, none⟩ = some (.int .i64 a0_0) := (bkC BK113.out 0).trans rfl
   have hcz29_1 : w7.cell? ⟨gb113, 1, none⟩ = some (.int .i64 a0_1) := (bkC BK113.out 1).trans rfl
   have hfz29_0 := bkF BK113.out 0
   have hfz29_1 := bkF BK113.out 1
   have hnb30 := NB114_115.out
   have hnc30 := NB115_114.out
   have hcz31_0 : w7.cell? ⟨gb114, 0, none⟩ = some (.int .i64 a1_0) := (bkC BK114.out 0).trans rfl
   have hcz31_1 : w7.cell? ⟨gb114, 1, none⟩ = some (.int .i64 a1_1) := (bkC BK114.out 1).trans rfl
   have hfz31_0 := bkF BK114.out 0
   have hfz31_1 := bkF BK114.out 1
   have hcz32_0 : w7.cell? ⟨gb115, 0, none⟩ = some (.int .i64 a2_0) := (bkC BK115.out 0).trans rfl
   have hcz32_1 : w7.cell? ⟨gb115, 1, none⟩ = some (.int .i64 a2_1) := (bkC BK115.out 1).trans rfl
   have hfz32_0 := bkF BK115.out 0
   have hfz32_1 := bkF BK115.out 1
   go_wp2
   go_meet
   case rel => exact ⟨_, (false), (by first | rfl | (simp; done) | (simp [*]; done)), H', ⟨by first | omega | exact Nat.le_refl _⟩, ⟨by (with_reducible repeat (first | refine bkN ?_ _ | refine bkD ?_ | refine bkA ?_ _)); exact BK113.out⟩, ⟨by (with_reducible repeat (first | refine bkN ?_ _ | refine bkD ?_ | refine bkA ?_ _)); exact BK114.out⟩, ⟨by (with_reducible repeat (first | refine bkN ?_ _ | refine bkD ?_ | refine bkA ?_ _)); exact BK115.out⟩, ⟨by repeat (first | (with_reducible first | exact HB.out | apply blA | apply blN | apply blD | refine blS ?_ GE113.out | refine blS ?_ GE114.out | refine blS ?_ GE115.out) | exact HB.out)⟩⟩
  rw [if_pos c11] at H
  have c11b0 : decide (a0_0 ≤ (ji10)) = true := decide_eq_true c11
  clear c11
  obtain ⟨ji12, hji12⟩ : ∃ j_ : Int, (mn a1_1 a2_1) = j_ := ⟨_, rfl⟩
  replace H : (if a0_1 ≥ (ji12) then (geometry_within.j0 k (decide (a0_1 ≤ (mx a1_1 a2_1)))) else (geometry_within.j0 k false)) = some r := by first | (rw [hji12] at H; exact H) | (simp only [hji12] at H ⊢; exact H)
  have hji12_ : (if a2_1 < a1_1 then a2_1 else a1_1) = ji12 := hji12
  by_cases c13 : a0_1 ≥ (ji12)
  rotate_left
  ·rw [if_neg c13] at H
   have c13b0 : decide ((ji12) ≤ a0_1) = false := decide_eq_false c13
   clear c13
   have H' := Aside0.mk H
   clear H
   have hnb21 := NB113_114.out
   have hnc21 := NB114_113.out
   have hnb22 := NB113_115.out
   have hnc22 := NB115_113.out
   have hcz23_0 : w7.cell? ⟨gb113, 0, none⟩ = some (.int .i64 a0_0) := (bkC BK113.out 0).trans rfl
   have hcz23_1 : w7.cell? ⟨gb113, 1, none⟩ = some (.int .i64 a0_1) := (bkC BK113.out 1).trans rfl
   have hfz23_0 := bkF BK113.out 0
   have hfz23_1 := bkF BK113.out 1
   have hnb24 := NB114_115.out
   have hnc24 := NB115_114.out
   have hcz25_0 : w7.cell? ⟨gb114, 0, none⟩ = some (.int .i64 a1_0) := (bkC BK114.out 0).trans rfl
   have hcz25_1 : w7.cell? ⟨gb114, 1, none⟩ = some (.int .i64 a1_1) := (bkC BK114.out 1).trans rfl
   have hfz25_0 := bkF BK114.out 0
   have hfz25_1 := bkF BK114.out 1
   have hcz26_0 : w7.cell? ⟨gb115, 0, none⟩ = some (.int .i64 a2_0) := (bkC BK115.out 0).trans rfl
   have hcz26_1 : w7.cell? ⟨gb115, 1, none⟩ = some (.int .i64 a2_1) := (bkC BK115.out 1).trans rfl
   have hfz26_0 := bkF BK115.out 0
   have hfz26_1 := bkF BK115.out 1
   go_wp2
   go_meet
   case rel => exact ⟨_, (false), (by first | rfl | (simp; done) | (simp [*]; done)), H', ⟨by first | omega | exact Nat.le_refl _⟩, ⟨by (with_reducible repeat (first | refine bkN ?_ _ | refine bkD ?_ | refine bkA ?_ _)); exact BK113.out⟩, ⟨by (with_reducible repeat (first | refine bkN ?_ _ | refine bkD ?_ | refine bkA ?_ _)); exact BK114.out⟩, ⟨by (with_reducible repeat (first | refine bkN ?_ _ | refine bkD ?_ | refine bkA ?_ _)); exact BK115.out⟩, ⟨by repeat (first | (with_reducible first | exact HB.out | apply blA | apply blN | apply blD | refine blS ?_ GE113.out | refine blS ?_ GE114.out | refine blS ?_ GE115.out) | exact HB.out)⟩⟩
  rw [if_pos c13] at H
  have c13b0 : decide ((ji12) ≤ a0_1) = true := decide_eq_true c13
  clear c13
  obtain ⟨ji14, hji14⟩ : ∃ j_ : Int, (mx a1_1 a2_1) = j_ := ⟨_, rfl⟩
  replace H : (geometry_within.j0 k (decide (a0_1 ≤ (ji14)))) = some r := by first | (rw [hji14] at H; exact H) | (simp only [hji14] at H ⊢; exact H)
  have hji14_ : (if a1_1 < a2_1 then a2_1 else a1_1) = ji14 := hji14
  have H' := Aside0.mk H
  clear H
  have hnb15 := NB113_114.out
  have hnc15 := NB114_113.out
  have hnb16 := NB113_115.out
  have hnc16 := NB115_113.out
  have hcz17_0 : w7.cell? ⟨gb113, 0, none⟩ = some (.int .i64 a0_0) := (bkC BK113.out 0).trans rfl
  have hcz17_1 : w7.cell? ⟨gb113, 1, none⟩ = some (.int .i64 a0_1) := (bkC BK113.out 1).trans rfl
  have hfz17_0 := bkF BK113.out 0
  have hfz17_1 := bkF BK113.out 1
  have hnb18 := NB114_115.out
  have hnc18 := NB115_114.out
  have hcz19_0 : w7.cell? ⟨gb114, 0, none⟩ = some (.int .i64 a1_0) := (bkC BK114.out 0).trans rfl
  have hcz19_1 : w7.cell? ⟨gb114, 1, none⟩ = some (.int .i64 a1_1) := (bkC BK114.out 1).trans rfl
  have hfz19_0 := bkF BK114.out 0
  have hfz19_1 := bkF BK114.out 1
  have hcz20_0 : w7.cell? ⟨gb115, 0, none⟩ = some (.int .i64 a2_0) := (bkC BK115.out 0).trans rfl
  have hcz20_1 : w7.cell? ⟨gb115, 1, none⟩ = some (.int .i64 a2_1) := (bkC BK115.out 1).trans rfl
  have hfz20_0 := bkF BK115.out 0
  have hfz20_1 := bkF BK115.out 1
  go_wp2
  go_meet
  case rel => exact ⟨_, (decide (a0_1 ≤ (ji14))), (by first | rfl | (simp; done) | (simp only [← hji14] <;> (first | rfl | simp)) | (simp [*]; done)), H', ⟨by first | omega | exact Nat.le_refl _⟩, ⟨by (with_reducible repeat (first | refine bkN ?_ _ | refine bkD ?_ | refine bkA ?_ _)); exact BK113.out⟩, ⟨by (with_reducible repeat (first | refine bkN ?_ _ | refine bkD ?_ | refine bkA ?_ _)); exact BK114.out⟩, ⟨by (with_reducible repeat (first | refine bkN ?_ _ | refine bkD ?_ | refine bkA ?_ _)); exact BK115.out⟩, ⟨by repeat (first | (with_reducible first | exact HB.out | apply blA | apply blN | apply blD | refine blS ?_ GE113.out | refine blS ?_ GE114.out | refine blS ?_ GE115.out) | exact HB.out)⟩⟩
 case rest =>
  clear HC4
  try clear c1
  try clear c2
  try clear p2
  try clear c3
  try clear c7
  try clear c9
  try clear c9b0
  try clear c11
  try clear c11b0
  try clear c13
  try clear c13b0
  try clear c15
  try clear c16
  try clear c18
  try clear c21
  try clear c22
  try clear c24
  try clear c27
  try clear c28
  try clear c30
  try clear c33
  try clear c34
  try clear c36
  try clear hcz17_0
  try clear hcz17_1
  try clear hcz19_0
  try clear hcz19_1
  try clear hcz20_0
  try clear hcz20_1
  try clear hcz23_0
  try clear hcz23_1
  try clear hcz25_0
  try clear hcz25_1
  try clear hcz26_0
  try clear hcz26_1
  try clear hcz29_0
  try clear hcz29_1
  try clear hcz31_0
  try clear hcz31_1
  try clear hcz32_0
  try clear hcz32_1
  try clear hcz35_0
  try clear hcz35_1
  try clear hcz37_0
  try clear hcz37_1
  try clear hcz38_0
  try clear hcz38_1
  try clear hfz17_0
  try clear hfz17_1
  try clear hfz19_0
  try clear hfz19_1
  try clear hfz20_0
  try clear hfz20_1
  try clear hfz23_0
  try clear hfz23_1
  try clear hfz25_0
  try clear hfz25_1
  try clear hfz26_0
  try clear hfz26_1
  try clear hfz29_0
  try clear hfz29_1
  try clear hfz31_0
  try clear hfz31_1
  try clear hfz32_0
  try clear hfz32_1
  try clear hfz35_0
  try clear hfz35_1
  try clear hfz37_0
  try clear hfz37_1
  try clear hfz38_0
  try clear hfz38_1
  obtain ⟨kq, x6_3, rfl, HA, HJ3, BK113, BK114, BK115, HB⟩ := hcut
  cases kq with
  | zero => exact absurd HA.out (by simp [geometry_within.j0])
  | succ kj3 =>
   have H := HA.out
   clear HA
   simp only [geometry_within.j0] at H
   obtain rfl := Option.some.inj H
   go_wp2
   go_ret
   exact ⟨by first | rfl | (simp [errW_none, errW_some] <;> rfl) | (simp [*, errW_none, errW_some] <;> rfl), by repeat (first | (with_reducible first | exact HB.out | apply blA | apply blN | apply blD | refine blS ?_ GE113.out | refine blS ?_ GE114.out | refine blS ?_ GE115.out) | exact HB.out)⟩

end Go.Proofs.Ytcdgpnjlaicbcaa.PA
