-- Written by a program of this session (mkprint.py: the kit's print, changed) for this claim. Not trusted: Lean checks it.
import Derived.Test.YtcdgpnjlaicbcaaPAx0
namespace Go.Proofs.Ytcdgpnjlaicbcaa.PA
open Go.RowKit Go.Proofs.YtcdgpnjlaicbcaaW.PrintWords Go.Proofs.YtcdgpnjlaicbcaaW.PrintLast Go.Proofs.YtcdgpnjlaicbcaaW.PrintMore
attribute [local go_sem] max2_int min2_int max_two min_two max_three min_three max_four min_four   -- for this text's walks alone
-- thin
set_option linter.unusedVariables false
set_option linter.unusedSimpArgs false

/-! ### hopmeshref05_within: function 57 -/
def hopmeshref05_within.j0 : Nat → Bool → Option (Bool)
 | 0, _ => none
 | k + 1, x6 => some x6
def hopmeshref05_within.f (k : Nat) (a0_0 : Int) (a0_1 : Int) (a1_0 : Int) (a1_1 : Int) (a2_0 : Int) (a2_1 : Int) : Option (Bool) := if (mn a0_0 a1_0) ≤ a2_0 then (if a2_0 ≤ (mx a0_0 a1_0) then (if (mn a0_1 a1_1) ≤ a2_1 then (hopmeshref05_within.j0 k (decide (a2_1 ≤ (mx a0_1 a1_1)))) else (hopmeshref05_within.j0 k false)) else (hopmeshref05_within.j0 k false)) else (hopmeshref05_within.j0 k false)
theorem hopmeshref05_within.mono_l : ∀ k, (∀ y0, LeO (hopmeshref05_within.j0 k y0) (hopmeshref05_within.j0 (k + 1) y0))
 | 0 => fun _ r h => by simp [hopmeshref05_within.j0] at h
 | k + 1 => by
  have ih0 := hopmeshref05_within.mono_l k
  ·intro y0
   unfold hopmeshref05_within.j0
   repeat' first
   | (with_reducible exact ih0 _)
   | (with_reducible exact LeO.refl _)
   | (with_reducible exact LeO.none _)
   | (with_reducible refine LeO.ite ?_ ?_)
   | (with_reducible refine LeO.bind ?_ (fun _ => ?_))
   | exact ih0 _
   | exact LeO.none _
   | refine LeO.ite ?_ ?_
   | refine LeO.bind ?_ (fun _ => ?_)
theorem hopmeshref05_within.mono : ∀ a0 a1 a2 a3 a4 a5 k, LeO (hopmeshref05_within.f k a0 a1 a2 a3 a4 a5) (hopmeshref05_within.f (k + 1) a0 a1 a2 a3 a4 a5) := by
 intro a0 a1 a2 a3 a4 a5 k
 have ih0 := hopmeshref05_within.mono_l k
 unfold hopmeshref05_within.f
 repeat' first
  | (with_reducible exact ih0 _)
  | (with_reducible exact LeO.refl _)
  | (with_reducible exact LeO.none _)
  | (with_reducible refine LeO.ite ?_ ?_)
  | (with_reducible refine LeO.bind ?_ (fun _ => ?_))
  | exact ih0 _
  | exact LeO.none _
  | refine LeO.ite ?_ ?_
  | refine LeO.bind ?_ (fun _ => ?_)
set_option maxHeartbeats 8000000 in
set_option maxRecDepth 100000 in
theorem hopmeshref05_within.calls (k : Nat) (a0_0 : Int) (a0_1 : Int) (a1_0 : Int) (a1_1 : Int) (a2_0 : Int) (a2_1 : Int) (r : Bool) (w : World) (h : hopmeshref05_within.f k a0_0 a0_1 a1_0 a1_1 a2_0 a2_1 = some r) :
 Calls Try.prog 57 #[.agg #[.int .i64 a0_0, .int .i64 a0_1], .agg #[.int .i64 a1_0, .int .i64 a1_1], .agg #[.int .i64 a2_0, .int .i64 a2_1]] w fun e w' => e = .returned (.bool r) ∧ Below w.heap.size w w' := by
 have hu28 := Try.underlying28
 have HB := Aside0.mk (Below.refl w.heap.size w)
 have H : (if (mn a0_0 a1_0) ≤ a2_0 then (if a2_0 ≤ (mx a0_0 a1_0) then (if (mn a0_1 a1_1) ≤ a2_1 then (hopmeshref05_within.j0 k (decide (a2_1 ≤ (mx a0_1 a1_1)))) else (hopmeshref05_within.j0 k false)) else (hopmeshref05_within.j0 k false)) else (hopmeshref05_within.j0 k false)) = some r := h
 clear h
 have HC4 := Aside0.mk H
 clear H
 go_enter Try.func57, Try.ntmps57
 go_upto_region 1 with (first | ((with_reducible refine gate_dst (N := 3) rfl ?_); refine box_event ?hg (N := 3) ?hd (cs := #[.int .i64 a0_0, .int .i64 a0_1]) (t := 28) ?hr ?_; (case hd => rfl); (case hg => rfl); (case hr => first | (go_simp; done) | (go_simp; rfl)); intro gb214 hg w5 hbox hb; have n0_ := Aside0.mk (below_step (by repeat (first | (with_reducible first | exact HB.out | apply blA | apply blN | apply blD) | exact HB.out)) hb); have n1_ := Aside0.mk (hbox); have n2_ := Aside0.mk ((by rw [hg]; exact (below_size (by repeat (first | (with_reducible first | exact HB.out | apply blA | apply blN | apply blD) | exact HB.out))) : w.heap.size ≤ gb214)); have n3_ := Aside0.mk ((by rw [hg]; exact (below_size (by repeat (first | (with_reducible first | exact HB.out | apply blA | apply blN | apply blD) | exact HB.out))) : w.heap.size ≤ gb214)); clear HB; have HB := n0_; have BK214 := n1_; have GW214 := n2_; have GE214 := n3_; clear n0_ n1_ n2_ n3_; clear hb hbox hg) | ((with_reducible refine gate_dst (N := 4) rfl ?_); refine box_event ?hg (N := 4) ?hd (cs := #[.int .i64 a1_0, .int .i64 a1_1]) (t := 28) ?hr ?_; (case hd => rfl); (case hg => rfl); (case hr => first | (go_simp; done) | (go_simp; rfl)); intro gb215 hg w6 hbox hb; have n0_ := Aside0.mk (bkB (g := gb214) (o := .cells #[.int .i64 a0_0, .int .i64 a0_1] 28 (0, 0)) (by (with_reducible repeat (first | refine bkN ?_ _ | refine bkD ?_ | refine bkA ?_ _)); exact BK214.out) hb); have n1_ := Aside0.mk (below_step (by repeat (first | (with_reducible first | exact HB.out | apply blA | apply blN | apply blD | refine blS ?_ GE214.out) | exact HB.out)) hb); have n2_ := Aside0.mk (hbox); have n3_ := Aside0.mk ((by rw [hg]; exact (below_size (by repeat (first | (with_reducible first | exact HB.out | apply blA | apply blN | apply blD | refine blS ?_ GE214.out) | exact HB.out))) : w.heap.size ≤ gb215)); have n4_ := Aside0.mk ((by rw [hg]; exact (below_size (by repeat (first | (with_reducible first | exact HB.out | apply blA | apply blN | apply blD | refine blS ?_ GE214.out) | exact HB.out))) : w.heap.size ≤ gb215)); have n5_ := Aside0.mk ((by rw [hg]; exact Nat.ne_of_lt (blk_lt (g := gb214) (o := .cells #[.int .i64 a0_0, .int .i64 a0_1] 28 (0, 0)) (by (with_reducible repeat (first | refine bkN ?_ _ | refine bkD ?_ | refine bkA ?_ _)); exact BK214.out)) : gb214 ≠ gb215)); have n6_ := Aside0.mk ((by rw [hg]; exact Nat.ne_of_gt (blk_lt (g := gb214) (o := .cells #[.int .i64 a0_0, .int .i64 a0_1] 28 (0, 0)) (by (with_reducible repeat (first | refine bkN ?_ _ | refine bkD ?_ | refine bkA ?_ _)); exact BK214.out)) : gb215 ≠ gb214)); clear BK214; clear HB; have BK214 := n0_; have HB := n1_; have BK215 := n2_; have GW215 := n3_; have GE215 := n4_; have NB214_215 := n5_; have NB215_214 := n6_; clear n0_ n1_ n2_ n3_ n4_ n5_ n6_; clear hb hbox hg) | ((with_reducible refine gate_dst (N := 5) rfl ?_); refine box_event ?hg (N := 5) ?hd (cs := #[.int .i64 a2_0, .int .i64 a2_1]) (t := 28) ?hr ?_; (case hd => rfl); (case hg => rfl); (case hr => first | (go_simp; done) | (go_simp; rfl)); intro gb216 hg w7 hbox hb; have n0_ := Aside0.mk (bkB (g := gb214) (o := .cells #[.int .i64 a0_0, .int .i64 a0_1] 28 (0, 0)) (by (with_reducible repeat (first | refine bkN ?_ _ | refine bkD ?_ | refine bkA ?_ _)); exact BK214.out) hb); have n1_ := Aside0.mk (bkB (g := gb215) (o := .cells #[.int .i64 a1_0, .int .i64 a1_1] 28 (0, 0)) (by (with_reducible repeat (first | refine bkN ?_ _ | refine bkD ?_ | refine bkA ?_ _)); exact BK215.out) hb); have n2_ := Aside0.mk (below_step (by repeat (first | (with_reducible first | exact HB.out | apply blA | apply blN | apply blD | refine blS ?_ GE214.out | refine blS ?_ GE215.out) | exact HB.out)) hb); have n3_ := Aside0.mk (hbox); have n4_ := Aside0.mk ((by rw [hg]; exact (below_size (by repeat (first | (with_reducible first | exact HB.out | apply blA | apply blN | apply blD | refine blS ?_ GE214.out | refine blS ?_ GE215.out) | exact HB.out))) : w.heap.size ≤ gb216)); have n5_ := Aside0.mk ((by rw [hg]; exact (below_size (by repeat (first | (with_reducible first | exact HB.out | apply blA | apply blN | apply blD | refine blS ?_ GE214.out | refine blS ?_ GE215.out) | exact HB.out))) : w.heap.size ≤ gb216)); have n6_ := Aside0.mk ((by rw [hg]; exact Nat.ne_of_lt (blk_lt (g := gb214) (o := .cells #[.int .i64 a0_0, .int .i64 a0_1] 28 (0, 0)) (by (with_reducible repeat (first | refine bkN ?_ _ | refine bkD ?_ | refine bkA ?_ _)); exact BK214.out)) : gb214 ≠ gb216)); have n7_ := Aside0.mk ((by rw [hg]; exact Nat.ne_of_gt (blk_lt (g := gb214) (o := .cells #[.int .i64 a0_0, .int .i64 a0_1] 28 (0, 0)) (by (with_reducible repeat (first | refine bkN ?_ _ | refine bkD ?_ | refine bkA ?_ _)); exact BK214.out)) : gb216 ≠ gb214)); have n8_ := Aside0.mk ((by rw [hg]; exact Nat.ne_of_lt (blk_lt (g := gb215) (o := .cells #[.int .i64 a1_0, .int .i64 a1_1] 28 (0, 0)) (by (with_reducible repeat (first | refine bkN ?_ _ | refine bkD ?_ | refine bkA ?_ _)); exact BK215.out)) : gb215 ≠ gb216)); have n9_ := Aside0.mk ((by rw [hg]; exact Nat.ne_of_gt (blk_lt (g := gb215) (o := .cells #[.int .i64 a1_0, .int .i64 a1_1] 28 (0, 0)) (by (with_reducible repeat (first | refine bkN ?_ _ | refine bkD ?_ | refine bkA ?_ _)); exact BK215.out)) : gb216 ≠ gb215)); clear BK214; clear BK215; clear HB; have BK214 := n0_; have BK215 := n1_; have HB := n2_; have BK216 := n3_; have GW216 := n4_; have GE216 := n5_; have NB214_216 := n6_; have NB216_214 := n7_; have NB215_216 := n8_; have NB216_215 := n9_; clear n0_ n1_ n2_ n3_ n4_ n5_ n6_ n7_ n8_ n9_; clear hb hbox hg))
 (try simp only [Act.put, List.setIfInBounds_toArray, List.set_cons_zero, List.set_cons_succ])
 go_cut [6] (fun v6 wc => ∃ (kq : Nat) (x6_3 : Bool), v6 = .bool x6_3 ∧ Aside0 (hopmeshref05_within.j0 kq x6_3 = some r) ∧ Aside0 (kq ≤ k) ∧ Aside0 (wc.heap[gb214]? = some (.cells #[.int .i64 a0_0, .int .i64 a0_1] 28 (0, 0))) ∧ Aside0 (wc.heap[gb215]? = some (.cells #[.int .i64 a1_0, .int .i64 a1_1] 28 (0, 0))) ∧ Aside0 (wc.heap[gb216]? = some (.cells #[.int .i64 a2_0, .int .i64 a2_1] 28 (0, 0))) ∧ Aside0 (Below w.heap.size w wc))
 case first =>
  have H := HC4.out
  clear HC4
  obtain ⟨ji8, hji8⟩ : ∃ j_ : Int, (mn a0_0 a1_0) = j_ := ⟨_, rfl⟩
  replace H : (if (ji8) ≤ a2_0 then (if a2_0 ≤ (mx a0_0 a1_0) then (if (mn a0_1 a1_1) ≤ a2_1 then (hopmeshref05_within.j0 k (decide (a2_1 ≤ (mx a0_1 a1_1)))) else (hopmeshref05_within.j0 k false)) else (hopmeshref05_within.j0 k false)) else (hopmeshref05_within.j0 k false)) = some r := by first | (rw [hji8] at H; exact H) | (simp only [hji8] at H ⊢; exact H)
  have hji8_ : (if a1_0 < a0_0 then a1_0 else a0_0) = ji8 := hji8
  by_cases c9 : (ji8) ≤ a2_0
  rotate_left
  ·rw [if_neg c9] at H
   have c9b0 : decide ((ji8) ≤ a2_0) = false := decide_eq_false c9
   clear c9
   (first | rw [c9b0] | (simp only [i64_w, i32_w]; rw [c9b0]) | skip)
   have H' := Aside0.mk H
   clear H
   have hnb33 := NB214_215.out
   have hnc33 := NB215_214.out
   have hnb34 := NB214_216.out
   have hnc34 := NB216_214.out
   have hcz35_0 : w7.cell? ⟨gb214, 0, none⟩ = some (.int .i64 a0_0) := (bkC BK214.out 0).trans rfl
   have hcz35_1 : w7.cell? ⟨gb214, 1, none⟩ = some (.int .i64 a0_1) := (bkC BK214.out 1).trans rfl
   have hfz35_0 := bkF BK214.out 0
   have hfz35_1 := bkF BK214.out 1
   have hnb36 := NB215_216.out
   have hnc36 := NB216_215.out
   have hcz37_0 : w7.cell? ⟨gb215, 0, none⟩ = some (.int .i64 a1_0) := (bkC BK215.out 0).trans rfl
   have hcz37_1 : w7.cell? ⟨gb215, 1, none⟩ = some (.int .i64 a1_1) := (bkC BK215.out 1).trans rfl
   have hfz37_0 := bkF BK215.out 0
   have hfz37_1 := bkF BK215.out 1
   have hcz38_0 : w7.cell? ⟨gb216, 0, none⟩ = some (.int .i64 a2_0) := (bkC BK216.out 0).trans rfl
   have hcz38_1 : w7.cell? ⟨gb216, 1, none⟩ = some (.int .i64 a2_1) := (bkC BK216.out 1).trans rfl
   have hfz38_0 := bkF BK216.out 0
   have hfz38_1 := bkF BK216.out 1
   go_wp2
   go_meet
   case rel => exact ⟨_, (false), (by first | rfl | (simp; done) | (simp [*]; done)), H', ⟨by first | omega | exact Nat.le_refl _⟩, ⟨by (with_reducible repeat (first | refine bkN ?_ _ | refine bkD ?_ | refine bkA ?_ _)); exact BK214.out⟩, ⟨by (with_reducible repeat (first | refine bkN ?_ _ | refine bkD ?_ | refine bkA ?_ _)); exact BK215.out⟩, ⟨by (with_reducible repeat (first | refine bkN ?_ _ | refine bkD ?_ | refine bkA ?_ _)); exact BK216.out⟩, ⟨by repeat (first | (with_reducible first | exact HB.out | apply blA | apply blN | apply blD | refine blS ?_ GE214.out | refine blS ?_ GE215.out | refine blS ?_ GE216.out) | exact HB.out)⟩⟩
  rw [if_pos c9] at H
  have c9b0 : decide ((ji8) ≤ a2_0) = true := decide_eq_true c9
  clear c9
  (first | rw [c9b0] | (simp only [i64_w, i32_w]; rw [c9b0]) | skip)
  obtain ⟨ji10, hji10⟩ : ∃ j_ : Int, (mx a0_0 a1_0) = j_ := ⟨_, rfl⟩
  replace H : (if a2_0 ≤ (ji10) then (if (mn a0_1 a1_1) ≤ a2_1 then (hopmeshref05_within.j0 k (decide (a2_1 ≤ (mx a0_1 a1_1)))) else (hopmeshref05_within.j0 k false)) else (hopmeshref05_within.j0 k false)) = some r := by first | (rw [hji10] at H; exact H) | (simp only [hji10] at H ⊢; exact H)
  have hji10_ : (if a0_0 < a1_0 then a1_0 else a0_0) = ji10 := hji10
  by_cases c11 : a2_0 ≤ (ji10)
  rotate_left
  ·rw [if_neg c11] at H
   have c11b0 : decide (a2_0 ≤ (ji10)) = false := decide_eq_false c11
   clear c11
   have H' := Aside0.mk H
   clear H
   have hnb27 := NB214_215.out
   have hnc27 := NB215_214.out
   have hnb28 := NB214_216.out
   have hnc28 := NB216_214.out
   have hcz29_0 : w7.cell? ⟨gb214, 0, none⟩ = some (.int .i64 a0_0) := (bkC BK214.out 0).trans rfl
   have hcz29_1 : w7.cell? ⟨gb214, 1, none⟩ = some (.int .i64 a0_1) := (bkC BK214.out 1).trans rfl
   have hfz29_0 := bkF BK214.out 0
   have hfz29_1 := bkF BK214.out 1
   have hnb30 := NB215_216.out
   have hnc30 := NB216_215.out
   have hcz31_0 : w7.cell? ⟨gb215, 0, none⟩ = some (.int .i64 a1_0) := (bkC BK215.out 0).trans rfl
   have hcz31_1 : w7.cell? ⟨gb215, 1, none⟩ = some (.int .i64 a1_1) := (bkC BK215.out 1).trans rfl
   have hfz31_0 := bkF BK215.out 0
   have hfz31_1 := bkF BK215.out 1
   have hcz32_0 : w7.cell? ⟨gb216, 0, none⟩ = some (.int .i64 a2_0) := (bkC BK216.out 0).trans rfl
   have hcz32_1 : w7.cell? ⟨gb216, 1, none⟩ = some (.int .i64 a2_1) := (bkC BK216.out 1).trans rfl
   have hfz32_0 := bkF BK216.out 0
   have hfz32_1 := bkF BK216.out 1
   go_wp2
   go_meet
   case rel => exact ⟨_, (false), (by first | rfl | (simp; done) | (simp [*]; done)), H', ⟨by first | omega | exact Nat.le_refl _⟩, ⟨by (with_reducible repeat (first | refine bkN ?_ _ | refine bkD ?_ | refine bkA ?_ _)); exact BK214.out⟩, ⟨by (with_reducible repeat (first | refine bkN ?_ _ | refine bkD ?_ | refine bkA ?_ _)); exact BK215.out⟩, ⟨by (with_reducible repeat (first | refine bkN ?_ _ | refine bkD ?_ | refine bkA ?_ _)); exact BK216.out⟩, ⟨by repeat (first | (with_reducible first | exact HB.out | apply blA | apply blN | apply blD | refine blS ?_ GE214.out | refine blS ?_ GE215.out | refine blS ?_ GE216.out) | exact HB.out)⟩⟩
  rw [if_pos c11] at H
  have c11b0 : decide (a2_0 ≤ (ji10)) = true := decide_eq_true c11
  clear c11
  obtain ⟨ji12, hji12⟩ : ∃ j_ : Int, (mn a0_1 a1_1) = j_ := ⟨_, rfl⟩
  replace H : (if (ji12) ≤ a2_1 then (hopmeshref05_within.j0 k (decide (a2_1 ≤ (mx a0_1 a1_1)))) else (hopmeshref05_within.j0 k false)) = some r := by first | (rw [hji12] at H; exact H) | (simp only [hji12] at H ⊢; exact H)
  have hji12_ : (if a1_1 < a0_1 then a1_1 else a0_1) = ji12 := hji12
  by_cases c13 : (ji12) ≤ a2_1
  rotate_left
  ·rw [if_neg c13] at H
   have c13b0 : decide ((ji12) ≤ a2_1) = false := decide_eq_false c13
   clear c13
   have H' := Aside0.mk H
   clear H
   have hnb21 := NB214_215.out
   have hnc21 := NB215_214.out
   have hnb22 := NB214_216.out
   have hnc22 := NB216_214.out
   have hcz23_0 : w7.cell? ⟨gb214, 0, none⟩ = some (.int .i64 a0_0) := (bkC BK214.out 0).trans rfl
   have hcz23_1 : w7.cell? ⟨gb214, 1, none⟩ = some (.int .i64 a0_1) := (bkC BK214.out 1).trans rfl
   have hfz23_0 := bkF BK214.out 0
   have hfz23_1 := bkF BK214.out 1
   have hnb24 := NB215_216.out
   have hnc24 := NB216_215.out
   have hcz25_0 : w7.cell? ⟨gb215, 0, none⟩ = some (.int .i64 a1_0) := (bkC BK215.out 0).trans rfl
   have hcz25_1 : w7.cell? ⟨gb215, 1, none⟩ = some (.int .i64 a1_1) := (bkC BK215.out 1).trans rfl
   have hfz25_0 := bkF BK215.out 0
   have hfz25_1 := bkF BK215.out 1
   have hcz26_0 : w7.cell? ⟨gb216, 0, none⟩ = some (.int .i64 a2_0) := (bkC BK216.out 0).trans rfl
   have hcz26_1 : w7.cell? ⟨gb216, 1, none⟩ = some (.int .i64 a2_1) := (bkC BK216.out 1).trans rfl
   have hfz26_0 := bkF BK216.out 0
   have hfz26_1 := bkF BK216.out 1
   go_wp2
   go_meet
   case rel => exact ⟨_, (false), (by first | rfl | (simp; done) | (simp [*]; done)), H', ⟨by first | omega | exact Nat.le_refl _⟩, ⟨by (with_reducible repeat (first | refine bkN ?_ _ | refine bkD ?_ | refine bkA ?_ _)); exact BK214.out⟩, ⟨by (with_reducible repeat (first | refine bkN ?_ _ | refine bkD ?_ | refine bkA ?_ _)); exact BK215.out⟩, ⟨by (with_reducible repeat (first | refine bkN ?_ _ | refine bkD ?_ | refine bkA ?_ _)); exact BK216.out⟩, ⟨by repeat (first | (with_reducible first | exact HB.out | apply blA | apply blN | apply blD | refine blS ?_ GE214.out | refine blS ?_ GE215.out | refine blS ?_ GE216.out) | exact HB.out)⟩⟩
  rw [if_pos c13] at H
  have c13b0 : decide ((ji12) ≤ a2_1) = true := decide_eq_true c13
  clear c13
  obtain ⟨ji14, hji14⟩ : ∃ j_ : Int, (mx a0_1 a1_1) = j_ := ⟨_, rfl⟩
  replace H : (hopmeshref05_within.j0 k (decide (a2_1 ≤ (ji14)))) = some r := by first | (rw [hji14] at H; exact H) | (simp only [hji14] at H ⊢; exact H)
  have hji14_ : (if a0_1 < a1_1 then a1_1 else a0_1) = ji14 := hji14
  have H' := Aside0.mk H
  clear H
  have hnb15 := NB214_215.out
  have hnc15 := NB215_214.out
  have hnb16 := NB214_216.out
  have hnc16 := NB216_214.out
  have hcz17_0 : w7.cell? ⟨gb214, 0, none⟩ = some (.int .i64 a0_0) := (bkC BK214.out 0).trans rfl
  have hcz17_1 : w7.cell? ⟨gb214, 1, none⟩ = some (.int .i64 a0_1) := (bkC BK214.out 1).trans rfl
  have hfz17_0 := bkF BK214.out 0
  have hfz17_1 := bkF BK214.out 1
  have hnb18 := NB215_216.out
  have hnc18 := NB216_215.out
  have hcz19_0 : w7.cell? ⟨gb215, 0, none⟩ = some (.int .i64 a1_0) := (bkC BK215.out 0).trans rfl
  have hcz19_1 : w7.cell? ⟨gb215, 1, none⟩ = some (.int .i64 a1_1) := (bkC BK215.out 1).trans rfl
  have hfz19_0 := bkF BK215.out 0
  have hfz19_1 := bkF BK215.out 1
  have hcz20_0 : w7.cell? ⟨gb216, 0, none⟩ = some (.int .i64 a2_0) := (bkC BK216.out 0).trans rfl
  have hcz20_1 : w7.cell? ⟨gb216, 1, none⟩ = some (.int .i64 a2_1) := (bkC BK216.out 1).trans rfl
  have hfz20_0 := bkF BK216.out 0
  have hfz20_1 := bkF BK216.out 1
  go_wp2
  go_meet
  case rel => exact ⟨_, (decide (a2_1 ≤ (ji14))), (by first | rfl | (simp; done) | (simp only [← hji14] <;> (first | rfl | simp)) | (simp [*]; done)), H', ⟨by first | omega | exact Nat.le_refl _⟩, ⟨by (with_reducible repeat (first | refine bkN ?_ _ | refine bkD ?_ | refine bkA ?_ _)); exact BK214.out⟩, ⟨by (with_reducible repeat (first | refine bkN ?_ _ | refine bkD ?_ | refine bkA ?_ _)); exact BK215.out⟩, ⟨by (with_reducible repeat (first | refine bkN ?_ _ | refine bkD ?_ | refine bkA ?_ _)); exact BK216.out⟩, ⟨by repeat (first | (with_reducible first | exact HB.out | apply blA | apply blN | apply blD | refine blS ?_ GE214.out | refine blS ?_ GE215.out | refine blS ?_ GE216.out) | exact HB.out)⟩⟩
 case rest =>
  clear HC4
  try clear c1
  try clear c2
  try clear p2
  try clear c3
  try clear c5
  try clear c9
  try clear c9b0
  try clear c11
  try clear c11b0
  try clear c13
  try clear c13b0
  try clear c15
  try clear c16
  try clear c18
  try clear c21
  try clear c22
  try clear c24
  try clear c27
  try clear c28
  try clear c30
  try clear c33
  try clear c34
  try clear c36
  try clear hcz17_0
  try clear hcz17_1
  try clear hcz19_0
  try clear hcz19_1
  try clear hcz20_0
  try clear hcz20_1
  try clear hcz23_0
  try clear hcz23_1
  try clear hcz25_0
  try clear hcz25_1
  try clear hcz26_0
  try clear hcz26_1
  try clear hcz29_0
  try clear hcz29_1
  try clear hcz31_0
  try clear hcz31_1
  try clear hcz32_0
  try clear hcz32_1
  try clear hcz35_0
  try clear hcz35_1
  try clear hcz37_0
  try clear hcz37_1
  try clear hcz38_0
  try clear hcz38_1
  try clear hfz17_0
  try clear hfz17_1
  try clear hfz19_0
  try clear hfz19_1
  try clear hfz20_0
  try clear hfz20_1
  try clear hfz23_0
  try clear hfz23_1
  try clear hfz25_0
  try clear hfz25_1
  try clear hfz26_0
  try clear hfz26_1
  try clear hfz29_0
  try clear hfz29_1
  try clear hfz31_0
  try clear hfz31_1
  try clear hfz32_0
  try clear hfz32_1
  try clear hfz35_0
  try clear hfz35_1
  try clear hfz37_0
  try clear hfz37_1
  try clear hfz38_0
  try clear hfz38_1
  obtain ⟨kq, x6_3, rfl, HA, HJ3, BK214, BK215, BK216, HB⟩ := hcut
  cases kq with
  | zero => exact absurd HA.out (by simp [hopmeshref05_within.j0])
  | succ kj3 =>
   have H := HA.out
   clear HA
   simp only [hopmeshref05_within.j0] at H
   obtain rfl := Option.some.inj H
   go_wp2
   go_ret
   exact ⟨by first | rfl | (simp [errW_none, errW_some] <;> rfl) | (simp [*, errW_none, errW_some] <;> rfl), by repeat (first | (with_reducible first | exact HB.out | apply blA | apply blN | apply blD | refine blS ?_ GE214.out | refine blS ?_ GE215.out | refine blS ?_ GE216.out) | exact HB.out)⟩

end Go.Proofs.Ytcdgpnjlaicbcaa.PA
