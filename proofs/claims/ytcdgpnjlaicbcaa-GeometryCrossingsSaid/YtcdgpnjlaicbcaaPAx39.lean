-- Written by a program of this session (mkprint.py: the kit's print, changed) for this claim. Not trusted: Lean checks it.
import Derived.Test.YtcdgpnjlaicbcaaPAx0
import Derived.Test.YtcdgpnjlaicbcaaPAx6
import Derived.Test.YtcdgpnjlaicbcaaPAx11
import Derived.Test.YtcdgpnjlaicbcaaPAx38
namespace Go.Proofs.Ytcdgpnjlaicbcaa.PA
open Go.RowKit Go.Proofs.YtcdgpnjlaicbcaaW.PrintWords Go.Proofs.YtcdgpnjlaicbcaaW.PrintLast Go.Proofs.YtcdgpnjlaicbcaaW.PrintMore
attribute [local go_sem] max2_int min2_int max_two min_two max_three min_three max_four min_four   -- for this text's walks alone
-- thin
set_option linter.unusedVariables false
set_option linter.unusedSimpArgs false

/-! ### hopmeshlaw05_GeometryCrossings: function 7 -/
set_option maxHeartbeats 80000000 in
set_option maxRecDepth 100000 in
theorem hopmeshlaw05_GeometryCrossings.calls (k : Nat) (a0_0 : Int) (a0_1 : Int) (a1_0 : Int) (a1_1 : Int) (a2_0 : Int) (a2_1 : Int) (a2_2 : Int) (a2_3 : Int) (a2_4 : Int) (r : Bool) (w : World) (h : hopmeshlaw05_GeometryCrossings.f k a0_0 a0_1 a1_0 a1_1 a2_0 a2_1 a2_2 a2_3 a2_4 = some r) (hr_ : r = true) :
 Calls Try.prog 7 #[.agg #[.int .i64 a0_0, .int .i64 a0_1], .agg #[.int .i64 a1_0, .int .i64 a1_1], .agg #[.int .i64 a2_0, .int .i64 a2_1, .int .i64 a2_2, .int .i64 a2_3, .int .i64 a2_4]] w fun e w' => e = .returned (.bool r) ∧ Below w.heap.size w w' := by
 have hu28 := Try.underlying28
 have hu47 := Try.underlying47
 have HRT := Aside0.mk hr_
 clear hr_
 have HB := Aside0.mk (Below.refl w.heap.size w)
 have H : ((hopmeshlaw05_awake.f).bind fun t418 => (if t418 = true then ((some (([(⟨a0_0, a0_1⟩ : S28), (⟨a1_0, a1_1⟩ : S28), (⟨a2_0, a2_1⟩ : S28), (⟨a2_2, a2_3⟩ : S28)] : List (S28)) : List (S28))).bind fun y419 => (hopmeshlaw05_GeometryCrossings.l0 k y419 (y419.length : Int) 0 a0_0 a0_1 a1_0 a1_1 a2_0 a2_1 a2_2 a2_3 a2_4)) else (some false))) = some r := h
 clear h
 replace H := Option.bind_eq_some_iff.mp H
 obtain ⟨t418, A40, H⟩ := H
 replace H : (if t418 = true then ((some (([(⟨a0_0, a0_1⟩ : S28), (⟨a1_0, a1_1⟩ : S28), (⟨a2_0, a2_1⟩ : S28), (⟨a2_2, a2_3⟩ : S28)] : List (S28)) : List (S28))).bind fun y419 => (hopmeshlaw05_GeometryCrossings.l0 k y419 (y419.length : Int) 0 a0_0 a0_1 a1_0 a1_1 a2_0 a2_1 a2_2 a2_3 a2_4)) else (some false)) = some r := H
 have A4 := Aside0.mk A40
 clear A40
 by_cases c5 : t418 = true
 rotate_left
 ·replace c5 := Bool.eq_false_iff.mpr c5
  subst c5
  have H1 : (some false) = some r := by rw [if_neg (show ¬ (false = true) by decide)] at H; exact H
  clear H
  have H := H1
  clear H1
  exact absurd (H.trans (congrArg some HRT.out)) (by simp)

 ·skip
  subst c5
  have H1 : ((some (([(⟨a0_0, a0_1⟩ : S28), (⟨a1_0, a1_1⟩ : S28), (⟨a2_0, a2_1⟩ : S28), (⟨a2_2, a2_3⟩ : S28)] : List (S28)) : List (S28))).bind fun y419 => (hopmeshlaw05_GeometryCrossings.l0 k y419 (y419.length : Int) 0 a0_0 a0_1 a1_0 a1_1 a2_0 a2_1 a2_2 a2_3 a2_4)) = some r := by rw [if_pos rfl] at H; exact H
  clear H
  have H := H1
  clear H1
  obtain ⟨y419, hy419⟩ : ∃ y_ : List (S28), y_ = (([(⟨a0_0, a0_1⟩ : S28), (⟨a1_0, a1_1⟩ : S28), (⟨a2_0, a2_1⟩ : S28), (⟨a2_2, a2_3⟩ : S28)] : List (S28))) := ⟨_, rfl⟩
  replace H : (hopmeshlaw05_GeometryCrossings.l0 k y419 (y419.length : Int) 0 a0_0 a0_1 a1_0 a1_1 a2_0 a2_1 a2_2 a2_3 a2_4) = some r := by first | (rw [hy419]; with_reducible exact H) | (have H2_ := (Option.bind_some _ _).symm.trans H; rw [hy419]; with_reducible exact H2_) | (have H2_ := (Option.bind_some _ _).symm.trans H; with_reducible exact H2_) | with_reducible exact H | (rw [hy419]; exact H) | exact H
  have Ny419 := Aside0.mk hy419
  clear hy419
  have H' := Aside0.mk H
  clear H
  go_enter Try.func7, Try.ntmps7
  go_wp2_with (first | ((with_reducible refine gate_dst (N := 3) rfl ?_); refine box_event ?hg (N := 3) ?hd (cs := #[.int .i64 a0_0, .int .i64 a0_1]) (t := 28) ?hr ?_; (case hd => rfl); (case hg => rfl); (case hr => first | (go_simp; done) | (go_simp; rfl)); intro gb415 hg w6 hbox hb; have n0_ := Aside0.mk (below_step (by repeat (first | (with_reducible first | exact HB.out | apply blA | apply blN | apply blD) | exact HB.out)) hb); have n1_ := Aside0.mk (hbox); have n2_ := Aside0.mk ((by rw [hg]; exact (below_size (by repeat (first | (with_reducible first | exact HB.out | apply blA | apply blN | apply blD) | exact HB.out))) : w.heap.size ≤ gb415)); have n3_ := Aside0.mk ((by rw [hg]; exact (below_size (by repeat (first | (with_reducible first | exact HB.out | apply blA | apply blN | apply blD) | exact HB.out))) : w.heap.size ≤ gb415)); clear HB; have HB := n0_; have BK415 := n1_; have GW415 := n2_; have GE415 := n3_; clear n0_ n1_ n2_ n3_; clear hb hbox hg) | ((with_reducible refine gate_dst (N := 4) rfl ?_); refine box_event ?hg (N := 4) ?hd (cs := #[.int .i64 a1_0, .int .i64 a1_1]) (t := 28) ?hr ?_; (case hd => rfl); (case hg => rfl); (case hr => first | (go_simp; done) | (go_simp; rfl)); intro gb416 hg w7 hbox hb; have n0_ := Aside0.mk (bkB (g := gb415) (o := .cells #[.int .i64 a0_0, .int .i64 a0_1] 28 (0, 0)) (by (with_reducible repeat (first | refine bkN ?_ _ | refine bkD ?_ | refine bkA ?_ _)); exact BK415.out) hb); have n1_ := Aside0.mk (below_step (by repeat (first | (with_reducible first | exact HB.out | apply blA | apply blN | apply blD | refine blS ?_ GE415.out) | exact HB.out)) hb); have n2_ := Aside0.mk (hbox); have n3_ := Aside0.mk ((by rw [hg]; exact (below_size (by repeat (first | (with_reducible first | exact HB.out | apply blA | apply blN | apply blD | refine blS ?_ GE415.out) | exact HB.out))) : w.heap.size ≤ gb416)); have n4_ := Aside0.mk ((by rw [hg]; exact (below_size (by repeat (first | (with_reducible first | exact HB.out | apply blA | apply blN | apply blD | refine blS ?_ GE415.out) | exact HB.out))) : w.heap.size ≤ gb416)); have n5_ := Aside0.mk ((by rw [hg]; exact Nat.ne_of_lt (blk_lt (g := gb415) (o := .cells #[.int .i64 a0_0, .int .i64 a0_1] 28 (0, 0)) (by (with_reducible repeat (first | refine bkN ?_ _ | refine bkD ?_ | refine bkA ?_ _)); exact BK415.out)) : gb415 ≠ gb416)); have n6_ := Aside0.mk ((by rw [hg]; exact Nat.ne_of_gt (blk_lt (g := gb415) (o := .cells #[.int .i64 a0_0, .int .i64 a0_1] 28 (0, 0)) (by (with_reducible repeat (first | refine bkN ?_ _ | refine bkD ?_ | refine bkA ?_ _)); exact BK415.out)) : gb416 ≠ gb415)); clear BK415; clear HB; have BK415 := n0_; have HB := n1_; have BK416 := n2_; have GW416 := n3_; have GE416 := n4_; have NB415_416 := n5_; have NB416_415 := n6_; clear n0_ n1_ n2_ n3_ n4_ n5_ n6_; clear hb hbox hg) | ((with_reducible refine gate_dst (N := 5) rfl ?_); refine box_event ?hg (N := 5) ?hd (cs := #[.int .i64 a2_0, .int .i64 a2_1, .int .i64 a2_2, .int .i64 a2_3, .int .i64 a2_4]) (t := 47) ?hr ?_; (case hd => rfl); (case hg => rfl); (case hr => first | (go_simp; done) | (go_simp; rfl)); intro gb417 hg w8 hbox hb; have n0_ := Aside0.mk (bkB (g := gb415) (o := .cells #[.int .i64 a0_0, .int .i64 a0_1] 28 (0, 0)) (by (with_reducible repeat (first | refine bkN ?_ _ | refine bkD ?_ | refine bkA ?_ _)); exact BK415.out) hb); have n1_ := Aside0.mk (bkB (g := gb416) (o := .cells #[.int .i64 a1_0, .int .i64 a1_1] 28 (0, 0)) (by (with_reducible repeat (first | refine bkN ?_ _ | refine bkD ?_ | refine bkA ?_ _)); exact BK416.out) hb); have n2_ := Aside0.mk (below_step (by repeat (first | (with_reducible first | exact HB.out | apply blA | apply blN | apply blD | refine blS ?_ GE415.out | refine blS ?_ GE416.out) | exact HB.out)) hb); have n3_ := Aside0.mk (hbox); have n4_ := Aside0.mk ((by rw [hg]; exact (below_size (by repeat (first | (with_reducible first | exact HB.out | apply blA | apply blN | apply blD | refine blS ?_ GE415.out | refine blS ?_ GE416.out) | exact HB.out))) : w.heap.size ≤ gb417)); have n5_ := Aside0.mk ((by rw [hg]; exact (below_size (by repeat (first | (with_reducible first | exact HB.out | apply blA | apply blN | apply blD | refine blS ?_ GE415.out | refine blS ?_ GE416.out) | exact HB.out))) : w.heap.size ≤ gb417)); have n6_ := Aside0.mk ((by rw [hg]; exact Nat.ne_of_lt (blk_lt (g := gb415) (o := .cells #[.int .i64 a0_0, .int .i64 a0_1] 28 (0, 0)) (by (with_reducible repeat (first | refine bkN ?_ _ | refine bkD ?_ | refine bkA ?_ _)); exact BK415.out)) : gb415 ≠ gb417)); have n7_ := Aside0.mk ((by rw [hg]; exact Nat.ne_of_gt (blk_lt (g := gb415) (o := .cells #[.int .i64 a0_0, .int .i64 a0_1] 28 (0, 0)) (by (with_reducible repeat (first | refine bkN ?_ _ | refine bkD ?_ | refine bkA ?_ _)); exact BK415.out)) : gb417 ≠ gb415)); have n8_ := Aside0.mk ((by rw [hg]; exact Nat.ne_of_lt (blk_lt (g := gb416) (o := .cells #[.int .i64 a1_0, .int .i64 a1_1] 28 (0, 0)) (by (with_reducible repeat (first | refine bkN ?_ _ | refine bkD ?_ | refine bkA ?_ _)); exact BK416.out)) : gb416 ≠ gb417)); have n9_ := Aside0.mk ((by rw [hg]; exact Nat.ne_of_gt (blk_lt (g := gb416) (o := .cells #[.int .i64 a1_0, .int .i64 a1_1] 28 (0, 0)) (by (with_reducible repeat (first | refine bkN ?_ _ | refine bkD ?_ | refine bkA ?_ _)); exact BK416.out)) : gb417 ≠ gb416)); clear BK415; clear BK416; clear HB; have BK415 := n0_; have BK416 := n1_; have HB := n2_; have BK417 := n3_; have GW417 := n4_; have GE417 := n5_; have NB415_417 := n6_; have NB417_415 := n7_; have NB416_417 := n8_; have NB417_416 := n9_; clear n0_ n1_ n2_ n3_ n4_ n5_ n6_ n7_ n8_ n9_; clear hb hbox hg) | ((with_reducible refine gate_callee (f := 11) rfl ?_); refine goesL_ (some 13) rfl rfl Try.func11 (by kernel_rfl) rfl #[] rfl (by (try simp only [List.map_toArray, List.map_cons, List.map_nil]); first | done | rfl | (simp only [List.length_drop, List.length_take]; rfl)) ?_; (with_reducible refine (hopmeshlaw05_awake.calls  true _ A4.out).mono ?_); rintro e w9 ⟨rfl, hb⟩; refine ⟨_, rfl, ?_⟩; have n0_ := Aside0.mk (bkB (g := gb415) (o := .cells #[.int .i64 a0_0, .int .i64 a0_1] 28 (0, 0)) (by (with_reducible repeat (first | refine bkN ?_ _ | refine bkD ?_ | refine bkA ?_ _)); exact BK415.out) hb); have n1_ := Aside0.mk (bkB (g := gb416) (o := .cells #[.int .i64 a1_0, .int .i64 a1_1] 28 (0, 0)) (by (with_reducible repeat (first | refine bkN ?_ _ | refine bkD ?_ | refine bkA ?_ _)); exact BK416.out) hb); have n2_ := Aside0.mk (bkB (g := gb417) (o := .cells #[.int .i64 a2_0, .int .i64 a2_1, .int .i64 a2_2, .int .i64 a2_3, .int .i64 a2_4] 47 (0, 0)) (by (with_reducible repeat (first | refine bkN ?_ _ | refine bkD ?_ | refine bkA ?_ _)); exact BK417.out) hb); have n3_ := Aside0.mk (below_step (by repeat (first | (with_reducible first | exact HB.out | apply blA | apply blN | apply blD | refine blS ?_ GE415.out | refine blS ?_ GE416.out | refine blS ?_ GE417.out) | exact HB.out)) hb); clear BK415; clear BK416; clear BK417; clear HB; have BK415 := n0_; have BK416 := n1_; have BK417 := n2_; have HB := n3_; clear n0_ n1_ n2_ n3_; (try clear hb); (try clear hb2); (try clear hk); (try clear hi); have hnb10 := NB415_416.out; have hnc10 := NB416_415.out; have hnb11 := NB415_417.out; have hnc11 := NB417_415.out; have hcz12_0 : w9.cell? ⟨gb415, 0, none⟩ = some (.int .i64 a0_0) := (bkC BK415.out 0).trans rfl; have hcz12_1 : w9.cell? ⟨gb415, 1, none⟩ = some (.int .i64 a0_1) := (bkC BK415.out 1).trans rfl; have hfz12_0 := bkF BK415.out 0; have hfz12_1 := bkF BK415.out 1; have hnb13 := NB416_417.out; have hnc13 := NB417_416.out; have hcz14_0 : w9.cell? ⟨gb416, 0, none⟩ = some (.int .i64 a1_0) := (bkC BK416.out 0).trans rfl; have hcz14_1 : w9.cell? ⟨gb416, 1, none⟩ = some (.int .i64 a1_1) := (bkC BK416.out 1).trans rfl; have hfz14_0 := bkF BK416.out 0; have hfz14_1 := bkF BK416.out 1; have hcz15_0 : w9.cell? ⟨gb417, 0, none⟩ = some (.int .i64 a2_0) := (bkC BK417.out 0).trans rfl; have hcz15_1 : w9.cell? ⟨gb417, 1, none⟩ = some (.int .i64 a2_1) := (bkC BK417.out 1).trans rfl; have hcz15_2 : w9.cell? ⟨gb417, 2, none⟩ = some (.int .i64 a2_2) := (bkC BK417.out 2).trans rfl; have hcz15_3 : w9.cell? ⟨gb417, 3, none⟩ = some (.int .i64 a2_3) := (bkC BK417.out 3).trans rfl; have hcz15_4 : w9.cell? ⟨gb417, 4, none⟩ = some (.int .i64 a2_4) := (bkC BK417.out 4).trans rfl; have hfz15_0 := bkF BK417.out 0; have hfz15_1 := bkF BK417.out 1; have hfz15_2 := bkF BK417.out 2; have hfz15_3 := bkF BK417.out 3; have hfz15_4 := bkF BK417.out 4) | ((with_reducible refine gate_dst (N := 21) rfl ?_); refine Kd.R_lit k28 _ 28 ?hg (N := 21) ?hd (xs := ([(⟨a0_0, a0_1⟩ : S28), (⟨a1_0, a1_1⟩ : S28), (⟨a2_0, a2_1⟩ : S28), (⟨a2_2, a2_3⟩ : S28)] : List (S28))) (inner := [.int .i64 a0_0, .int .i64 a0_1, .int .i64 a1_0, .int .i64 a1_1, .int .i64 a2_0, .int .i64 a2_1, .int .i64 a2_2, .int .i64 a2_3]) (ok := fun _ => True) (okp := fun _ => True) ?hr ?hp (fun _ hk => hk) trivial (Below.refl _ _) (Nat.le_refl _) (by simp) ?_; (case hd => rfl); (case hg => rfl); (case hr => first | (go_simp; done) | (go_simp; rfl)); (case hp => exact (Reps.c2 (show Kd.M k28 _ _ _ (⟨a0_0, a0_1⟩ : S28) [.int .i64 a0_0, .int .i64 a0_1] from (k28_mkM _ _ _ (⟨a0_0, a0_1⟩ : S28) )) (Reps.c2 (show Kd.M k28 _ _ _ (⟨a1_0, a1_1⟩ : S28) [.int .i64 a1_0, .int .i64 a1_1] from (k28_mkM _ _ _ (⟨a1_0, a1_1⟩ : S28) )) (Reps.c2 (show Kd.M k28 _ _ _ (⟨a2_0, a2_1⟩ : S28) [.int .i64 a2_0, .int .i64 a2_1] from (k28_mkM _ _ _ (⟨a2_0, a2_1⟩ : S28) )) (Reps.c2 (show Kd.M k28 _ _ _ (⟨a2_2, a2_3⟩ : S28) [.int .i64 a2_2, .int .i64 a2_3] from (k28_mkM _ _ _ (⟨a2_2, a2_3⟩ : S28) )) (Reps.none _ _)))))); intro v420 w16 ho17 hb hg_ hnew_; clear hg_ hnew_; (first | rw [← Ny419.out] at ho17 | (simp only [Int.reduceToNat] at ho17; rw [← Ny419.out] at ho17)); have n0_ := Aside0.mk (Kd.R_lower (Kd.R_newB (Kd.R_newB ho17 (g := gb415) (o := .cells #[.int .i64 a0_0, .int .i64 a0_1] 28 (0, 0)) (by (with_reducible repeat (first | refine bkN ?_ _ | refine bkD ?_ | refine bkA ?_ _)); exact BK415.out)) (g := gb416) (o := .cells #[.int .i64 a1_0, .int .i64 a1_1] 28 (0, 0)) (by (with_reducible repeat (first | refine bkN ?_ _ | refine bkD ?_ | refine bkA ?_ _)); exact BK416.out)) (below_size (by repeat (first | (with_reducible first | exact HB.out | apply blA | apply blN | apply blD | refine blS ?_ GE415.out | refine blS ?_ GE416.out | refine blS ?_ GE417.out) | exact HB.out)))); have n1_ := Aside0.mk (bkB (g := gb415) (o := .cells #[.int .i64 a0_0, .int .i64 a0_1] 28 (0, 0)) (by (with_reducible repeat (first | refine bkN ?_ _ | refine bkD ?_ | refine bkA ?_ _)); exact BK415.out) hb); have n2_ := Aside0.mk (bkB (g := gb416) (o := .cells #[.int .i64 a1_0, .int .i64 a1_1] 28 (0, 0)) (by (with_reducible repeat (first | refine bkN ?_ _ | refine bkD ?_ | refine bkA ?_ _)); exact BK416.out) hb); have n3_ := Aside0.mk (bkB (g := gb417) (o := .cells #[.int .i64 a2_0, .int .i64 a2_1, .int .i64 a2_2, .int .i64 a2_3, .int .i64 a2_4] 47 (0, 0)) (by (with_reducible repeat (first | refine bkN ?_ _ | refine bkD ?_ | refine bkA ?_ _)); exact BK417.out) hb); have n4_ := Aside0.mk (below_step (by repeat (first | (with_reducible first | exact HB.out | apply blA | apply blN | apply blD | refine blS ?_ GE415.out | refine blS ?_ GE416.out | refine blS ?_ GE417.out) | exact HB.out)) hb); clear BK415; clear BK416; clear BK417; clear HB; have HO421 := n0_; have BK415 := n1_; have BK416 := n2_; have BK417 := n3_; have HB := n4_; clear n0_ n1_ n2_ n3_ n4_; clear hb ho17; obtain ⟨Ao18, co18, eo18⟩ := Kd.R_slice HO421.out; subst eo18))
  go_loopg [23] k (fun kq v23 w' => ∃ (x23_1 : Int), v23 = .int .i64 x23_1 ∧ Aside0 (hopmeshlaw05_GeometryCrossings.l0 kq y419 (y419.length : Int) x23_1 a0_0 a0_1 a1_0 a1_1 a2_0 a2_1 a2_2 a2_3 a2_4 = some r) ∧ Aside0 (kq ≤ k) ∧ Aside0 (Kd.R k28 28 w' w.heap.size (fun k_ => k_ ≠ gb415 ∧ k_ ≠ gb416) (.slice Ao18 y419.length co18) y419) ∧ Aside0 (w'.heap[gb415]? = some (.cells #[.int .i64 a0_0, .int .i64 a0_1] 28 (0, 0))) ∧ Aside0 (w'.heap[gb416]? = some (.cells #[.int .i64 a1_0, .int .i64 a1_1] 28 (0, 0))) ∧ Aside0 (w'.heap[gb417]? = some (.cells #[.int .i64 a2_0, .int .i64 a2_1, .int .i64 a2_2, .int .i64 a2_3, .int .i64 a2_4] 47 (0, 0))) ∧ Aside0 (Below w.heap.size w w'))
  case atStart => exact ⟨(0), (by first | rfl | (simp; done) | (simp [*]; done)), H', ⟨Nat.le_refl _⟩, ⟨by (with_reducible repeat (first | apply Kd.R_alloc | apply Kd.R_drewN | apply Kd.R_drew)); exact Kd.R_mono HO421.out (fun _ hk => ⟨hk.1.2, hk.2⟩)⟩, ⟨by (with_reducible repeat (first | refine bkN ?_ _ | refine bkD ?_ | refine bkA ?_ _)); exact BK415.out⟩, ⟨by (with_reducible repeat (first | refine bkN ?_ _ | refine bkD ?_ | refine bkA ?_ _)); exact BK416.out⟩, ⟨by (with_reducible repeat (first | refine bkN ?_ _ | refine bkD ?_ | refine bkA ?_ _)); exact BK417.out⟩, ⟨by repeat (first | (with_reducible first | exact HB.out | apply blA | apply blN | apply blD | refine blS ?_ GE415.out | refine blS ?_ GE416.out | refine blS ?_ GE417.out) | exact HB.out)⟩⟩
  case round => as_aux_lemma =>
   clear H'
   try clear c1
   try clear c2
   try clear p2
   try clear c5
   try clear c7
   try clear c10
   try clear c11
   try clear c13
   try clear hcz12_0
   try clear hcz12_1
   try clear hcz14_0
   try clear hcz14_1
   try clear hcz15_0
   try clear hcz15_1
   try clear hcz15_2
   try clear hcz15_3
   try clear hcz15_4
   try clear hfz12_0
   try clear hfz12_1
   try clear hfz14_0
   try clear hfz14_1
   try clear hfz15_0
   try clear hfz15_1
   try clear hfz15_2
   try clear hfz15_3
   try clear hfz15_4
   obtain ⟨x23_1, rfl, HA, HK1, HO_21, BK415, BK416, BK417, HB⟩ := hrel
   cases gk with
   | zero => exact absurd HA.out (by simp [hopmeshlaw05_GeometryCrossings.l0])
   | succ k1 =>
    have H := HA.out
    clear HA
    simp only [hopmeshlaw05_GeometryCrossings.l0] at H
    by_cases c19 : x23_1 < (y419.length : Int)
    ·rw [if_pos c19] at H
     have c19b0 : decide (x23_1 < (y419.length : Int)) = true := decide_eq_true c19
     clear c19
     by_cases c20 : 0 ≤ x23_1
     rotate_left
     ·rw [if_neg c20] at H
      exact absurd H (by simp)
     as_aux_lemma =>
      rw [if_pos c20] at H
      have c20b0 : decide (0 ≤ x23_1) = true := decide_eq_true c20
      clear c20
      by_cases c21 : x23_1 < (y419.length : Int)
      rotate_left
      ·rw [if_neg c21] at H
       exact absurd H (by simp)
      rw [if_pos c21] at H
      have c21b0 : decide (x23_1 < (y419.length : Int)) = true := decide_eq_true c21
      clear c21
      by_cases c22 : ((rd_T28 y419 x23_1).f0) < 0
      ·rw [if_pos c22] at H
       have c22b0 : decide (((rd_T28 y419 x23_1).f0) < 0) = true := decide_eq_true c22
       clear c22
       obtain rfl := Option.some.inj H
       have p422 : 0 ≤ (x23_1 : Int) := of_decide_eq_true (by first | (with_reducible assumption) | assumption)
       have q422 : x23_1 < (y419.length : Int) := of_decide_eq_true (by first | (with_reducible assumption) | assumption)
       obtain ⟨ad422, e422, hx422_0, hx422_1⟩ := at_T28 (Kd.R_reads' HO_21.out).2.2 x23_1 p422 q422
       cases e422
       replace p422 := eq_true p422
       replace q422 := eq_true q422
       go_wp2_with (first | ((with_reducible refine gate_dst (N := 8) rfl ?_); refine box_event ?hg (N := 8) ?hd (cs := #[.int .i64 0, .int .i64 0]) (t := 28) ?hr ?_; (case hd => rfl); (case hg => rfl); (case hr => first | (go_simp; done) | (go_simp; rfl)); intro gb423 hg w23 hbox hb; have n0_ := Aside0.mk (Kd.R_below (Kd.R_elderB (by (with_reducible repeat (first | apply Kd.R_alloc | apply Kd.R_drewN | apply Kd.R_drew)); exact HO_21.out) gb423 (Nat.le_of_eq hg.symm)) hb); have n1_ := Aside0.mk (bkB (g := gb415) (o := .cells #[.int .i64 a0_0, .int .i64 a0_1] 28 (0, 0)) (by (with_reducible repeat (first | refine bkN ?_ _ | refine bkD ?_ | refine bkA ?_ _)); exact BK415.out) hb); have n2_ := Aside0.mk (bkB (g := gb416) (o := .cells #[.int .i64 a1_0, .int .i64 a1_1] 28 (0, 0)) (by (with_reducible repeat (first | refine bkN ?_ _ | refine bkD ?_ | refine bkA ?_ _)); exact BK416.out) hb); have n3_ := Aside0.mk (bkB (g := gb417) (o := .cells #[.int .i64 a2_0, .int .i64 a2_1, .int .i64 a2_2, .int .i64 a2_3, .int .i64 a2_4] 47 (0, 0)) (by (with_reducible repeat (first | refine bkN ?_ _ | refine bkD ?_ | refine bkA ?_ _)); exact BK417.out) hb); have n4_ := Aside0.mk (below_step (by repeat (first | (with_reducible first | exact HB.out | apply blA | apply blN | apply blD | refine blS ?_ GE415.out | refine blS ?_ GE416.out | refine blS ?_ GE417.out) | exact HB.out)) hb); have n5_ := Aside0.mk (hbox); have n6_ := Aside0.mk ((by rw [hg]; exact (below_size (by repeat (first | (with_reducible first | exact HB.out | apply blA | apply blN | apply blD | refine blS ?_ GE415.out | refine blS ?_ GE416.out | refine blS ?_ GE417.out) | exact HB.out))) : w.heap.size ≤ gb423)); have n7_ := Aside0.mk ((by rw [hg]; exact (below_size (by repeat (first | (with_reducible first | exact HB.out | apply blA | apply blN | apply blD | refine blS ?_ GE415.out | refine blS ?_ GE416.out | refine blS ?_ GE417.out) | exact HB.out))) : w.heap.size ≤ gb423)); have n8_ := Aside0.mk ((by rw [hg]; exact Nat.ne_of_lt (blk_lt (g := gb415) (o := .cells #[.int .i64 a0_0, .int .i64 a0_1] 28 (0, 0)) (by (with_reducible repeat (first | refine bkN ?_ _ | refine bkD ?_ | refine bkA ?_ _)); exact BK415.out)) : gb415 ≠ gb423)); have n9_ := Aside0.mk ((by rw [hg]; exact Nat.ne_of_gt (blk_lt (g := gb415) (o := .cells #[.int .i64 a0_0, .int .i64 a0_1] 28 (0, 0)) (by (with_reducible repeat (first | refine bkN ?_ _ | refine bkD ?_ | refine bkA ?_ _)); exact BK415.out)) : gb423 ≠ gb415)); have n10_ := Aside0.mk ((by rw [hg]; exact Nat.ne_of_lt (blk_lt (g := gb416) (o := .cells #[.int .i64 a1_0, .int .i64 a1_1] 28 (0, 0)) (by (with_reducible repeat (first | refine bkN ?_ _ | refine bkD ?_ | refine bkA ?_ _)); exact BK416.out)) : gb416 ≠ gb423)); have n11_ := Aside0.mk ((by rw [hg]; exact Nat.ne_of_gt (blk_lt (g := gb416) (o := .cells #[.int .i64 a1_0, .int .i64 a1_1] 28 (0, 0)) (by (with_reducible repeat (first | refine bkN ?_ _ | refine bkD ?_ | refine bkA ?_ _)); exact BK416.out)) : gb423 ≠ gb416)); have n12_ := Aside0.mk ((by rw [hg]; exact Nat.ne_of_lt (blk_lt (g := gb417) (o := .cells #[.int .i64 a2_0, .int .i64 a2_1, .int .i64 a2_2, .int .i64 a2_3, .int .i64 a2_4] 47 (0, 0)) (by (with_reducible repeat (first | refine bkN ?_ _ | refine bkD ?_ | refine bkA ?_ _)); exact BK417.out)) : gb417 ≠ gb423)); have n13_ := Aside0.mk ((by rw [hg]; exact Nat.ne_of_gt (blk_lt (g := gb417) (o := .cells #[.int .i64 a2_0, .int .i64 a2_1, .int .i64 a2_2, .int .i64 a2_3, .int .i64 a2_4] 47 (0, 0)) (by (with_reducible repeat (first | refine bkN ?_ _ | refine bkD ?_ | refine bkA ?_ _)); exact BK417.out)) : gb423 ≠ gb417)); clear HO_21; clear BK415; clear BK416; clear BK417; clear HB; have HO_21 := n0_; have BK415 := n1_; have BK416 := n2_; have BK417 := n3_; have HB := n4_; have BK423 := n5_; have GW423 := n6_; have GE423 := n7_; have NB415_423 := n8_; have NB423_415 := n9_; have NB416_423 := n10_; have NB423_416 := n11_; have NB417_423 := n12_; have NB423_417 := n13_; clear n0_ n1_ n2_ n3_ n4_ n5_ n6_ n7_ n8_ n9_ n10_ n11_ n12_ n13_; clear hb hbox hg; have hnb24 := NB423_415.out; have hnc24 := NB415_423.out; have hnb25 := NB423_416.out; have hnc25 := NB416_423.out; have hnb26 := NB423_417.out; have hnc26 := NB417_423.out; have hcz27_0 : w23.cell? ⟨gb423, 0, none⟩ = some (.int .i64 0) := (bkC BK423.out 0).trans rfl; have hcz27_1 : w23.cell? ⟨gb423, 1, none⟩ = some (.int .i64 0) := (bkC BK423.out 1).trans rfl; have hfz27_0 := bkF BK423.out 0; have hfz27_1 := bkF BK423.out 1))
       go_ret
       exact ⟨by first | rfl | (simp [errW_none, errW_some] <;> rfl) | (simp [*, errW_none, errW_some] <;> rfl), by repeat (first | (with_reducible first | exact HB.out | apply blA | apply blN | apply blD | refine blS ?_ GE415.out | refine blS ?_ GE416.out | refine blS ?_ GE417.out | refine blS ?_ GE423.out) | exact HB.out)⟩
      rw [if_neg c22] at H
      have c22b0 : decide (((rd_T28 y419 x23_1).f0) < 0) = false := decide_eq_false c22
      clear c22
      by_cases c28 : ((rd_T28 y419 x23_1).f0) > 10000
      ·rw [if_pos c28] at H
       have c28b0 : decide (10000 < ((rd_T28 y419 x23_1).f0)) = true := decide_eq_true c28
       clear c28
       obtain rfl := Option.some.inj H
       have p422 : 0 ≤ (x23_1 : Int) := of_decide_eq_true (by first | (with_reducible assumption) | assumption)
       have q422 : x23_1 < (y419.length : Int) := of_decide_eq_true (by first | (with_reducible assumption) | assumption)
       obtain ⟨ad422, e422, hx422_0, hx422_1⟩ := at_T28 (Kd.R_reads' HO_21.out).2.2 x23_1 p422 q422
       cases e422
       replace p422 := eq_true p422
       replace q422 := eq_true q422
       go_wp2_with (first | ((with_reducible refine gate_dst (N := 8) rfl ?_); refine box_event ?hg (N := 8) ?hd (cs := #[.int .i64 0, .int .i64 0]) (t := 28) ?hr ?_; (case hd => rfl); (case hg => rfl); (case hr => first | (go_simp; done) | (go_simp; rfl)); intro gb423 hg w29 hbox hb; have n0_ := Aside0.mk (Kd.R_below (Kd.R_elderB (by (with_reducible repeat (first | apply Kd.R_alloc | apply Kd.R_drewN | apply Kd.R_drew)); exact HO_21.out) gb423 (Nat.le_of_eq hg.symm)) hb); have n1_ := Aside0.mk (bkB (g := gb415) (o := .cells #[.int .i64 a0_0, .int .i64 a0_1] 28 (0, 0)) (by (with_reducible repeat (first | refine bkN ?_ _ | refine bkD ?_ | refine bkA ?_ _)); exact BK415.out) hb); have n2_ := Aside0.mk (bkB (g := gb416) (o := .cells #[.int .i64 a1_0, .int .i64 a1_1] 28 (0, 0)) (by (with_reducible repeat (first | refine bkN ?_ _ | refine bkD ?_ | refine bkA ?_ _)); exact BK416.out) hb); have n3_ := Aside0.mk (bkB (g := gb417) (o := .cells #[.int .i64 a2_0, .int .i64 a2_1, .int .i64 a2_2, .int .i64 a2_3, .int .i64 a2_4] 47 (0, 0)) (by (with_reducible repeat (first | refine bkN ?_ _ | refine bkD ?_ | refine bkA ?_ _)); exact BK417.out) hb); have n4_ := Aside0.mk (below_step (by repeat (first | (with_reducible first | exact HB.out | apply blA | apply blN | apply blD | refine blS ?_ GE415.out | refine blS ?_ GE416.out | refine blS ?_ GE417.out) | exact HB.out)) hb); have n5_ := Aside0.mk (hbox); have n6_ := Aside0.mk ((by rw [hg]; exact (below_size (by repeat (first | (with_reducible first | exact HB.out | apply blA | apply blN | apply blD | refine blS ?_ GE415.out | refine blS ?_ GE416.out | refine blS ?_ GE417.out) | exact HB.out))) : w.heap.size ≤ gb423)); have n7_ := Aside0.mk ((by rw [hg]; exact (below_size (by repeat (first | (with_reducible first | exact HB.out | apply blA | apply blN | apply blD | refine blS ?_ GE415.out | refine blS ?_ GE416.out | refine blS ?_ GE417.out) | exact HB.out))) : w.heap.size ≤ gb423)); have n8_ := Aside0.mk ((by rw [hg]; exact Nat.ne_of_lt (blk_lt (g := gb415) (o := .cells #[.int .i64 a0_0, .int .i64 a0_1] 28 (0, 0)) (by (with_reducible repeat (first | refine bkN ?_ _ | refine bkD ?_ | refine bkA ?_ _)); exact BK415.out)) : gb415 ≠ gb423)); have n9_ := Aside0.mk ((by rw [hg]; exact Nat.ne_of_gt (blk_lt (g := gb415) (o := .cells #[.int .i64 a0_0, .int .i64 a0_1] 28 (0, 0)) (by (with_reducible repeat (first | refine bkN ?_ _ | refine bkD ?_ | refine bkA ?_ _)); exact BK415.out)) : gb423 ≠ gb415)); have n10_ := Aside0.mk ((by rw [hg]; exact Nat.ne_of_lt (blk_lt (g := gb416) (o := .cells #[.int .i64 a1_0, .int .i64 a1_1] 28 (0, 0)) (by (with_reducible repeat (first | refine bkN ?_ _ | refine bkD ?_ | refine bkA ?_ _)); exact BK416.out)) : gb416 ≠ gb423)); have n11_ := Aside0.mk ((by rw [hg]; exact Nat.ne_of_gt (blk_lt (g := gb416) (o := .cells #[.int .i64 a1_0, .int .i64 a1_1] 28 (0, 0)) (by (with_reducible repeat (first | refine bkN ?_ _ | refine bkD ?_ | refine bkA ?_ _)); exact BK416.out)) : gb423 ≠ gb416)); have n12_ := Aside0.mk ((by rw [hg]; exact Nat.ne_of_lt (blk_lt (g := gb417) (o := .cells #[.int .i64 a2_0, .int .i64 a2_1, .int .i64 a2_2, .int .i64 a2_3, .int .i64 a2_4] 47 (0, 0)) (by (with_reducible repeat (first | refine bkN ?_ _ | refine bkD ?_ | refine bkA ?_ _)); exact BK417.out)) : gb417 ≠ gb423)); have n13_ := Aside0.mk ((by rw [hg]; exact Nat.ne_of_gt (blk_lt (g := gb417) (o := .cells #[.int .i64 a2_0, .int .i64 a2_1, .int .i64 a2_2, .int .i64 a2_3, .int .i64 a2_4] 47 (0, 0)) (by (with_reducible repeat (first | refine bkN ?_ _ | refine bkD ?_ | refine bkA ?_ _)); exact BK417.out)) : gb423 ≠ gb417)); clear HO_21; clear BK415; clear BK416; clear BK417; clear HB; have HO_21 := n0_; have BK415 := n1_; have BK416 := n2_; have BK417 := n3_; have HB := n4_; have BK423 := n5_; have GW423 := n6_; have GE423 := n7_; have NB415_423 := n8_; have NB423_415 := n9_; have NB416_423 := n10_; have NB423_416 := n11_; have NB417_423 := n12_; have NB423_417 := n13_; clear n0_ n1_ n2_ n3_ n4_ n5_ n6_ n7_ n8_ n9_ n10_ n11_ n12_ n13_; clear hb hbox hg; have hnb30 := NB423_415.out; have hnc30 := NB415_423.out; have hnb31 := NB423_416.out; have hnc31 := NB416_423.out; have hnb32 := NB423_417.out; have hnc32 := NB417_423.out; have hcz33_0 : w29.cell? ⟨gb423, 0, none⟩ = some (.int .i64 0) := (bkC BK423.out 0).trans rfl; have hcz33_1 : w29.cell? ⟨gb423, 1, none⟩ = some (.int .i64 0) := (bkC BK423.out 1).trans rfl; have hfz33_0 := bkF BK423.out 0; have hfz33_1 := bkF BK423.out 1))
       go_ret
       exact ⟨by first | rfl | (simp [errW_none, errW_some] <;> rfl) | (simp [*, errW_none, errW_some] <;> rfl), by repeat (first | (with_reducible first | exact HB.out | apply blA | apply blN | apply blD | refine blS ?_ GE415.out | refine blS ?_ GE416.out | refine blS ?_ GE417.out | refine blS ?_ GE423.out) | exact HB.out)⟩
      rw [if_neg c28] at H
      have c28b0 : decide (10000 < ((rd_T28 y419 x23_1).f0)) = false := decide_eq_false c28
      clear c28
      by_cases c34 : ((rd_T28 y419 x23_1).f1) < 0
      ·rw [if_pos c34] at H
       have c34b0 : decide (((rd_T28 y419 x23_1).f1) < 0) = true := decide_eq_true c34
       clear c34
       obtain rfl := Option.some.inj H
       have p422 : 0 ≤ (x23_1 : Int) := of_decide_eq_true (by first | (with_reducible assumption) | assumption)
       have q422 : x23_1 < (y419.length : Int) := of_decide_eq_true (by first | (with_reducible assumption) | assumption)
       obtain ⟨ad422, e422, hx422_0, hx422_1⟩ := at_T28 (Kd.R_reads' HO_21.out).2.2 x23_1 p422 q422
       cases e422
       replace p422 := eq_true p422
       replace q422 := eq_true q422
       go_wp2_with (first | ((with_reducible refine gate_dst (N := 8) rfl ?_); refine box_event ?hg (N := 8) ?hd (cs := #[.int .i64 0, .int .i64 0]) (t := 28) ?hr ?_; (case hd => rfl); (case hg => rfl); (case hr => first | (go_simp; done) | (go_simp; rfl)); intro gb423 hg w35 hbox hb; have n0_ := Aside0.mk (Kd.R_below (Kd.R_elderB (by (with_reducible repeat (first | apply Kd.R_alloc | apply Kd.R_drewN | apply Kd.R_drew)); exact HO_21.out) gb423 (Nat.le_of_eq hg.symm)) hb); have n1_ := Aside0.mk (bkB (g := gb415) (o := .cells #[.int .i64 a0_0, .int .i64 a0_1] 28 (0, 0)) (by (with_reducible repeat (first | refine bkN ?_ _ | refine bkD ?_ | refine bkA ?_ _)); exact BK415.out) hb); have n2_ := Aside0.mk (bkB (g := gb416) (o := .cells #[.int .i64 a1_0, .int .i64 a1_1] 28 (0, 0)) (by (with_reducible repeat (first | refine bkN ?_ _ | refine bkD ?_ | refine bkA ?_ _)); exact BK416.out) hb); have n3_ := Aside0.mk (bkB (g := gb417) (o := .cells #[.int .i64 a2_0, .int .i64 a2_1, .int .i64 a2_2, .int .i64 a2_3, .int .i64 a2_4] 47 (0, 0)) (by (with_reducible repeat (first | refine bkN ?_ _ | refine bkD ?_ | refine bkA ?_ _)); exact BK417.out) hb); have n4_ := Aside0.mk (below_step (by repeat (first | (with_reducible first | exact HB.out | apply blA | apply blN | apply blD | refine blS ?_ GE415.out | refine blS ?_ GE416.out | refine blS ?_ GE417.out) | exact HB.out)) hb); have n5_ := Aside0.mk (hbox); have n6_ := Aside0.mk ((by rw [hg]; exact (below_size (by repeat (first | (with_reducible first | exact HB.out | apply blA | apply blN | apply blD | refine blS ?_ GE415.out | refine blS ?_ GE416.out | refine blS ?_ GE417.out) | exact HB.out))) : w.heap.size ≤ gb423)); have n7_ := Aside0.mk ((by rw [hg]; exact (below_size (by repeat (first | (with_reducible first | exact HB.out | apply blA | apply blN | apply blD | refine blS ?_ GE415.out | refine blS ?_ GE416.out | refine blS ?_ GE417.out) | exact HB.out))) : w.heap.size ≤ gb423)); have n8_ := Aside0.mk ((by rw [hg]; exact Nat.ne_of_lt (blk_lt (g := gb415) (o := .cells #[.int .i64 a0_0, .int .i64 a0_1] 28 (0, 0)) (by (with_reducible repeat (first | refine bkN ?_ _ | refine bkD ?_ | refine bkA ?_ _)); exact BK415.out)) : gb415 ≠ gb423)); have n9_ := Aside0.mk ((by rw [hg]; exact Nat.ne_of_gt (blk_lt (g := gb415) (o := .cells #[.int .i64 a0_0, .int .i64 a0_1] 28 (0, 0)) (by (with_reducible repeat (first | refine bkN ?_ _ | refine bkD ?_ | refine bkA ?_ _)); exact BK415.out)) : gb423 ≠ gb415)); have n10_ := Aside0.mk ((by rw [hg]; exact Nat.ne_of_lt (blk_lt (g := gb416) (o := .cells #[.int .i64 a1_0, .int .i64 a1_1] 28 (0, 0)) (by (with_reducible repeat (first | refine bkN ?_ _ | refine bkD ?_ | refine bkA ?_ _)); exact BK416.out)) : gb416 ≠ gb423)); have n11_ := Aside0.mk ((by rw [hg]; exact Nat.ne_of_gt (blk_lt (g := gb416) (o := .cells #[.int .i64 a1_0, .int .i64 a1_1] 28 (0, 0)) (by (with_reducible repeat (first | refine bkN ?_ _ | refine bkD ?_ | refine bkA ?_ _)); exact BK416.out)) : gb423 ≠ gb416)); have n12_ := Aside0.mk ((by rw [hg]; exact Nat.ne_of_lt (blk_lt (g := gb417) (o := .cells #[.int .i64 a2_0, .int .i64 a2_1, .int .i64 a2_2, .int .i64 a2_3, .int .i64 a2_4] 47 (0, 0)) (by (with_reducible repeat (first | refine bkN ?_ _ | refine bkD ?_ | refine bkA ?_ _)); exact BK417.out)) : gb417 ≠ gb423)); have n13_ := Aside0.mk ((by rw [hg]; exact Nat.ne_of_gt (blk_lt (g := gb417) (o := .cells #[.int .i64 a2_0, .int .i64 a2_1, .int .i64 a2_2, .int .i64 a2_3, .int .i64 a2_4] 47 (0, 0)) (by (with_reducible repeat (first | refine bkN ?_ _ | refine bkD ?_ | refine bkA ?_ _)); exact BK417.out)) : gb423 ≠ gb417)); clear HO_21; clear BK415; clear BK416; clear BK417; clear HB; have HO_21 := n0_; have BK415 := n1_; have BK416 := n2_; have BK417 := n3_; have HB := n4_; have BK423 := n5_; have GW423 := n6_; have GE423 := n7_; have NB415_423 := n8_; have NB423_415 := n9_; have NB416_423 := n10_; have NB423_416 := n11_; have NB417_423 := n12_; have NB423_417 := n13_; clear n0_ n1_ n2_ n3_ n4_ n5_ n6_ n7_ n8_ n9_ n10_ n11_ n12_ n13_; clear hb hbox hg; have hnb36 := NB423_415.out; have hnc36 := NB415_423.out; have hnb37 := NB423_416.out; have hnc37 := NB416_423.out; have hnb38 := NB423_417.out; have hnc38 := NB417_423.out; have hcz39_0 : w35.cell? ⟨gb423, 0, none⟩ = some (.int .i64 0) := (bkC BK423.out 0).trans rfl; have hcz39_1 : w35.cell? ⟨gb423, 1, none⟩ = some (.int .i64 0) := (bkC BK423.out 1).trans rfl; have hfz39_0 := bkF BK423.out 0; have hfz39_1 := bkF BK423.out 1))
       go_ret
       exact ⟨by first | rfl | (simp [errW_none, errW_some] <;> rfl) | (simp [*, errW_none, errW_some] <;> rfl), by repeat (first | (with_reducible first | exact HB.out | apply blA | apply blN | apply blD | refine blS ?_ GE415.out | refine blS ?_ GE416.out | refine blS ?_ GE417.out | refine blS ?_ GE423.out) | exact HB.out)⟩
      rw [if_neg c34] at H
      have c34b0 : decide (((rd_T28 y419 x23_1).f1) < 0) = false := decide_eq_false c34
      clear c34
      by_cases c40 : ((rd_T28 y419 x23_1).f1) > 10000
      ·rw [if_pos c40] at H
       have c40b0 : decide (10000 < ((rd_T28 y419 x23_1).f1)) = true := decide_eq_true c40
       clear c40
       obtain rfl := Option.some.inj H
       have p422 : 0 ≤ (x23_1 : Int) := of_decide_eq_true (by first | (with_reducible assumption) | assumption)
       have q422 : x23_1 < (y419.length : Int) := of_decide_eq_true (by first | (with_reducible assumption) | assumption)
       obtain ⟨ad422, e422, hx422_0, hx422_1⟩ := at_T28 (Kd.R_reads' HO_21.out).2.2 x23_1 p422 q422
       cases e422
       replace p422 := eq_true p422
       replace q422 := eq_true q422
       go_wp2_with (first | ((with_reducible refine gate_dst (N := 8) rfl ?_); refine box_event ?hg (N := 8) ?hd (cs := #[.int .i64 0, .int .i64 0]) (t := 28) ?hr ?_; (case hd => rfl); (case hg => rfl); (case hr => first | (go_simp; done) | (go_simp; rfl)); intro gb423 hg w41 hbox hb; have n0_ := Aside0.mk (Kd.R_below (Kd.R_elderB (by (with_reducible repeat (first | apply Kd.R_alloc | apply Kd.R_drewN | apply Kd.R_drew)); exact HO_21.out) gb423 (Nat.le_of_eq hg.symm)) hb); have n1_ := Aside0.mk (bkB (g := gb415) (o := .cells #[.int .i64 a0_0, .int .i64 a0_1] 28 (0, 0)) (by (with_reducible repeat (first | refine bkN ?_ _ | refine bkD ?_ | refine bkA ?_ _)); exact BK415.out) hb); have n2_ := Aside0.mk (bkB (g := gb416) (o := .cells #[.int .i64 a1_0, .int .i64 a1_1] 28 (0, 0)) (by (with_reducible repeat (first | refine bkN ?_ _ | refine bkD ?_ | refine bkA ?_ _)); exact BK416.out) hb); have n3_ := Aside0.mk (bkB (g := gb417) (o := .cells #[.int .i64 a2_0, .int .i64 a2_1, .int .i64 a2_2, .int .i64 a2_3, .int .i64 a2_4] 47 (0, 0)) (by (with_reducible repeat (first | refine bkN ?_ _ | refine bkD ?_ | refine bkA ?_ _)); exact BK417.out) hb); have n4_ := Aside0.mk (below_step (by repeat (first | (with_reducible first | exact HB.out | apply blA | apply blN | apply blD | refine blS ?_ GE415.out | refine blS ?_ GE416.out | refine blS ?_ GE417.out) | exact HB.out)) hb); have n5_ := Aside0.mk (hbox); have n6_ := Aside0.mk ((by rw [hg]; exact (below_size (by repeat (first | (with_reducible first | exact HB.out | apply blA | apply blN | apply blD | refine blS ?_ GE415.out | refine blS ?_ GE416.out | refine blS ?_ GE417.out) | exact HB.out))) : w.heap.size ≤ gb423)); have n7_ := Aside0.mk ((by rw [hg]; exact (below_size (by repeat (first | (with_reducible first | exact HB.out | apply blA | apply blN | apply blD | refine blS ?_ GE415.out | refine blS ?_ GE416.out | refine blS ?_ GE417.out) | exact HB.out))) : w.heap.size ≤ gb423)); have n8_ := Aside0.mk ((by rw [hg]; exact Nat.ne_of_lt (blk_lt (g := gb415) (o := .cells #[.int .i64 a0_0, .int .i64 a0_1] 28 (0, 0)) (by (with_reducible repeat (first | refine bkN ?_ _ | refine bkD ?_ | refine bkA ?_ _)); exact BK415.out)) : gb415 ≠ gb423)); have n9_ := Aside0.mk ((by rw [hg]; exact Nat.ne_of_gt (blk_lt (g := gb415) (o := .cells #[.int .i64 a0_0, .int .i64 a0_1] 28 (0, 0)) (by (with_reducible repeat (first | refine bkN ?_ _ | refine bkD ?_ | refine bkA ?_ _)); exact BK415.out)) : gb423 ≠ gb415)); have n10_ := Aside0.mk ((by rw [hg]; exact Nat.ne_of_lt (blk_lt (g := gb416) (o := .cells #[.int .i64 a1_0, .int .i64 a1_1] 28 (0, 0)) (by (with_reducible repeat (first | refine bkN ?_ _ | refine bkD ?_ | refine bkA ?_ _)); exact BK416.out)) : gb416 ≠ gb423)); have n11_ := Aside0.mk ((by rw [hg]; exact Nat.ne_of_gt (blk_lt (g := gb416) (o := .cells #[.int .i64 a1_0, .int .i64 a1_1] 28 (0, 0)) (by (with_reducible repeat (first | refine bkN ?_ _ | refine bkD ?_ | refine bkA ?_ _)); exact BK416.out)) : gb423 ≠ gb416)); have n12_ := Aside0.mk ((by rw [hg]; exact Nat.ne_of_lt (blk_lt (g := gb417) (o := .cells #[.int .i64 a2_0, .int .i64 a2_1, .int .i64 a2_2, .int .i64 a2_3, .int .i64 a2_4] 47 (0, 0)) (by (with_reducible repeat (first | refine bkN ?_ _ | refine bkD ?_ | refine bkA ?_ _)); exact BK417.out)) : gb417 ≠ gb423)); have n13_ := Aside0.mk ((by rw [hg]; exact Nat.ne_of_gt (blk_lt (g := gb417) (o := .cells #[.int .i64 a2_0, .int .i64 a2_1, .int .i64 a2_2, .int .i64 a2_3, .int .i64 a2_4] 47 (0, 0)) (by (with_reducible repeat (first | refine bkN ?_ _ | refine bkD ?_ | refine bkA ?_ _)); exact BK417.out)) : gb423 ≠ gb417)); clear HO_21; clear BK415; clear BK416; clear BK417; clear HB; have HO_21 := n0_; have BK415 := n1_; have BK416 := n2_; have BK417 := n3_; have HB := n4_; have BK423 := n5_; have GW423 := n6_; have GE423 := n7_; have NB415_423 := n8_; have NB423_415 := n9_; have NB416_423 := n10_; have NB423_416 := n11_; have NB417_423 := n12_; have NB423_417 := n13_; clear n0_ n1_ n2_ n3_ n4_ n5_ n6_ n7_ n8_ n9_ n10_ n11_ n12_ n13_; clear hb hbox hg; have hnb42 := NB423_415.out; have hnc42 := NB415_423.out; have hnb43 := NB423_416.out; have hnc43 := NB416_423.out; have hnb44 := NB423_417.out; have hnc44 := NB417_423.out; have hcz45_0 : w41.cell? ⟨gb423, 0, none⟩ = some (.int .i64 0) := (bkC BK423.out 0).trans rfl; have hcz45_1 : w41.cell? ⟨gb423, 1, none⟩ = some (.int .i64 0) := (bkC BK423.out 1).trans rfl; have hfz45_0 := bkF BK423.out 0; have hfz45_1 := bkF BK423.out 1))
       go_ret
       exact ⟨by first | rfl | (simp [errW_none, errW_some] <;> rfl) | (simp [*, errW_none, errW_some] <;> rfl), by repeat (first | (with_reducible first | exact HB.out | apply blA | apply blN | apply blD | refine blS ?_ GE415.out | refine blS ?_ GE416.out | refine blS ?_ GE417.out | refine blS ?_ GE423.out) | exact HB.out)⟩
      rw [if_neg c40] at H
      have c40b0 : decide (10000 < ((rd_T28 y419 x23_1).f1)) = false := decide_eq_false c40
      clear c40
      have H' := Aside0.mk H
      clear H
      have p422 : 0 ≤ (x23_1 : Int) := of_decide_eq_true (by first | (with_reducible assumption) | assumption)
      have q422 : x23_1 < (y419.length : Int) := of_decide_eq_true (by first | (with_reducible assumption) | assumption)
      obtain ⟨ad422, e422, hx422_0, hx422_1⟩ := at_T28 (Kd.R_reads' HO_21.out).2.2 x23_1 p422 q422
      cases e422
      replace p422 := eq_true p422
      replace q422 := eq_true q422
      go_wp2_with (first | ((with_reducible refine gate_dst (N := 8) rfl ?_); refine box_event ?hg (N := 8) ?hd (cs := #[.int .i64 0, .int .i64 0]) (t := 28) ?hr ?_; (case hd => rfl); (case hg => rfl); (case hr => first | (go_simp; done) | (go_simp; rfl)); intro gb423 hg w46 hbox hb; have n0_ := Aside0.mk (Kd.R_below (Kd.R_elderB (by (with_reducible repeat (first | apply Kd.R_alloc | apply Kd.R_drewN | apply Kd.R_drew)); exact HO_21.out) gb423 (Nat.le_of_eq hg.symm)) hb); have n1_ := Aside0.mk (bkB (g := gb415) (o := .cells #[.int .i64 a0_0, .int .i64 a0_1] 28 (0, 0)) (by (with_reducible repeat (first | refine bkN ?_ _ | refine bkD ?_ | refine bkA ?_ _)); exact BK415.out) hb); have n2_ := Aside0.mk (bkB (g := gb416) (o := .cells #[.int .i64 a1_0, .int .i64 a1_1] 28 (0, 0)) (by (with_reducible repeat (first | refine bkN ?_ _ | refine bkD ?_ | refine bkA ?_ _)); exact BK416.out) hb); have n3_ := Aside0.mk (bkB (g := gb417) (o := .cells #[.int .i64 a2_0, .int .i64 a2_1, .int .i64 a2_2, .int .i64 a2_3, .int .i64 a2_4] 47 (0, 0)) (by (with_reducible repeat (first | refine bkN ?_ _ | refine bkD ?_ | refine bkA ?_ _)); exact BK417.out) hb); have n4_ := Aside0.mk (below_step (by repeat (first | (with_reducible first | exact HB.out | apply blA | apply blN | apply blD | refine blS ?_ GE415.out | refine blS ?_ GE416.out | refine blS ?_ GE417.out) | exact HB.out)) hb); have n5_ := Aside0.mk (hbox); have n6_ := Aside0.mk ((by rw [hg]; exact (below_size (by repeat (first | (with_reducible first | exact HB.out | apply blA | apply blN | apply blD | refine blS ?_ GE415.out | refine blS ?_ GE416.out | refine blS ?_ GE417.out) | exact HB.out))) : w.heap.size ≤ gb423)); have n7_ := Aside0.mk ((by rw [hg]; exact (below_size (by repeat (first | (with_reducible first | exact HB.out | apply blA | apply blN | apply blD | refine blS ?_ GE415.out | refine blS ?_ GE416.out | refine blS ?_ GE417.out) | exact HB.out))) : w.heap.size ≤ gb423)); have n8_ := Aside0.mk ((by rw [hg]; exact Nat.ne_of_lt (blk_lt (g := gb415) (o := .cells #[.int .i64 a0_0, .int .i64 a0_1] 28 (0, 0)) (by (with_reducible repeat (first | refine bkN ?_ _ | refine bkD ?_ | refine bkA ?_ _)); exact BK415.out)) : gb415 ≠ gb423)); have n9_ := Aside0.mk ((by rw [hg]; exact Nat.ne_of_gt (blk_lt (g := gb415) (o := .cells #[.int .i64 a0_0, .int .i64 a0_1] 28 (0, 0)) (by (with_reducible repeat (first | refine bkN ?_ _ | refine bkD ?_ | refine bkA ?_ _)); exact BK415.out)) : gb423 ≠ gb415)); have n10_ := Aside0.mk ((by rw [hg]; exact Nat.ne_of_lt (blk_lt (g := gb416) (o := .cells #[.int .i64 a1_0, .int .i64 a1_1] 28 (0, 0)) (by (with_reducible repeat (first | refine bkN ?_ _ | refine bkD ?_ | refine bkA ?_ _)); exact BK416.out)) : gb416 ≠ gb423)); have n11_ := Aside0.mk ((by rw [hg]; exact Nat.ne_of_gt (blk_lt (g := gb416) (o := .cells #[.int .i64 a1_0, .int .i64 a1_1] 28 (0, 0)) (by (with_reducible repeat (first | refine bkN ?_ _ | refine bkD ?_ | refine bkA ?_ _)); exact BK416.out)) : gb423 ≠ gb416)); have n12_ := Aside0.mk ((by rw [hg]; exact Nat.ne_of_lt (blk_lt (g := gb417) (o := .cells #[.int .i64 a2_0, .int .i64 a2_1, .int .i64 a2_2, .int .i64 a2_3, .int .i64 a2_4] 47 (0, 0)) (by (with_reducible repeat (first | refine bkN ?_ _ | refine bkD ?_ | refine bkA ?_ _)); exact BK417.out)) : gb417 ≠ gb423)); have n13_ := Aside0.mk ((by rw [hg]; exact Nat.ne_of_gt (blk_lt (g := gb417) (o := .cells #[.int .i64 a2_0, .int .i64 a2_1, .int .i64 a2_2, .int .i64 a2_3, .int .i64 a2_4] 47 (0, 0)) (by (with_reducible repeat (first | refine bkN ?_ _ | refine bkD ?_ | refine bkA ?_ _)); exact BK417.out)) : gb423 ≠ gb417)); clear HO_21; clear BK415; clear BK416; clear BK417; clear HB; have HO_21 := n0_; have BK415 := n1_; have BK416 := n2_; have BK417 := n3_; have HB := n4_; have BK423 := n5_; have GW423 := n6_; have GE423 := n7_; have NB415_423 := n8_; have NB423_415 := n9_; have NB416_423 := n10_; have NB423_416 := n11_; have NB417_423 := n12_; have NB423_417 := n13_; clear n0_ n1_ n2_ n3_ n4_ n5_ n6_ n7_ n8_ n9_ n10_ n11_ n12_ n13_; clear hb hbox hg; have hnb47 := NB423_415.out; have hnc47 := NB415_423.out; have hnb48 := NB423_416.out; have hnc48 := NB416_423.out; have hnb49 := NB423_417.out; have hnc49 := NB417_423.out; have hcz50_0 : w46.cell? ⟨gb423, 0, none⟩ = some (.int .i64 0) := (bkC BK423.out 0).trans rfl; have hcz50_1 : w46.cell? ⟨gb423, 1, none⟩ = some (.int .i64 0) := (bkC BK423.out 1).trans rfl; have hfz50_0 := bkF BK423.out 0; have hfz50_1 := bkF BK423.out 1))
      go_roundg k1
      case measure => have := HK1.out; omega
      case rel => exact ⟨(wrap64 (x23_1 + 1)), (by first | rfl | (simp; done) | (simp [*]; done)), H', ⟨by have := HK1.out; omega⟩, ⟨by (with_reducible repeat (first | apply Kd.R_alloc | apply Kd.R_drewN | apply Kd.R_drew)); exact Kd.R_mono (Kd.R_far (p := ⟨gb423, 1, none⟩) (Kd.R_far (p := ⟨gb423, 0, none⟩) (Kd.R_mono HO_21.out (fun k_ hk => (⟨hk, hk.2⟩ : _ ∧ k_ ≠ gb423))) (fun _ hk => hk.2) (.int .i64 ((rd_T28 y419 x23_1).f0))) (fun _ hk => hk.2) (.int .i64 ((rd_T28 y419 x23_1).f1))) (fun _ hk => ⟨hk.1.1.1, hk.1.1.2⟩)⟩, ⟨by (with_reducible repeat (first | refine bkN ?_ _ | refine bkD ?_ | refine bkA ?_ _)); refine blk_far ?_ NB415_423.out _; (with_reducible repeat (first | refine bkN ?_ _ | refine bkD ?_ | refine bkA ?_ _)); refine blk_far ?_ NB415_423.out _; (with_reducible repeat (first | refine bkN ?_ _ | refine bkD ?_ | refine bkA ?_ _)); exact BK415.out⟩, ⟨by (with_reducible repeat (first | refine bkN ?_ _ | refine bkD ?_ | refine bkA ?_ _)); refine blk_far ?_ NB416_423.out _; (with_reducible repeat (first | refine bkN ?_ _ | refine bkD ?_ | refine bkA ?_ _)); refine blk_far ?_ NB416_423.out _; (with_reducible repeat (first | refine bkN ?_ _ | refine bkD ?_ | refine bkA ?_ _)); exact BK416.out⟩, ⟨by (with_reducible repeat (first | refine bkN ?_ _ | refine bkD ?_ | refine bkA ?_ _)); refine blk_far ?_ NB417_423.out _; (with_reducible repeat (first | refine bkN ?_ _ | refine bkD ?_ | refine bkA ?_ _)); refine blk_far ?_ NB417_423.out _; (with_reducible repeat (first | refine bkN ?_ _ | refine bkD ?_ | refine bkA ?_ _)); exact BK417.out⟩, ⟨by repeat (first | (with_reducible first | exact HB.out | apply blA | apply blN | apply blD | refine blS ?_ GE415.out | refine blS ?_ GE416.out | refine blS ?_ GE417.out | refine blS ?_ GE423.out) | exact HB.out)⟩⟩
    as_aux_lemma =>
     rw [if_neg c19] at H
     have c19b0 : decide (x23_1 < (y419.length : Int)) = false := decide_eq_false c19
     clear c19
     have HC51 := Aside0.mk H
     clear H
     try go_wp2
     have n0_ := Aside0.mk (Kd.R_drew HO_21.out)
     have n1_ := Aside0.mk (bkD BK415.out)
     have n2_ := Aside0.mk (bkD BK416.out)
     have n3_ := Aside0.mk (bkD BK417.out)
     have n4_ := Aside0.mk (blD HB.out)
     clear HO_21
     clear BK415
     clear BK416
     clear BK417
     clear HB
     have HO_21 := n0_
     have BK415 := n1_
     have BK416 := n2_
     have BK417 := n3_
     have HB := n4_
     clear n0_ n1_ n2_ n3_ n4_
     refine start_ (n := 18) (S := fun w' => w'.cell? ⟨gb415, 0, none⟩ = some (.int .i64 a0_0) ∧ w'.cell? ⟨gb415, 1, none⟩ = some (.int .i64 a0_1) ∧ w'.cell? ⟨gb416, 0, none⟩ = some (.int .i64 a1_0) ∧ w'.cell? ⟨gb416, 1, none⟩ = some (.int .i64 a1_1)) (ds := []) #[false, false, false, false, false, false, false, false, false, false, false, false, false, false, false, false, false, false] (by kernel_rfl) rfl rfl ⟨(bkC BK415.out 0).trans rfl, (bkC BK415.out 1).trans rfl, (bkC BK416.out 0).trans rfl, (bkC BK416.out 1).trans rfl⟩ (fun hHeld => ?_); refine with_tabW hopmeshlaw05_GeometryCrossings.tab9 hopmeshlaw05_GeometryCrossings.bits9 (fun HT_ HW_ => ?_)
     generalize wr.drew = w52 at HO_21 BK415 BK416 BK417 HB hHeld ⊢
     refine pure_ (i := 0) (N := some 46) (v := ?_) (a' := ?_) #[true, false, false, false, false, false, false, false, false, false, false, false, false, false, false, false, false, false] rfl rfl (any_of HT_.out (by kernel_rfl)) (fun _ _ _ h => h) (Or.inl ⟨by rfl, ?_⟩) ?_ ?_
     rotate_left
     ·intro w'
      go_simp
      with_reducible rfl
     rotate_left
     ·simp only [Act.put, List.setIfInBounds_toArray, List.set_cons_zero, List.set_cons_succ, i64_w, i32_w]
      rfl
     refine pure_ (i := 3) (N := some 49) (v := ?_) (a' := ?_) #[true, false, false, true, false, false, false, false, false, false, false, false, false, false, false, false, false, false] rfl rfl (any_of HT_.out (by kernel_rfl)) (fun _ _ _ h => h) (Or.inl ⟨by rfl, ?_⟩) ?_ ?_
     rotate_left
     ·intro w'
      go_simp
      with_reducible rfl
     rotate_left
     ·simp only [Act.put, List.setIfInBounds_toArray, List.set_cons_zero, List.set_cons_succ, i64_w, i32_w]
      rfl
     refine pure_ (i := 7) (N := some 53) (v := ?_) (a' := ?_) #[true, false, false, true, false, false, false, true, false, false, false, false, false, false, false, false, false, false] rfl rfl (any_of HT_.out (by kernel_rfl)) (fun _ _ _ h => h) (Or.inl ⟨by rfl, ?_⟩) ?_ ?_
     rotate_left
     ·intro w'
      go_simp
      with_reducible rfl
     rotate_left
     ·simp only [Act.put, List.setIfInBounds_toArray, List.set_cons_zero, List.set_cons_succ, i64_w, i32_w]
      rfl
     refine pure_ (i := 10) (N := some 56) (v := ?_) (a' := ?_) #[true, false, false, true, false, false, false, true, false, false, true, false, false, false, false, false, false, false] rfl rfl (any_of HT_.out (by kernel_rfl)) (fun _ _ _ h => h) (Or.inl ⟨by rfl, ?_⟩) ?_ ?_
     rotate_left
     ·intro w'
      go_simp
      with_reducible rfl
     rotate_left
     ·simp only [Act.put, List.setIfInBounds_toArray, List.set_cons_zero, List.set_cons_succ, i64_w, i32_w]
      rfl
     refine take_ (i := 1) (N := some 47) (v := ?_) (a' := ?_) #[true, true, false, true, false, false, false, true, false, false, true, false, false, false, false, false, false, false] rfl rfl (take_ofW HT_.out HW_.out (by kernel_rfl)) (fun _ _ _ h => h) (Or.inl ⟨by rfl, ?_⟩) hHeld ?_ ?_
     rotate_left
     ·rintro w' ⟨s0, s1, s2, s3⟩
      go_simp
      with_reducible rfl
     rotate_left
     ·simp only [Act.put, List.setIfInBounds_toArray, List.set_cons_zero, List.set_cons_succ, i64_w, i32_w]
      rfl
     refine pure_ (i := 2) (N := some 48) (v := ?_) (a' := ?_) #[true, true, true, true, false, false, false, true, false, false, true, false, false, false, false, false, false, false] rfl rfl (any_of HT_.out (by kernel_rfl)) (fun _ _ _ h => h) (Or.inl ⟨by rfl, ?_⟩) ?_ ?_
     rotate_left
     ·intro w'
      go_simp
      with_reducible rfl
     rotate_left
     ·simp only [Act.put, List.setIfInBounds_toArray, List.set_cons_zero, List.set_cons_succ, i64_w, i32_w]
      rfl
     refine take_ (i := 4) (N := some 50) (v := ?_) (a' := ?_) #[true, true, true, true, true, false, false, true, false, false, true, false, false, false, false, false, false, false] rfl rfl (take_ofW HT_.out HW_.out (by kernel_rfl)) (fun _ _ _ h => h) (Or.inl ⟨by rfl, ?_⟩) hHeld ?_ ?_
     rotate_left
     ·rintro w' ⟨s0, s1, s2, s3⟩
      go_simp
      with_reducible rfl
     rotate_left
     ·simp only [Act.put, List.setIfInBounds_toArray, List.set_cons_zero, List.set_cons_succ, i64_w, i32_w]
      rfl
     refine pure_ (i := 5) (N := some 51) (v := ?_) (a' := ?_) #[true, true, true, true, true, true, false, true, false, false, true, false, false, false, false, false, false, false] rfl rfl (any_of HT_.out (by kernel_rfl)) (fun _ _ _ h => h) (Or.inl ⟨by rfl, ?_⟩) ?_ ?_
     rotate_left
     ·intro w'
      go_simp
      with_reducible rfl
     rotate_left
     ·simp only [Act.put, List.setIfInBounds_toArray, List.set_cons_zero, List.set_cons_succ, i64_w, i32_w]
      rfl
     refine pure_ (i := 6) (N := some 52) (v := ?_) (a' := ?_) #[true, true, true, true, true, true, true, true, false, false, true, false, false, false, false, false, false, false] rfl rfl (any_of HT_.out (by kernel_rfl)) (fun _ _ _ h => h) (Or.inl ⟨by rfl, ?_⟩) ?_ ?_
     rotate_left
     ·intro w'
      go_simp
      with_reducible rfl
     rotate_left
     ·simp only [Act.put, List.setIfInBounds_toArray, List.set_cons_zero, List.set_cons_succ, i64_w, i32_w]
      rfl
     refine take_ (i := 8) (N := some 54) (v := ?_) (a' := ?_) #[true, true, true, true, true, true, true, true, true, false, true, false, false, false, false, false, false, false] rfl rfl (take_ofW HT_.out HW_.out (by kernel_rfl)) (fun _ _ _ h => h) (Or.inl ⟨by rfl, ?_⟩) hHeld ?_ ?_
     rotate_left
     ·rintro w' ⟨s0, s1, s2, s3⟩
      go_simp
      with_reducible rfl
     rotate_left
     ·simp only [Act.put, List.setIfInBounds_toArray, List.set_cons_zero, List.set_cons_succ, i64_w, i32_w]
      rfl
     refine pure_ (i := 9) (N := some 55) (v := ?_) (a' := ?_) #[true, true, true, true, true, true, true, true, true, true, true, false, false, false, false, false, false, false] rfl rfl (any_of HT_.out (by kernel_rfl)) (fun _ _ _ h => h) (Or.inl ⟨by rfl, ?_⟩) ?_ ?_
     rotate_left
     ·intro w'
      go_simp
      with_reducible rfl
     rotate_left
     ·simp only [Act.put, List.setIfInBounds_toArray, List.set_cons_zero, List.set_cons_succ, i64_w, i32_w]
      rfl
     refine take_ (i := 11) (N := some 57) (v := ?_) (a' := ?_) #[true, true, true, true, true, true, true, true, true, true, true, true, false, false, false, false, false, false] rfl rfl (take_ofW HT_.out HW_.out (by kernel_rfl)) (fun _ _ _ h => h) (Or.inl ⟨by rfl, ?_⟩) hHeld ?_ ?_
     rotate_left
     ·rintro w' ⟨s0, s1, s2, s3⟩
      go_simp
      with_reducible rfl
     rotate_left
     ·simp only [Act.put, List.setIfInBounds_toArray, List.set_cons_zero, List.set_cons_succ, i64_w, i32_w]
      rfl
     refine pure_ (i := 12) (N := some 58) (v := ?_) (a' := ?_) #[true, true, true, true, true, true, true, true, true, true, true, true, true, false, false, false, false, false] rfl rfl (any_of HT_.out (by kernel_rfl)) (fun _ _ _ h => h) (Or.inl ⟨by rfl, ?_⟩) ?_ ?_
     rotate_left
     ·intro w'
      go_simp
      with_reducible rfl
     rotate_left
     ·simp only [Act.put, List.setIfInBounds_toArray, List.set_cons_zero, List.set_cons_succ, i64_w, i32_w]
      rfl
     refine pure_ (i := 13) (N := some 59) (v := ?_) (a' := ?_) #[true, true, true, true, true, true, true, true, true, true, true, true, true, true, false, false, false, false] rfl rfl (any_of HT_.out (by kernel_rfl)) (fun _ _ _ h => h) (Or.inl ⟨by rfl, ?_⟩) ?_ ?_
     rotate_left
     ·intro w'
      go_simp
      with_reducible rfl
     rotate_left
     ·simp only [Act.put, List.setIfInBounds_toArray, List.set_cons_zero, List.set_cons_succ, i64_w, i32_w]
      rfl
     refine join_ (σ := Nat × Nat) 2 #[true, true, true, true, true, true, true, true, true, true, true, true, true, true, true, true, false, false] (fun s_ => [(9, .pointer (some ⟨s_.1, 0, none⟩)), (10, .pointer (some ⟨s_.2, 0, none⟩))]) (fun s_ w' => (w'.cell? ⟨gb415, 0, none⟩ = some (.int .i64 a0_0) ∧ w'.cell? ⟨gb415, 1, none⟩ = some (.int .i64 a0_1) ∧ w'.cell? ⟨gb416, 0, none⟩ = some (.int .i64 a1_0) ∧ w'.cell? ⟨gb416, 1, none⟩ = some (.int .i64 a1_1)) ∧ (Kd.R k28 28 w' w.heap.size (fun k_ => k_ ≠ gb415 ∧ k_ ≠ gb416 ∧ k_ ≠ s_.1 ∧ k_ ≠ s_.2) (.slice Ao18 y419.length co18) y419) ∧ (w'.heap[gb415]? = some (.cells #[.int .i64 a0_0, .int .i64 a0_1] 28 (0, 0))) ∧ (w'.heap[gb416]? = some (.cells #[.int .i64 a1_0, .int .i64 a1_1] 28 (0, 0))) ∧ (w'.heap[gb417]? = some (.cells #[.int .i64 a2_0, .int .i64 a2_1, .int .i64 a2_2, .int .i64 a2_3, .int .i64 a2_4] 47 (0, 0))) ∧ (w'.heap[s_.1]? = some (.cells #[.int .i64 0, .int .i64 0] 28 (0, 0))) ∧ (w'.heap[s_.2]? = some (.cells #[.int .i64 0, .int .i64 0] 28 (0, 0))) ∧ (w.heap.size ≤ s_.1) ∧ (w.heap.size ≤ s_.1) ∧ (gb415 ≠ s_.1) ∧ (s_.1 ≠ gb415) ∧ (gb416 ≠ s_.1) ∧ (s_.1 ≠ gb416) ∧ (gb417 ≠ s_.1) ∧ (s_.1 ≠ gb417) ∧ (s_.2 ≠ s_.1) ∧ (s_.1 ≠ s_.2) ∧ (w.heap.size ≤ s_.2) ∧ (w.heap.size ≤ s_.2) ∧ (gb415 ≠ s_.2) ∧ (s_.2 ≠ gb415) ∧ (gb416 ≠ s_.2) ∧ (s_.2 ≠ gb416) ∧ (gb417 ≠ s_.2) ∧ (s_.2 ≠ gb417) ∧ (Below w.heap.size w w')) ?_ ?_
     rotate_left
     ·intro hCont
      refine two_ (i := 14) (j := 15) (Ni := some 9) (Nj := some 10) #[true, true, true, true, true, true, true, true, true, true, true, true, true, true, true, false, false, false] #[true, true, true, true, true, true, true, true, true, true, true, true, true, true, false, true, false, false] rfl rfl rfl rfl (two_of HT_.out (by kernel_rfl)) (by decide) (by decide) (fun K hK => ?_) (fun K hK => ?_)
      rotate_left
      ·skip
       refine box_step ?hg (N := 10) ?hd (cs := #[.int .i64 0, .int .i64 0]) (t := 28) ?hr ?_; (case hd => rfl); (case hg => rfl); (case hr => first | (go_simp; done) | (go_simp; rfl))
       intro gb425 hg w53 hbox hb
       have n0_ := Aside0.mk (Kd.R_below (Kd.R_elderB (by (with_reducible repeat (first | apply Kd.R_alloc | apply Kd.R_drewN | apply Kd.R_drew)); exact HO_21.out) gb425 (Nat.le_of_eq hg.symm)) hb)
       have n1_ := Aside0.mk (bkB (g := gb415) (o := .cells #[.int .i64 a0_0, .int .i64 a0_1] 28 (0, 0)) (by (with_reducible repeat (first | refine bkN ?_ _ | refine bkD ?_ | refine bkA ?_ _)); exact BK415.out) hb)
       have n2_ := Aside0.mk (bkB (g := gb416) (o := .cells #[.int .i64 a1_0, .int .i64 a1_1] 28 (0, 0)) (by (with_reducible repeat (first | refine bkN ?_ _ | refine bkD ?_ | refine bkA ?_ _)); exact BK416.out) hb)
       have n3_ := Aside0.mk (bkB (g := gb417) (o := .cells #[.int .i64 a2_0, .int .i64 a2_1, .int .i64 a2_2, .int .i64 a2_3, .int .i64 a2_4] 47 (0, 0)) (by (with_reducible repeat (first | refine bkN ?_ _ | refine bkD ?_ | refine bkA ?_ _)); exact BK417.out) hb)
       have n4_ := Aside0.mk (below_step (by repeat (first | (with_reducible first | exact HB.out | apply blA | apply blN | apply blD | refine blS ?_ GE415.out | refine blS ?_ GE416.out | refine blS ?_ GE417.out) | exact HB.out)) hb)
       have n5_ := Aside0.mk (hbox)
       have n6_ := Aside0.mk ((by rw [hg]; exact (below_size (by repeat (first | (with_reducible first | exact HB.out | apply blA | apply blN | apply blD | refine blS ?_ GE415.out | refine blS ?_ GE416.out | refine blS ?_ GE417.out) | exact HB.out))) : w.heap.size ≤ gb425))
       have n7_ := Aside0.mk ((by rw [hg]; exact (below_size (by repeat (first | (with_reducible first | exact HB.out | apply blA | apply blN | apply blD | refine blS ?_ GE415.out | refine blS ?_ GE416.out | refine blS ?_ GE417.out) | exact HB.out))) : w.heap.size ≤ gb425))
       have n8_ := Aside0.mk ((by rw [hg]; exact Nat.ne_of_lt (blk_lt (g := gb415) (o := .cells #[.int .i64 a0_0, .int .i64 a0_1] 28 (0, 0)) (by (with_reducible repeat (first | refine bkN ?_ _ | refine bkD ?_ | refine bkA ?_ _)); exact BK415.out)) : gb415 ≠ gb425))
       have n9_ := Aside0.mk ((by rw [hg]; exact Nat.ne_of_gt (blk_lt (g := gb415) (o := .cells #[.int .i64 a0_0, .int .i64 a0_1] 28 (0, 0)) (by (with_reducible repeat (first | refine bkN ?_ _ | refine bkD ?_ | refine bkA ?_ _)); exact BK415.out)) : gb425 ≠ gb415))
       have n10_ := Aside0.mk ((by rw [hg]; exact Nat.ne_of_lt (blk_lt (g := gb416) (o := .cells #[.int .i64 a1_0, .int .i64 a1_1] 28 (0, 0)) (by (with_reducible repeat (first | refine bkN ?_ _ | refine bkD ?_ | refine bkA ?_ _)); exact BK416.out)) : gb416 ≠ gb425))
       have n11_ := Aside0.mk ((by rw [hg]; exact Nat.ne_of_gt (blk_lt (g := gb416) (o := .cells #[.int .i64 a1_0, .int .i64 a1_1] 28 (0, 0)) (by (with_reducible repeat (first | refine bkN ?_ _ | refine bkD ?_ | refine bkA ?_ _)); exact BK416.out)) : gb425 ≠ gb416))
       have n12_ := Aside0.mk ((by rw [hg]; exact Nat.ne_of_lt (blk_lt (g := gb417) (o := .cells #[.int .i64 a2_0, .int .i64 a2_1, .int .i64 a2_2, .int .i64 a2_3, .int .i64 a2_4] 47 (0, 0)) (by (with_reducible repeat (first | refine bkN ?_ _ | refine bkD ?_ | refine bkA ?_ _)); exact BK417.out)) : gb417 ≠ gb425))
       have n13_ := Aside0.mk ((by rw [hg]; exact Nat.ne_of_gt (blk_lt (g := gb417) (o := .cells #[.int .i64 a2_0, .int .i64 a2_1, .int .i64 a2_2, .int .i64 a2_3, .int .i64 a2_4] 47 (0, 0)) (by (with_reducible repeat (first | refine bkN ?_ _ | refine bkD ?_ | refine bkA ?_ _)); exact BK417.out)) : gb425 ≠ gb417))
       clear HO_21
       clear BK415
       clear BK416
       clear BK417
       clear HB
       have HO_21 := n0_
       have BK415 := n1_
       have BK416 := n2_
       have BK417 := n3_
       have HB := n4_
       have BK425 := n5_
       have GW425 := n6_
       have GE425 := n7_
       have NB415_425 := n8_
       have NB425_415 := n9_
       have NB416_425 := n10_
       have NB425_416 := n11_
       have NB417_425 := n12_
       have NB425_417 := n13_
       clear n0_ n1_ n2_ n3_ n4_ n5_ n6_ n7_ n8_ n9_ n10_ n11_ n12_ n13_
       clear hb hbox hg
       refine hK.out _ _ ⟨(bkC BK415.out 0).trans rfl, (bkC BK415.out 1).trans rfl, (bkC BK416.out 0).trans rfl, (bkC BK416.out 1).trans rfl⟩ (fun hHeld => ?_)
       clear hK K
       refine norm_ (a' := ?_) ?_ ?_
       rotate_left
       ·show Act.put _ (some 10) _ = _
        simp only [Act.put, List.setIfInBounds_toArray, List.set_cons_zero, List.set_cons_succ, i64_w, i32_w]
        rfl
       refine one_ (i := 14) (N := some 9) #[true, true, true, true, true, true, true, true, true, true, true, true, true, true, true, true, false, false] rfl rfl (one_of HT_.out (by kernel_rfl)) (by decide) (fun K hK => ?_)
       refine box_step ?hg (N := 9) ?hd (cs := #[.int .i64 0, .int .i64 0]) (t := 28) ?hr ?_; (case hd => rfl); (case hg => rfl); (case hr => first | (go_simp; done) | (go_simp; rfl))
       intro gb424 hg w54 hbox hb
       have n0_ := Aside0.mk (Kd.R_below (Kd.R_elderB (by (with_reducible repeat (first | apply Kd.R_alloc | apply Kd.R_drewN | apply Kd.R_drew)); exact HO_21.out) gb424 (Nat.le_of_eq hg.symm)) hb)
       have n1_ := Aside0.mk (bkB (g := gb415) (o := .cells #[.int .i64 a0_0, .int .i64 a0_1] 28 (0, 0)) (by (with_reducible repeat (first | refine bkN ?_ _ | refine bkD ?_ | refine bkA ?_ _)); exact BK415.out) hb)
       have n2_ := Aside0.mk (bkB (g := gb416) (o := .cells #[.int .i64 a1_0, .int .i64 a1_1] 28 (0, 0)) (by (with_reducible repeat (first | refine bkN ?_ _ | refine bkD ?_ | refine bkA ?_ _)); exact BK416.out) hb)
       have n3_ := Aside0.mk (bkB (g := gb417) (o := .cells #[.int .i64 a2_0, .int .i64 a2_1, .int .i64 a2_2, .int .i64 a2_3, .int .i64 a2_4] 47 (0, 0)) (by (with_reducible repeat (first | refine bkN ?_ _ | refine bkD ?_ | refine bkA ?_ _)); exact BK417.out) hb)
       have n4_ := Aside0.mk (bkB (g := gb425) (o := .cells #[.int .i64 0, .int .i64 0] 28 (0, 0)) (by (with_reducible repeat (first | refine bkN ?_ _ | refine bkD ?_ | refine bkA ?_ _)); exact BK425.out) hb)
       have n5_ := Aside0.mk (below_step (by repeat (first | (with_reducible first | exact HB.out | apply blA | apply blN | apply blD | refine blS ?_ GE415.out | refine blS ?_ GE416.out | refine blS ?_ GE417.out | refine blS ?_ GE425.out) | exact HB.out)) hb)
       have n6_ := Aside0.mk (hbox)
       have n7_ := Aside0.mk ((by rw [hg]; exact (below_size (by repeat (first | (with_reducible first | exact HB.out | apply blA | apply blN | apply blD | refine blS ?_ GE415.out | refine blS ?_ GE416.out | refine blS ?_ GE417.out | refine blS ?_ GE425.out) | exact HB.out))) : w.heap.size ≤ gb424))
       have n8_ := Aside0.mk ((by rw [hg]; exact (below_size (by repeat (first | (with_reducible first | exact HB.out | apply blA | apply blN | apply blD | refine blS ?_ GE415.out | refine blS ?_ GE416.out | refine blS ?_ GE417.out | refine blS ?_ GE425.out) | exact HB.out))) : w.heap.size ≤ gb424))
       have n9_ := Aside0.mk ((by rw [hg]; exact Nat.ne_of_lt (blk_lt (g := gb415) (o := .cells #[.int .i64 a0_0, .int .i64 a0_1] 28 (0, 0)) (by (with_reducible repeat (first | refine bkN ?_ _ | refine bkD ?_ | refine bkA ?_ _)); exact BK415.out)) : gb415 ≠ gb424))
       have n10_ := Aside0.mk ((by rw [hg]; exact Nat.ne_of_gt (blk_lt (g := gb415) (o := .cells #[.int .i64 a0_0, .int .i64 a0_1] 28 (0, 0)) (by (with_reducible repeat (first | refine bkN ?_ _ | refine bkD ?_ | refine bkA ?_ _)); exact BK415.out)) : gb424 ≠ gb415))
       have n11_ := Aside0.mk ((by rw [hg]; exact Nat.ne_of_lt (blk_lt (g := gb416) (o := .cells #[.int .i64 a1_0, .int .i64 a1_1] 28 (0, 0)) (by (with_reducible repeat (first | refine bkN ?_ _ | refine bkD ?_ | refine bkA ?_ _)); exact BK416.out)) : gb416 ≠ gb424))
       have n12_ := Aside0.mk ((by rw [hg]; exact Nat.ne_of_gt (blk_lt (g := gb416) (o := .cells #[.int .i64 a1_0, .int .i64 a1_1] 28 (0, 0)) (by (with_reducible repeat (first | refine bkN ?_ _ | refine bkD ?_ | refine bkA ?_ _)); exact BK416.out)) : gb424 ≠ gb416))
       have n13_ := Aside0.mk ((by rw [hg]; exact Nat.ne_of_lt (blk_lt (g := gb417) (o := .cells #[.int .i64 a2_0, .int .i64 a2_1, .int .i64 a2_2, .int .i64 a2_3, .int .i64 a2_4] 47 (0, 0)) (by (with_reducible repeat (first | refine bkN ?_ _ | refine bkD ?_ | refine bkA ?_ _)); exact BK417.out)) : gb417 ≠ gb424))
       have n14_ := Aside0.mk ((by rw [hg]; exact Nat.ne_of_gt (blk_lt (g := gb417) (o := .cells #[.int .i64 a2_0, .int .i64 a2_1, .int .i64 a2_2, .int .i64 a2_3, .int .i64 a2_4] 47 (0, 0)) (by (with_reducible repeat (first | refine bkN ?_ _ | refine bkD ?_ | refine bkA ?_ _)); exact BK417.out)) : gb424 ≠ gb417))
       have n15_ := Aside0.mk ((by rw [hg]; exact Nat.ne_of_lt (blk_lt (g := gb425) (o := .cells #[.int .i64 0, .int .i64 0] 28 (0, 0)) (by (with_reducible repeat (first | refine bkN ?_ _ | refine bkD ?_ | refine bkA ?_ _)); exact BK425.out)) : gb425 ≠ gb424))
       have n16_ := Aside0.mk ((by rw [hg]; exact Nat.ne_of_gt (blk_lt (g := gb425) (o := .cells #[.int .i64 0, .int .i64 0] 28 (0, 0)) (by (with_reducible repeat (first | refine bkN ?_ _ | refine bkD ?_ | refine bkA ?_ _)); exact BK425.out)) : gb424 ≠ gb425))
       clear HO_21
       clear BK415
       clear BK416
       clear BK417
       clear BK425
       clear HB
       have HO_21 := n0_
       have BK415 := n1_
       have BK416 := n2_
       have BK417 := n3_
       have BK425 := n4_
       have HB := n5_
       have BK424 := n6_
       have GW424 := n7_
       have GE424 := n8_
       have NB415_424 := n9_
       have NB424_415 := n10_
       have NB416_424 := n11_
       have NB424_416 := n12_
       have NB417_424 := n13_
       have NB424_417 := n14_
       have NB425_424 := n15_
       have NB424_425 := n16_
       clear n0_ n1_ n2_ n3_ n4_ n5_ n6_ n7_ n8_ n9_ n10_ n11_ n12_ n13_ n14_ n15_ n16_
       clear hb hbox hg
       refine hK.out _ _ ⟨(bkC BK415.out 0).trans rfl, (bkC BK415.out 1).trans rfl, (bkC BK416.out 0).trans rfl, (bkC BK416.out 1).trans rfl⟩ (fun hHeld => ?_)
       clear hK K
       refine norm_ (a' := ?_) ?_ ?_
       rotate_left
       ·show Act.put _ (some 9) _ = _
        simp only [Act.put, List.setIfInBounds_toArray, List.set_cons_zero, List.set_cons_succ, i64_w, i32_w]
        rfl
       exact norm_ (by simp only [putAll, Act.put, List.setIfInBounds_toArray, List.set_cons_zero, List.set_cons_succ]) (hCont (gb424, gb425) _ ⟨hHeld, (by (with_reducible repeat (first | apply Kd.R_alloc | apply Kd.R_drewN | apply Kd.R_drew)); exact Kd.R_mono HO_21.out (fun _ hk => ⟨hk.1.1.1, ⟨hk.1.1.2, ⟨hk.2, hk.1.2⟩⟩⟩)), (by (with_reducible repeat (first | refine bkN ?_ _ | refine bkD ?_ | refine bkA ?_ _)); exact BK415.out), (by (with_reducible repeat (first | refine bkN ?_ _ | refine bkD ?_ | refine bkA ?_ _)); exact BK416.out), (by (with_reducible repeat (first | refine bkN ?_ _ | refine bkD ?_ | refine bkA ?_ _)); exact BK417.out), (by (with_reducible repeat (first | refine bkN ?_ _ | refine bkD ?_ | refine bkA ?_ _)); exact BK424.out), (by (with_reducible repeat (first | refine bkN ?_ _ | refine bkD ?_ | refine bkA ?_ _)); exact BK425.out), GW424.out, GE424.out, NB415_424.out, NB424_415.out, NB416_424.out, NB424_416.out, NB417_424.out, NB424_417.out, NB425_424.out, NB424_425.out, GW425.out, GE425.out, NB415_425.out, NB425_415.out, NB416_425.out, NB425_416.out, NB417_425.out, NB425_417.out, (by repeat (first | (with_reducible first | exact HB.out | apply blA | apply blN | apply blD | refine blS ?_ GE415.out | refine blS ?_ GE416.out | refine blS ?_ GE417.out | refine blS ?_ GE425.out | refine blS ?_ GE424.out) | exact HB.out))⟩)
      skip
      refine box_step ?hg (N := 9) ?hd (cs := #[.int .i64 0, .int .i64 0]) (t := 28) ?hr ?_; (case hd => rfl); (case hg => rfl); (case hr => first | (go_simp; done) | (go_simp; rfl))
      intro gb424 hg w53 hbox hb
      have n0_ := Aside0.mk (Kd.R_below (Kd.R_elderB (by (with_reducible repeat (first | apply Kd.R_alloc | apply Kd.R_drewN | apply Kd.R_drew)); exact HO_21.out) gb424 (Nat.le_of_eq hg.symm)) hb)
      have n1_ := Aside0.mk (bkB (g := gb415) (o := .cells #[.int .i64 a0_0, .int .i64 a0_1] 28 (0, 0)) (by (with_reducible repeat (first | refine bkN ?_ _ | refine bkD ?_ | refine bkA ?_ _)); exact BK415.out) hb)
      have n2_ := Aside0.mk (bkB (g := gb416) (o := .cells #[.int .i64 a1_0, .int .i64 a1_1] 28 (0, 0)) (by (with_reducible repeat (first | refine bkN ?_ _ | refine bkD ?_ | refine bkA ?_ _)); exact BK416.out) hb)
      have n3_ := Aside0.mk (bkB (g := gb417) (o := .cells #[.int .i64 a2_0, .int .i64 a2_1, .int .i64 a2_2, .int .i64 a2_3, .int .i64 a2_4] 47 (0, 0)) (by (with_reducible repeat (first | refine bkN ?_ _ | refine bkD ?_ | refine bkA ?_ _)); exact BK417.out) hb)
      have n4_ := Aside0.mk (below_step (by repeat (first | (with_reducible first | exact HB.out | apply blA | apply blN | apply blD | refine blS ?_ GE415.out | refine blS ?_ GE416.out | refine blS ?_ GE417.out) | exact HB.out)) hb)
      have n5_ := Aside0.mk (hbox)
      have n6_ := Aside0.mk ((by rw [hg]; exact (below_size (by repeat (first | (with_reducible first | exact HB.out | apply blA | apply blN | apply blD | refine blS ?_ GE415.out | refine blS ?_ GE416.out | refine blS ?_ GE417.out) | exact HB.out))) : w.heap.size ≤ gb424))
      have n7_ := Aside0.mk ((by rw [hg]; exact (below_size (by repeat (first | (with_reducible first | exact HB.out | apply blA | apply blN | apply blD | refine blS ?_ GE415.out | refine blS ?_ GE416.out | refine blS ?_ GE417.out) | exact HB.out))) : w.heap.size ≤ gb424))
      have n8_ := Aside0.mk ((by rw [hg]; exact Nat.ne_of_lt (blk_lt (g := gb415) (o := .cells #[.int .i64 a0_0, .int .i64 a0_1] 28 (0, 0)) (by (with_reducible repeat (first | refine bkN ?_ _ | refine bkD ?_ | refine bkA ?_ _)); exact BK415.out)) : gb415 ≠ gb424))
      have n9_ := Aside0.mk ((by rw [hg]; exact Nat.ne_of_gt (blk_lt (g := gb415) (o := .cells #[.int .i64 a0_0, .int .i64 a0_1] 28 (0, 0)) (by (with_reducible repeat (first | refine bkN ?_ _ | refine bkD ?_ | refine bkA ?_ _)); exact BK415.out)) : gb424 ≠ gb415))
      have n10_ := Aside0.mk ((by rw [hg]; exact Nat.ne_of_lt (blk_lt (g := gb416) (o := .cells #[.int .i64 a1_0, .int .i64 a1_1] 28 (0, 0)) (by (with_reducible repeat (first | refine bkN ?_ _ | refine bkD ?_ | refine bkA ?_ _)); exact BK416.out)) : gb416 ≠ gb424))
      have n11_ := Aside0.mk ((by rw [hg]; exact Nat.ne_of_gt (blk_lt (g := gb416) (o := .cells #[.int .i64 a1_0, .int .i64 a1_1] 28 (0, 0)) (by (with_reducible repeat (first | refine bkN ?_ _ | refine bkD ?_ | refine bkA ?_ _)); exact BK416.out)) : gb424 ≠ gb416))
      have n12_ := Aside0.mk ((by rw [hg]; exact Nat.ne_of_lt (blk_lt (g := gb417) (o := .cells #[.int .i64 a2_0, .int .i64 a2_1, .int .i64 a2_2, .int .i64 a2_3, .int .i64 a2_4] 47 (0, 0)) (by (with_reducible repeat (first | refine bkN ?_ _ | refine bkD ?_ | refine bkA ?_ _)); exact BK417.out)) : gb417 ≠ gb424))
      have n13_ := Aside0.mk ((by rw [hg]; exact Nat.ne_of_gt (blk_lt (g := gb417) (o := .cells #[.int .i64 a2_0, .int .i64 a2_1, .int .i64 a2_2, .int .i64 a2_3, .int .i64 a2_4] 47 (0, 0)) (by (with_reducible repeat (first | refine bkN ?_ _ | refine bkD ?_ | refine bkA ?_ _)); exact BK417.out)) : gb424 ≠ gb417))
      clear HO_21
      clear BK415
      clear BK416
      clear BK417
      clear HB
      have HO_21 := n0_
      have BK415 := n1_
      have BK416 := n2_
      have BK417 := n3_
      have HB := n4_
      have BK424 := n5_
      have GW424 := n6_
      have GE424 := n7_
      have NB415_424 := n8_
      have NB424_415 := n9_
      have NB416_424 := n10_
      have NB424_416 := n11_
      have NB417_424 := n12_
      have NB424_417 := n13_
      clear n0_ n1_ n2_ n3_ n4_ n5_ n6_ n7_ n8_ n9_ n10_ n11_ n12_ n13_
      clear hb hbox hg
      refine hK.out _ _ ⟨(bkC BK415.out 0).trans rfl, (bkC BK415.out 1).trans rfl, (bkC BK416.out 0).trans rfl, (bkC BK416.out 1).trans rfl⟩ (fun hHeld => ?_)
      clear hK K
      refine norm_ (a' := ?_) ?_ ?_
      rotate_left
      ·show Act.put _ (some 9) _ = _
       simp only [Act.put, List.setIfInBounds_toArray, List.set_cons_zero, List.set_cons_succ, i64_w, i32_w]
       rfl
      refine one_ (i := 15) (N := some 10) #[true, true, true, true, true, true, true, true, true, true, true, true, true, true, true, true, false, false] rfl rfl (one_of HT_.out (by kernel_rfl)) (by decide) (fun K hK => ?_)
      refine box_step ?hg (N := 10) ?hd (cs := #[.int .i64 0, .int .i64 0]) (t := 28) ?hr ?_; (case hd => rfl); (case hg => rfl); (case hr => first | (go_simp; done) | (go_simp; rfl))
      intro gb425 hg w54 hbox hb
      have n0_ := Aside0.mk (Kd.R_below (Kd.R_elderB (by (with_reducible repeat (first | apply Kd.R_alloc | apply Kd.R_drewN | apply Kd.R_drew)); exact HO_21.out) gb425 (Nat.le_of_eq hg.symm)) hb)
      have n1_ := Aside0.mk (bkB (g := gb415) (o := .cells #[.int .i64 a0_0, .int .i64 a0_1] 28 (0, 0)) (by (with_reducible repeat (first | refine bkN ?_ _ | refine bkD ?_ | refine bkA ?_ _)); exact BK415.out) hb)
      have n2_ := Aside0.mk (bkB (g := gb416) (o := .cells #[.int .i64 a1_0, .int .i64 a1_1] 28 (0, 0)) (by (with_reducible repeat (first | refine bkN ?_ _ | refine bkD ?_ | refine bkA ?_ _)); exact BK416.out) hb)
      have n3_ := Aside0.mk (bkB (g := gb417) (o := .cells #[.int .i64 a2_0, .int .i64 a2_1, .int .i64 a2_2, .int .i64 a2_3, .int .i64 a2_4] 47 (0, 0)) (by (with_reducible repeat (first | refine bkN ?_ _ | refine bkD ?_ | refine bkA ?_ _)); exact BK417.out) hb)
      have n4_ := Aside0.mk (bkB (g := gb424) (o := .cells #[.int .i64 0, .int .i64 0] 28 (0, 0)) (by (with_reducible repeat (first | refine bkN ?_ _ | refine bkD ?_ | refine bkA ?_ _)); exact BK424.out) hb)
      have n5_ := Aside0.mk (below_step (by repeat (first | (with_reducible first | exact HB.out | apply blA | apply blN | apply blD | refine blS ?_ GE415.out | refine blS ?_ GE416.out | refine blS ?_ GE417.out | refine blS ?_ GE424.out) | exact HB.out)) hb)
      have n6_ := Aside0.mk (hbox)
      have n7_ := Aside0.mk ((by rw [hg]; exact (below_size (by repeat (first | (with_reducible first | exact HB.out | apply blA | apply blN | apply blD | refine blS ?_ GE415.out | refine blS ?_ GE416.out | refine blS ?_ GE417.out | refine blS ?_ GE424.out) | exact HB.out))) : w.heap.size ≤ gb425))
      have n8_ := Aside0.mk ((by rw [hg]; exact (below_size (by repeat (first | (with_reducible first | exact HB.out | apply blA | apply blN | apply blD | refine blS ?_ GE415.out | refine blS ?_ GE416.out | refine blS ?_ GE417.out | refine blS ?_ GE424.out) | exact HB.out))) : w.heap.size ≤ gb425))
      have n9_ := Aside0.mk ((by rw [hg]; exact Nat.ne_of_lt (blk_lt (g := gb415) (o := .cells #[.int .i64 a0_0, .int .i64 a0_1] 28 (0, 0)) (by (with_reducible repeat (first | refine bkN ?_ _ | refine bkD ?_ | refine bkA ?_ _)); exact BK415.out)) : gb415 ≠ gb425))
      have n10_ := Aside0.mk ((by rw [hg]; exact Nat.ne_of_gt (blk_lt (g := gb415) (o := .cells #[.int .i64 a0_0, .int .i64 a0_1] 28 (0, 0)) (by (with_reducible repeat (first | refine bkN ?_ _ | refine bkD ?_ | refine bkA ?_ _)); exact BK415.out)) : gb425 ≠ gb415))
      have n11_ := Aside0.mk ((by rw [hg]; exact Nat.ne_of_lt (blk_lt (g := gb416) (o := .cells #[.int .i64 a1_0, .int .i64 a1_1] 28 (0, 0)) (by (with_reducible repeat (first | refine bkN ?_ _ | refine bkD ?_ | refine bkA ?_ _)); exact BK416.out)) : gb416 ≠ gb425))
      have n12_ := Aside0.mk ((by rw [hg]; exact Nat.ne_of_gt (blk_lt (g := gb416) (o := .cells #[.int .i64 a1_0, .int .i64 a1_1] 28 (0, 0)) (by (with_reducible repeat (first | refine bkN ?_ _ | refine bkD ?_ | refine bkA ?_ _)); exact BK416.out)) : gb425 ≠ gb416))
      have n13_ := Aside0.mk ((by rw [hg]; exact Nat.ne_of_lt (blk_lt (g := gb417) (o := .cells #[.int .i64 a2_0, .int .i64 a2_1, .int .i64 a2_2, .int .i64 a2_3, .int .i64 a2_4] 47 (0, 0)) (by (with_reducible repeat (first | refine bkN ?_ _ | refine bkD ?_ | refine bkA ?_ _)); exact BK417.out)) : gb417 ≠ gb425))
      have n14_ := Aside0.mk ((by rw [hg]; exact Nat.ne_of_gt (blk_lt (g := gb417) (o := .cells #[.int .i64 a2_0, .int .i64 a2_1, .int .i64 a2_2, .int .i64 a2_3, .int .i64 a2_4] 47 (0, 0)) (by (with_reducible repeat (first | refine bkN ?_ _ | refine bkD ?_ | refine bkA ?_ _)); exact BK417.out)) : gb425 ≠ gb417))
      have n15_ := Aside0.mk ((by rw [hg]; exact Nat.ne_of_lt (blk_lt (g := gb424) (o := .cells #[.int .i64 0, .int .i64 0] 28 (0, 0)) (by (with_reducible repeat (first | refine bkN ?_ _ | refine bkD ?_ | refine bkA ?_ _)); exact BK424.out)) : gb424 ≠ gb425))
      have n16_ := Aside0.mk ((by rw [hg]; exact Nat.ne_of_gt (blk_lt (g := gb424) (o := .cells #[.int .i64 0, .int .i64 0] 28 (0, 0)) (by (with_reducible repeat (first | refine bkN ?_ _ | refine bkD ?_ | refine bkA ?_ _)); exact BK424.out)) : gb425 ≠ gb424))
      clear HO_21
      clear BK415
      clear BK416
      clear BK417
      clear BK424
      clear HB
      have HO_21 := n0_
      have BK415 := n1_
      have BK416 := n2_
      have BK417 := n3_
      have BK424 := n4_
      have HB := n5_
      have BK425 := n6_
      have GW425 := n7_
      have GE425 := n8_
      have NB415_425 := n9_
      have NB425_415 := n10_
      have NB416_425 := n11_
      have NB425_416 := n12_
      have NB417_425 := n13_
      have NB425_417 := n14_
      have NB424_425 := n15_
      have NB425_424 := n16_
      clear n0_ n1_ n2_ n3_ n4_ n5_ n6_ n7_ n8_ n9_ n10_ n11_ n12_ n13_ n14_ n15_ n16_
      clear hb hbox hg
      refine hK.out _ _ ⟨(bkC BK415.out 0).trans rfl, (bkC BK415.out 1).trans rfl, (bkC BK416.out 0).trans rfl, (bkC BK416.out 1).trans rfl⟩ (fun hHeld => ?_)
      clear hK K
      refine norm_ (a' := ?_) ?_ ?_
      rotate_left
      ·show Act.put _ (some 10) _ = _
       simp only [Act.put, List.setIfInBounds_toArray, List.set_cons_zero, List.set_cons_succ, i64_w, i32_w]
       rfl
      exact norm_ (by simp only [putAll, Act.put, List.setIfInBounds_toArray, List.set_cons_zero, List.set_cons_succ]) (hCont (gb424, gb425) _ ⟨hHeld, (by (with_reducible repeat (first | apply Kd.R_alloc | apply Kd.R_drewN | apply Kd.R_drew)); exact Kd.R_mono HO_21.out (fun _ hk => ⟨hk.1.1.1, ⟨hk.1.1.2, ⟨hk.1.2, hk.2⟩⟩⟩)), (by (with_reducible repeat (first | refine bkN ?_ _ | refine bkD ?_ | refine bkA ?_ _)); exact BK415.out), (by (with_reducible repeat (first | refine bkN ?_ _ | refine bkD ?_ | refine bkA ?_ _)); exact BK416.out), (by (with_reducible repeat (first | refine bkN ?_ _ | refine bkD ?_ | refine bkA ?_ _)); exact BK417.out), (by (with_reducible repeat (first | refine bkN ?_ _ | refine bkD ?_ | refine bkA ?_ _)); exact BK424.out), (by (with_reducible repeat (first | refine bkN ?_ _ | refine bkD ?_ | refine bkA ?_ _)); exact BK425.out), GW424.out, GE424.out, NB415_424.out, NB424_415.out, NB416_424.out, NB424_416.out, NB417_424.out, NB424_417.out, NB425_424.out, NB424_425.out, GW425.out, GE425.out, NB415_425.out, NB425_415.out, NB416_425.out, NB425_416.out, NB417_425.out, NB425_417.out, (by repeat (first | (with_reducible first | exact HB.out | apply blA | apply blN | apply blD | refine blS ?_ GE415.out | refine blS ?_ GE416.out | refine blS ?_ GE417.out | refine blS ?_ GE424.out | refine blS ?_ GE425.out) | exact HB.out))⟩)
     rintro ⟨gb424, gb425⟩ w55 ⟨hS_, h0_, h1_, h2_, h3_, h4_, h5_, h6_, h7_, h8_, h9_, h10_, h11_, h12_, h13_, h14_, h15_, h16_, h17_, h18_, h19_, h20_, h21_, h22_, h23_, h24_⟩
     have n0_ : Aside0 (Kd.R k28 28 w55 w.heap.size (fun k_ => k_ ≠ gb415 ∧ k_ ≠ gb416 ∧ k_ ≠ gb424 ∧ k_ ≠ gb425) (.slice Ao18 y419.length co18) y419) := ⟨h0_⟩
     have n1_ : Aside0 (w55.heap[gb415]? = some (.cells #[.int .i64 a0_0, .int .i64 a0_1] 28 (0, 0))) := ⟨h1_⟩
     have n2_ : Aside0 (w55.heap[gb416]? = some (.cells #[.int .i64 a1_0, .int .i64 a1_1] 28 (0, 0))) := ⟨h2_⟩
     have n3_ : Aside0 (w55.heap[gb417]? = some (.cells #[.int .i64 a2_0, .int .i64 a2_1, .int .i64 a2_2, .int .i64 a2_3, .int .i64 a2_4] 47 (0, 0))) := ⟨h3_⟩
     have n4_ : Aside0 (w55.heap[gb424]? = some (.cells #[.int .i64 0, .int .i64 0] 28 (0, 0))) := ⟨h4_⟩
     have n5_ : Aside0 (w55.heap[gb425]? = some (.cells #[.int .i64 0, .int .i64 0] 28 (0, 0))) := ⟨h5_⟩
     have n6_ : Aside0 (w.heap.size ≤ gb424) := ⟨h6_⟩
     have n7_ : Aside0 (w.heap.size ≤ gb424) := ⟨h7_⟩
     have n8_ : Aside0 (gb415 ≠ gb424) := ⟨h8_⟩
     have n9_ : Aside0 (gb424 ≠ gb415) := ⟨h9_⟩
     have n10_ : Aside0 (gb416 ≠ gb424) := ⟨h10_⟩
     have n11_ : Aside0 (gb424 ≠ gb416) := ⟨h11_⟩
     have n12_ : Aside0 (gb417 ≠ gb424) := ⟨h12_⟩
     have n13_ : Aside0 (gb424 ≠ gb417) := ⟨h13_⟩
     have n14_ : Aside0 (gb425 ≠ gb424) := ⟨h14_⟩
     have n15_ : Aside0 (gb424 ≠ gb425) := ⟨h15_⟩
     have n16_ : Aside0 (w.heap.size ≤ gb425) := ⟨h16_⟩
     have n17_ : Aside0 (w.heap.size ≤ gb425) := ⟨h17_⟩
     have n18_ : Aside0 (gb415 ≠ gb425) := ⟨h18_⟩
     have n19_ : Aside0 (gb425 ≠ gb415) := ⟨h19_⟩
     have n20_ : Aside0 (gb416 ≠ gb425) := ⟨h20_⟩
     have n21_ : Aside0 (gb425 ≠ gb416) := ⟨h21_⟩
     have n22_ : Aside0 (gb417 ≠ gb425) := ⟨h22_⟩
     have n23_ : Aside0 (gb425 ≠ gb417) := ⟨h23_⟩
     have n24_ : Aside0 (Below w.heap.size w w55) := ⟨h24_⟩
     clear HO_21
     clear BK415
     clear BK416
     clear BK417
     clear HB
     clear h0_ h1_ h2_ h3_ h4_ h5_ h6_ h7_ h8_ h9_ h10_ h11_ h12_ h13_ h14_ h15_ h16_ h17_ h18_ h19_ h20_ h21_ h22_ h23_ h24_
     have HO_21 := n0_
     have BK415 := n1_
     have BK416 := n2_
     have BK417 := n3_
     have BK424 := n4_
     have BK425 := n5_
     have GW424 := n6_
     have GE424 := n7_
     have NB415_424 := n8_
     have NB424_415 := n9_
     have NB416_424 := n10_
     have NB424_416 := n11_
     have NB417_424 := n12_
     have NB424_417 := n13_
     have NB425_424 := n14_
     have NB424_425 := n15_
     have GW425 := n16_
     have GE425 := n17_
     have NB415_425 := n18_
     have NB425_415 := n19_
     have NB416_425 := n20_
     have NB425_416 := n21_
     have NB417_425 := n22_
     have NB425_417 := n23_
     have HB := n24_
     clear n0_ n1_ n2_ n3_ n4_ n5_ n6_ n7_ n8_ n9_ n10_ n11_ n12_ n13_ n14_ n15_ n16_ n17_ n18_ n19_ n20_ n21_ n22_ n23_ n24_
     have hHeld : w55.cell? ⟨gb415, 0, none⟩ = some (.int .i64 a0_0) ∧ w55.cell? ⟨gb415, 1, none⟩ = some (.int .i64 a0_1) ∧ w55.cell? ⟨gb416, 0, none⟩ = some (.int .i64 a1_0) ∧ w55.cell? ⟨gb416, 1, none⟩ = some (.int .i64 a1_1) := hS_
     refine norm_ (a' := ?_) ?_ ?_
     rotate_left
     ·simp only [putAll, Act.put, List.setIfInBounds_toArray, List.set_cons_zero, List.set_cons_succ]
      rfl
     refine one_ (i := 16) (N := none) #[true, true, true, true, true, true, true, true, true, true, true, true, true, true, true, true, true, false] rfl rfl (one_of HT_.out (by kernel_rfl)) (by decide) (fun K hK => ?_)
     have hs56 : w55.cell? ⟨gb424, 0, none⟩ = some (.int .i64 0) := (bkC BK424.out 0).trans rfl
     have hfs56 := bkF BK424.out 0
     have hns56_0 := NB415_424.out
     have hns56_1 := NB416_424.out
     have hns56_2 := NB417_424.out
     have hns56_4 := NB425_424.out
     have hms56_0 := NB424_415.out
     have hms56_1 := NB424_416.out
     have hms56_2 := NB424_417.out
     have hms56_4 := NB424_425.out
     have hs57 : w55.cell? ⟨gb424, 1, none⟩ = some (.int .i64 0) := (bkC BK424.out 1).trans rfl
     have hfs57 := bkF BK424.out 1
     have hns57_0 := NB415_424.out
     have hns57_1 := NB416_424.out
     have hns57_2 := NB417_424.out
     have hns57_4 := NB425_424.out
     have hms57_0 := NB424_415.out
     have hms57_1 := NB424_416.out
     have hms57_2 := NB424_417.out
     have hms57_4 := NB424_425.out
     refine skip_ (w1 := ?_) (by rfl) rfl ?_ ?_
     rotate_left
     ·go_simp
      rfl
     refine hK.out _ _ ⟨((cell_far (p := ⟨gb424, _, none⟩) NB415_424.out _).trans (((cell_far (p := ⟨gb424, _, none⟩) NB415_424.out _).trans (hHeld.1)))), ((cell_far (p := ⟨gb424, _, none⟩) NB415_424.out _).trans (((cell_far (p := ⟨gb424, _, none⟩) NB415_424.out _).trans (hHeld.2.1)))), ((cell_far (p := ⟨gb424, _, none⟩) NB416_424.out _).trans (((cell_far (p := ⟨gb424, _, none⟩) NB416_424.out _).trans (hHeld.2.2.1)))), ((cell_far (p := ⟨gb424, _, none⟩) NB416_424.out _).trans (((cell_far (p := ⟨gb424, _, none⟩) NB416_424.out _).trans (hHeld.2.2.2))))⟩ (fun hHeld => ?_)
     clear hK K
     refine one_ (i := 17) (N := none) #[true, true, true, true, true, true, true, true, true, true, true, true, true, true, true, true, true, true] rfl rfl (one_of HT_.out (by kernel_rfl)) (by decide) (fun K hK => ?_)
     have hs58 : w55.cell? ⟨gb425, 0, none⟩ = some (.int .i64 0) := (bkC BK425.out 0).trans rfl
     have hfs58 := bkF BK425.out 0
     have hns58_0 := NB415_425.out
     have hns58_1 := NB416_425.out
     have hns58_2 := NB417_425.out
     have hns58_3 := NB424_425.out
     have hms58_0 := NB425_415.out
     have hms58_1 := NB425_416.out
     have hms58_2 := NB425_417.out
     have hms58_3 := NB425_424.out
     have hs59 : w55.cell? ⟨gb425, 1, none⟩ = some (.int .i64 0) := (bkC BK425.out 1).trans rfl
     have hfs59 := bkF BK425.out 1
     have hns59_0 := NB415_425.out
     have hns59_1 := NB416_425.out
     have hns59_2 := NB417_425.out
     have hns59_3 := NB424_425.out
     have hms59_0 := NB425_415.out
     have hms59_1 := NB425_416.out
     have hms59_2 := NB425_417.out
     have hms59_3 := NB425_424.out
     refine skip_ (w1 := ?_) (by rfl) rfl ?_ ?_
     rotate_left
     ·go_simp
      rfl
     refine hK.out _ _ ⟨((cell_far (p := ⟨gb425, _, none⟩) NB415_425.out _).trans (((cell_far (p := ⟨gb425, _, none⟩) NB415_425.out _).trans (hHeld.1)))), ((cell_far (p := ⟨gb425, _, none⟩) NB415_425.out _).trans (((cell_far (p := ⟨gb425, _, none⟩) NB415_425.out _).trans (hHeld.2.1)))), ((cell_far (p := ⟨gb425, _, none⟩) NB416_425.out _).trans (((cell_far (p := ⟨gb425, _, none⟩) NB416_425.out _).trans (hHeld.2.2.1)))), ((cell_far (p := ⟨gb425, _, none⟩) NB416_425.out _).trans (((cell_far (p := ⟨gb425, _, none⟩) NB416_425.out _).trans (hHeld.2.2.2))))⟩ (fun hHeld => ?_)
     clear hK K
     refine done_ (done_of HT_.out (by kernel_rfl)) ?_
     have hnb60 := NB415_416.out
     have hnc60 := NB416_415.out
     have hnb61 := NB415_417.out
     have hnc61 := NB417_415.out
     have hnb62 := NB415_424.out
     have hnc62 := NB424_415.out
     have hnb63 := NB415_425.out
     have hnc63 := NB425_415.out
     have hcz64_0 : w55.cell? ⟨gb415, 0, none⟩ = some (.int .i64 a0_0) := (bkC BK415.out 0).trans rfl
     have hcz64_1 : w55.cell? ⟨gb415, 1, none⟩ = some (.int .i64 a0_1) := (bkC BK415.out 1).trans rfl
     have hfz64_0 := bkF BK415.out 0
     have hfz64_1 := bkF BK415.out 1
     have hnb65 := NB416_417.out
     have hnc65 := NB417_416.out
     have hnb66 := NB416_424.out
     have hnc66 := NB424_416.out
     have hnb67 := NB416_425.out
     have hnc67 := NB425_416.out
     have hcz68_0 : w55.cell? ⟨gb416, 0, none⟩ = some (.int .i64 a1_0) := (bkC BK416.out 0).trans rfl
     have hcz68_1 : w55.cell? ⟨gb416, 1, none⟩ = some (.int .i64 a1_1) := (bkC BK416.out 1).trans rfl
     have hfz68_0 := bkF BK416.out 0
     have hfz68_1 := bkF BK416.out 1
     go_upto_region 11 with (first | ((with_reducible refine gate_dst (N := 11) rfl ?_); refine box_event ?hg (N := 11) ?hd (cs := #[.int .i64 0, .int .i64 0]) (t := 28) ?hr ?_; (case hd => rfl); (case hg => rfl); (case hr => first | (go_simp; done) | (go_simp; rfl)); intro gb426 hg w69 hbox hb; have n0_ := Aside0.mk (Kd.R_below (Kd.R_elderB (by (with_reducible repeat (first | apply Kd.R_alloc | apply Kd.R_drewN | apply Kd.R_drew)); exact (Kd.R_mono (Kd.R_mono (Kd.R_far (p := ⟨gb425, 1, none⟩) (Kd.R_far (p := ⟨gb425, 0, none⟩) (Kd.R_far (p := ⟨gb424, 1, none⟩) (Kd.R_far (p := ⟨gb424, 0, none⟩) (Kd.R_mono (Kd.R_mono HO_21.out (fun k_ hk => (⟨hk, hk.2.2.1⟩ : _ ∧ k_ ≠ gb424))) (fun k_ hk => (⟨hk, hk.1.2.2.2⟩ : _ ∧ k_ ≠ gb425))) (fun _ hk => hk.1.2) (.int .i64 (wrap64 (2 * a0_0)))) (fun _ hk => hk.1.2) (.int .i64 (wrap64 (2 * a0_1)))) (fun _ hk => hk.2) (.int .i64 (wrap64 (2 * a1_0)))) (fun _ hk => hk.2) (.int .i64 (wrap64 (2 * a1_1)))) (fun _ h_ => h_.1)) (fun _ h_ => h_.1))) gb426 (Nat.le_of_eq hg.symm)) hb); have n1_ := Aside0.mk (bkB (g := gb415) (o := .cells #[.int .i64 a0_0, .int .i64 a0_1] 28 (0, 0)) (by (with_reducible repeat (first | refine bkN ?_ _ | refine bkD ?_ | refine bkA ?_ _)); refine blk_far ?_ NB415_425.out _; (with_reducible repeat (first | refine bkN ?_ _ | refine bkD ?_ | refine bkA ?_ _)); refine blk_far ?_ NB415_425.out _; (with_reducible repeat (first | refine bkN ?_ _ | refine bkD ?_ | refine bkA ?_ _)); refine blk_far ?_ NB415_424.out _; (with_reducible repeat (first | refine bkN ?_ _ | refine bkD ?_ | refine bkA ?_ _)); refine blk_far ?_ NB415_424.out _; (with_reducible repeat (first | refine bkN ?_ _ | refine bkD ?_ | refine bkA ?_ _)); exact BK415.out) hb); have n2_ := Aside0.mk (bkB (g := gb416) (o := .cells #[.int .i64 a1_0, .int .i64 a1_1] 28 (0, 0)) (by (with_reducible repeat (first | refine bkN ?_ _ | refine bkD ?_ | refine bkA ?_ _)); refine blk_far ?_ NB416_425.out _; (with_reducible repeat (first | refine bkN ?_ _ | refine bkD ?_ | refine bkA ?_ _)); refine blk_far ?_ NB416_425.out _; (with_reducible repeat (first | refine bkN ?_ _ | refine bkD ?_ | refine bkA ?_ _)); refine blk_far ?_ NB416_424.out _; (with_reducible repeat (first | refine bkN ?_ _ | refine bkD ?_ | refine bkA ?_ _)); refine blk_far ?_ NB416_424.out _; (with_reducible repeat (first | refine bkN ?_ _ | refine bkD ?_ | refine bkA ?_ _)); exact BK416.out) hb); have n3_ := Aside0.mk (bkB (g := gb417) (o := .cells #[.int .i64 a2_0, .int .i64 a2_1, .int .i64 a2_2, .int .i64 a2_3, .int .i64 a2_4] 47 (0, 0)) (by (with_reducible repeat (first | refine bkN ?_ _ | refine bkD ?_ | refine bkA ?_ _)); refine blk_far ?_ NB417_425.out _; (with_reducible repeat (first | refine bkN ?_ _ | refine bkD ?_ | refine bkA ?_ _)); refine blk_far ?_ NB417_425.out _; (with_reducible repeat (first | refine bkN ?_ _ | refine bkD ?_ | refine bkA ?_ _)); refine blk_far ?_ NB417_424.out _; (with_reducible repeat (first | refine bkN ?_ _ | refine bkD ?_ | refine bkA ?_ _)); refine blk_far ?_ NB417_424.out _; (with_reducible repeat (first | refine bkN ?_ _ | refine bkD ?_ | refine bkA ?_ _)); exact BK417.out) hb); have n4_ := Aside0.mk (bkB (g := gb424) (o := .cells #[.int .i64 (wrap64 (2 * a0_0)), .int .i64 (wrap64 (2 * a0_1))] 28 (0, 0)) (by (with_reducible repeat (first | refine bkN ?_ _ | refine bkD ?_ | refine bkA ?_ _)); refine blk_far ?_ NB424_425.out _; (with_reducible repeat (first | refine bkN ?_ _ | refine bkD ?_ | refine bkA ?_ _)); refine blk_far ?_ NB424_425.out _; (with_reducible repeat (first | refine bkN ?_ _ | refine bkD ?_ | refine bkA ?_ _)); refine blk_put (cs := #[.int .i64 (wrap64 (2 * a0_0)), .int .i64 0]) ?_ 1 _ rfl; (with_reducible repeat (first | refine bkN ?_ _ | refine bkD ?_ | refine bkA ?_ _)); refine blk_put (cs := #[.int .i64 0, .int .i64 0]) ?_ 0 _ rfl; (with_reducible repeat (first | refine bkN ?_ _ | refine bkD ?_ | refine bkA ?_ _)); exact BK424.out) hb); have n5_ := Aside0.mk (bkB (g := gb425) (o := .cells #[.int .i64 (wrap64 (2 * a1_0)), .int .i64 (wrap64 (2 * a1_1))] 28 (0, 0)) (by (with_reducible repeat (first | refine bkN ?_ _ | refine bkD ?_ | refine bkA ?_ _)); refine blk_put (cs := #[.int .i64 (wrap64 (2 * a1_0)), .int .i64 0]) ?_ 1 _ rfl; (with_reducible repeat (first | refine bkN ?_ _ | refine bkD ?_ | refine bkA ?_ _)); refine blk_put (cs := #[.int .i64 0, .int .i64 0]) ?_ 0 _ rfl; (with_reducible repeat (first | refine bkN ?_ _ | refine bkD ?_ | refine bkA ?_ _)); refine blk_far ?_ NB425_424.out _; (with_reducible repeat (first | refine bkN ?_ _ | refine bkD ?_ | refine bkA ?_ _)); refine blk_far ?_ NB425_424.out _; (with_reducible repeat (first | refine bkN ?_ _ | refine bkD ?_ | refine bkA ?_ _)); exact BK425.out) hb); have n6_ := Aside0.mk (below_step (by repeat (first | (with_reducible first | exact HB.out | apply blA | apply blN | apply blD | refine blS ?_ GE415.out | refine blS ?_ GE416.out | refine blS ?_ GE417.out | refine blS ?_ GE424.out | refine blS ?_ GE425.out) | exact HB.out)) hb); have n7_ := Aside0.mk (hbox); have n8_ := Aside0.mk ((by rw [hg]; exact (below_size (by repeat (first | (with_reducible first | exact HB.out | apply blA | apply blN | apply blD | refine blS ?_ GE415.out | refine blS ?_ GE416.out | refine blS ?_ GE417.out | refine blS ?_ GE424.out | refine blS ?_ GE425.out) | exact HB.out))) : w.heap.size ≤ gb426)); have n9_ := Aside0.mk ((by rw [hg]; exact (below_size (by repeat (first | (with_reducible first | exact HB.out | apply blA | apply blN | apply blD | refine blS ?_ GE415.out | refine blS ?_ GE416.out | refine blS ?_ GE417.out | refine blS ?_ GE424.out | refine blS ?_ GE425.out) | exact HB.out))) : w.heap.size ≤ gb426)); have n10_ := Aside0.mk ((by rw [hg]; exact Nat.ne_of_lt (blk_lt (g := gb415) (o := .cells #[.int .i64 a0_0, .int .i64 a0_1] 28 (0, 0)) (by (with_reducible repeat (first | refine bkN ?_ _ | refine bkD ?_ | refine bkA ?_ _)); refine blk_far ?_ NB415_425.out _; (with_reducible repeat (first | refine bkN ?_ _ | refine bkD ?_ | refine bkA ?_ _)); refine blk_far ?_ NB415_425.out _; (with_reducible repeat (first | refine bkN ?_ _ | refine bkD ?_ | refine bkA ?_ _)); refine blk_far ?_ NB415_424.out _; (with_reducible repeat (first | refine bkN ?_ _ | refine bkD ?_ | refine bkA ?_ _)); refine blk_far ?_ NB415_424.out _; (with_reducible repeat (first | refine bkN ?_ _ | refine bkD ?_ | refine bkA ?_ _)); exact BK415.out)) : gb415 ≠ gb426)); have n11_ := Aside0.mk ((by rw [hg]; exact Nat.ne_of_gt (blk_lt (g := gb415) (o := .cells #[.int .i64 a0_0, .int .i64 a0_1] 28 (0, 0)) (by (with_reducible repeat (first | refine bkN ?_ _ | refine bkD ?_ | refine bkA ?_ _)); refine blk_far ?_ NB415_425.out _; (with_reducible repeat (first | refine bkN ?_ _ | refine bkD ?_ | refine bkA ?_ _)); refine blk_far ?_ NB415_425.out _; (with_reducible repeat (first | refine bkN ?_ _ | refine bkD ?_ | refine bkA ?_ _)); refine blk_far ?_ NB415_424.out _; (with_reducible repeat (first | refine bkN ?_ _ | refine bkD ?_ | refine bkA ?_ _)); refine blk_far ?_ NB415_424.out _; (with_reducible repeat (first | refine bkN ?_ _ | refine bkD ?_ | refine bkA ?_ _)); exact BK415.out)) : gb426 ≠ gb415)); have n12_ := Aside0.mk ((by rw [hg]; exact Nat.ne_of_lt (blk_lt (g := gb416) (o := .cells #[.int .i64 a1_0, .int .i64 a1_1] 28 (0, 0)) (by (with_reducible repeat (first | refine bkN ?_ _ | refine bkD ?_ | refine bkA ?_ _)); refine blk_far ?_ NB416_425.out _; (with_reducible repeat (first | refine bkN ?_ _ | refine bkD ?_ | refine bkA ?_ _)); refine blk_far ?_ NB416_425.out _; (with_reducible repeat (first | refine bkN ?_ _ | refine bkD ?_ | refine bkA ?_ _)); refine blk_far ?_ NB416_424.out _; (with_reducible repeat (first | refine bkN ?_ _ | refine bkD ?_ | refine bkA ?_ _)); refine blk_far ?_ NB416_424.out _; (with_reducible repeat (first | refine bkN ?_ _ | refine bkD ?_ | refine bkA ?_ _)); exact BK416.out)) : gb416 ≠ gb426)); have n13_ := Aside0.mk ((by rw [hg]; exact Nat.ne_of_gt (blk_lt (g := gb416) (o := .cells #[.int .i64 a1_0, .int .i64 a1_1] 28 (0, 0)) (by (with_reducible repeat (first | refine bkN ?_ _ | refine bkD ?_ | refine bkA ?_ _)); refine blk_far ?_ NB416_425.out _; (with_reducible repeat (first | refine bkN ?_ _ | refine bkD ?_ | refine bkA ?_ _)); refine blk_far ?_ NB416_425.out _; (with_reducible repeat (first | refine bkN ?_ _ | refine bkD ?_ | refine bkA ?_ _)); refine blk_far ?_ NB416_424.out _; (with_reducible repeat (first | refine bkN ?_ _ | refine bkD ?_ | refine bkA ?_ _)); refine blk_far ?_ NB416_424.out _; (with_reducible repeat (first | refine bkN ?_ _ | refine bkD ?_ | refine bkA ?_ _)); exact BK416.out)) : gb426 ≠ gb416)); have n14_ := Aside0.mk ((by rw [hg]; exact Nat.ne_of_lt (blk_lt (g := gb417) (o := .cells #[.int .i64 a2_0, .int .i64 a2_1, .int .i64 a2_2, .int .i64 a2_3, .int .i64 a2_4] 47 (0, 0)) (by (with_reducible repeat (first | refine bkN ?_ _ | refine bkD ?_ | refine bkA ?_ _)); refine blk_far ?_ NB417_425.out _; (with_reducible repeat (first | refine bkN ?_ _ | refine bkD ?_ | refine bkA ?_ _)); refine blk_far ?_ NB417_425.out _; (with_reducible repeat (first | refine bkN ?_ _ | refine bkD ?_ | refine bkA ?_ _)); refine blk_far ?_ NB417_424.out _; (with_reducible repeat (first | refine bkN ?_ _ | refine bkD ?_ | refine bkA ?_ _)); refine blk_far ?_ NB417_424.out _; (with_reducible repeat (first | refine bkN ?_ _ | refine bkD ?_ | refine bkA ?_ _)); exact BK417.out)) : gb417 ≠ gb426)); have n15_ := Aside0.mk ((by rw [hg]; exact Nat.ne_of_gt (blk_lt (g := gb417) (o := .cells #[.int .i64 a2_0, .int .i64 a2_1, .int .i64 a2_2, .int .i64 a2_3, .int .i64 a2_4] 47 (0, 0)) (by (with_reducible repeat (first | refine bkN ?_ _ | refine bkD ?_ | refine bkA ?_ _)); refine blk_far ?_ NB417_425.out _; (with_reducible repeat (first | refine bkN ?_ _ | refine bkD ?_ | refine bkA ?_ _)); refine blk_far ?_ NB417_425.out _; (with_reducible repeat (first | refine bkN ?_ _ | refine bkD ?_ | refine bkA ?_ _)); refine blk_far ?_ NB417_424.out _; (with_reducible repeat (first | refine bkN ?_ _ | refine bkD ?_ | refine bkA ?_ _)); refine blk_far ?_ NB417_424.out _; (with_reducible repeat (first | refine bkN ?_ _ | refine bkD ?_ | refine bkA ?_ _)); exact BK417.out)) : gb426 ≠ gb417)); have n16_ := Aside0.mk ((by rw [hg]; exact Nat.ne_of_lt (blk_lt (g := gb424) (o := .cells #[.int .i64 (wrap64 (2 * a0_0)), .int .i64 (wrap64 (2 * a0_1))] 28 (0, 0)) (by (with_reducible repeat (first | refine bkN ?_ _ | refine bkD ?_ | refine bkA ?_ _)); refine blk_far ?_ NB424_425.out _; (with_reducible repeat (first | refine bkN ?_ _ | refine bkD ?_ | refine bkA ?_ _)); refine blk_far ?_ NB424_425.out _; (with_reducible repeat (first | refine bkN ?_ _ | refine bkD ?_ | refine bkA ?_ _)); refine blk_put (cs := #[.int .i64 (wrap64 (2 * a0_0)), .int .i64 0]) ?_ 1 _ rfl; (with_reducible repeat (first | refine bkN ?_ _ | refine bkD ?_ | refine bkA ?_ _)); refine blk_put (cs := #[.int .i64 0, .int .i64 0]) ?_ 0 _ rfl; (with_reducible repeat (first | refine bkN ?_ _ | refine bkD ?_ | refine bkA ?_ _)); exact BK424.out)) : gb424 ≠ gb426)); have n17_ := Aside0.mk ((by rw [hg]; exact Nat.ne_of_gt (blk_lt (g := gb424) (o := .cells #[.int .i64 (wrap64 (2 * a0_0)), .int .i64 (wrap64 (2 * a0_1))] 28 (0, 0)) (by (with_reducible repeat (first | refine bkN ?_ _ | refine bkD ?_ | refine bkA ?_ _)); refine blk_far ?_ NB424_425.out _; (with_reducible repeat (first | refine bkN ?_ _ | refine bkD ?_ | refine bkA ?_ _)); refine blk_far ?_ NB424_425.out _; (with_reducible repeat (first | refine bkN ?_ _ | refine bkD ?_ | refine bkA ?_ _)); refine blk_put (cs := #[.int .i64 (wrap64 (2 * a0_0)), .int .i64 0]) ?_ 1 _ rfl; (with_reducible repeat (first | refine bkN ?_ _ | refine bkD ?_ | refine bkA ?_ _)); refine blk_put (cs := #[.int .i64 0, .int .i64 0]) ?_ 0 _ rfl; (with_reducible repeat (first | refine bkN ?_ _ | refine bkD ?_ | refine bkA ?_ _)); exact BK424.out)) : gb426 ≠ gb424)); have n18_ := Aside0.mk ((by rw [hg]; exact Nat.ne_of_lt (blk_lt (g := gb425) (o := .cells #[.int .i64 (wrap64 (2 * a1_0)), .int .i64 (wrap64 (2 * a1_1))] 28 (0, 0)) (by (with_reducible repeat (first | refine bkN ?_ _ | refine bkD ?_ | refine bkA ?_ _)); refine blk_put (cs := #[.int .i64 (wrap64 (2 * a1_0)), .int .i64 0]) ?_ 1 _ rfl; (with_reducible repeat (first | refine bkN ?_ _ | refine bkD ?_ | refine bkA ?_ _)); refine blk_put (cs := #[.int .i64 0, .int .i64 0]) ?_ 0 _ rfl; (with_reducible repeat (first | refine bkN ?_ _ | refine bkD ?_ | refine bkA ?_ _)); refine blk_far ?_ NB425_424.out _; (with_reducible repeat (first | refine bkN ?_ _ | refine bkD ?_ | refine bkA ?_ _)); refine blk_far ?_ NB425_424.out _; (with_reducible repeat (first | refine bkN ?_ _ | refine bkD ?_ | refine bkA ?_ _)); exact BK425.out)) : gb425 ≠ gb426)); have n19_ := Aside0.mk ((by rw [hg]; exact Nat.ne_of_gt (blk_lt (g := gb425) (o := .cells #[.int .i64 (wrap64 (2 * a1_0)), .int .i64 (wrap64 (2 * a1_1))] 28 (0, 0)) (by (with_reducible repeat (first | refine bkN ?_ _ | refine bkD ?_ | refine bkA ?_ _)); refine blk_put (cs := #[.int .i64 (wrap64 (2 * a1_0)), .int .i64 0]) ?_ 1 _ rfl; (with_reducible repeat (first | refine bkN ?_ _ | refine bkD ?_ | refine bkA ?_ _)); refine blk_put (cs := #[.int .i64 0, .int .i64 0]) ?_ 0 _ rfl; (with_reducible repeat (first | refine bkN ?_ _ | refine bkD ?_ | refine bkA ?_ _)); refine blk_far ?_ NB425_424.out _; (with_reducible repeat (first | refine bkN ?_ _ | refine bkD ?_ | refine bkA ?_ _)); refine blk_far ?_ NB425_424.out _; (with_reducible repeat (first | refine bkN ?_ _ | refine bkD ?_ | refine bkA ?_ _)); exact BK425.out)) : gb426 ≠ gb425)); clear HO_21; clear BK415; clear BK416; clear BK417; clear BK424; clear BK425; clear HB; have HO_21 := n0_; have BK415 := n1_; have BK416 := n2_; have BK417 := n3_; have BK424 := n4_; have BK425 := n5_; have HB := n6_; have BK426 := n7_; have GW426 := n8_; have GE426 := n9_; have NB415_426 := n10_; have NB426_415 := n11_; have NB416_426 := n12_; have NB426_416 := n13_; have NB417_426 := n14_; have NB426_417 := n15_; have NB424_426 := n16_; have NB426_424 := n17_; have NB425_426 := n18_; have NB426_425 := n19_; clear n0_ n1_ n2_ n3_ n4_ n5_ n6_ n7_ n8_ n9_ n10_ n11_ n12_ n13_ n14_ n15_ n16_ n17_ n18_ n19_; clear hb hbox hg; have hnb70 := NB426_415.out; have hnc70 := NB415_426.out; have hnb71 := NB426_416.out; have hnc71 := NB416_426.out; have hnb72 := NB426_417.out; have hnc72 := NB417_426.out; have hnb73 := NB426_424.out; have hnc73 := NB424_426.out; have hnb74 := NB426_425.out; have hnc74 := NB425_426.out; have hcz75_0 : w69.cell? ⟨gb426, 0, none⟩ = some (.int .i64 0) := (bkC BK426.out 0).trans rfl; have hcz75_1 : w69.cell? ⟨gb426, 1, none⟩ = some (.int .i64 0) := (bkC BK426.out 1).trans rfl; have hfz75_0 := bkF BK426.out 0; have hfz75_1 := bkF BK426.out 1))
     (try simp only [Act.put, List.setIfInBounds_toArray, List.set_cons_zero, List.set_cons_succ])
     go_cut [108] (fun v108 wc => ∃ (kq : Nat) (x108_50 : Bool), v108 = .bool x108_50 ∧ Aside0 (hopmeshlaw05_GeometryCrossings.j1 kq x108_50 a0_0 a0_1 a1_0 a1_1 a2_0 a2_1 a2_2 a2_3 a2_4 = some r) ∧ Aside0 (kq ≤ k1) ∧ Aside0 (wc.heap[gb415]? = some (.cells #[.int .i64 a0_0, .int .i64 a0_1] 28 (0, 0))) ∧ Aside0 (wc.heap[gb416]? = some (.cells #[.int .i64 a1_0, .int .i64 a1_1] 28 (0, 0))) ∧ Aside0 (wc.heap[gb417]? = some (.cells #[.int .i64 a2_0, .int .i64 a2_1, .int .i64 a2_2, .int .i64 a2_3, .int .i64 a2_4] 47 (0, 0))) ∧ Aside0 (wc.heap[gb424]? = some (.cells #[.int .i64 (wrap64 (2 * a0_0)), .int .i64 (wrap64 (2 * a0_1))] 28 (0, 0))) ∧ Aside0 (wc.heap[gb425]? = some (.cells #[.int .i64 (wrap64 (2 * a1_0)), .int .i64 (wrap64 (2 * a1_1))] 28 (0, 0))) ∧ Aside0 (wc.heap[gb426]? = some (.cells #[.int .i64 (wrap64 (a0_0 + a1_0)), .int .i64 (wrap64 (a0_1 + a1_1))] 28 (0, 0))) ∧ Aside0 (Below w.heap.size w wc))
     case first => as_aux_lemma =>
      have H := HC51.out
      clear HC51
      replace H := Option.bind_eq_some_iff.mp H
      obtain ⟨t427, A760, H⟩ := H
      replace H : (if t427 = true then ((geometry_Crosses.f k1 (wrap64 (2 * a0_0)) (wrap64 (2 * a0_1)) (wrap64 (2 * a1_0)) (wrap64 (2 * a1_1)) a2_2 a2_3 (wrap64 (a0_0 + a1_0)) (wrap64 (a0_1 + a1_1)) 0).bind fun t428 => (if t428 = true then ((geometry_Crosses.f k1 a0_0 a0_1 a1_0 a1_1 a0_0 a0_1 a2_0 a2_1 0).bind fun t429 => (if t429 = true then ((geometry_Crosses.f k1 a0_0 a0_1 a1_0 a1_1 a2_2 a2_3 a1_0 a1_1 0).bind fun t430 => (hopmeshlaw05_GeometryCrossings.j1 k1 (!t430) a0_0 a0_1 a1_0 a1_1 a2_0 a2_1 a2_2 a2_3 a2_4)) else (hopmeshlaw05_GeometryCrossings.j1 k1 true a0_0 a0_1 a1_0 a1_1 a2_0 a2_1 a2_2 a2_3 a2_4))) else (hopmeshlaw05_GeometryCrossings.j1 k1 true a0_0 a0_1 a1_0 a1_1 a2_0 a2_1 a2_2 a2_3 a2_4))) else (hopmeshlaw05_GeometryCrossings.j1 k1 true a0_0 a0_1 a1_0 a1_1 a2_0 a2_1 a2_2 a2_3 a2_4)) = some r := H
      have A76 := Aside0.mk A760
      clear A760
      by_cases c77 : t427 = true
      rotate_left
      ·replace c77 := Bool.eq_false_iff.mpr c77
       subst c77
       have H1 : (hopmeshlaw05_GeometryCrossings.j1 k1 true a0_0 a0_1 a1_0 a1_1 a2_0 a2_1 a2_2 a2_3 a2_4) = some r := by rw [if_neg (show ¬ (false = true) by decide)] at H; exact H
       clear H
       have H := H1
       clear H1
       have H' := Aside0.mk H
       clear H
       have hnb169 := NB424_415.out
       have hnc169 := NB415_424.out
       have hnb170 := NB424_416.out
       have hnc170 := NB416_424.out
       have hnb171 := NB424_417.out
       have hnc171 := NB417_424.out
       have hnb172 := NB424_425.out
       have hnc172 := NB425_424.out
       have hnb173 := NB424_426.out
       have hnc173 := NB426_424.out
       have hcz174_0 : w69.cell? ⟨gb424, 0, none⟩ = some (.int .i64 (wrap64 (2 * a0_0))) := (bkC BK424.out 0).trans rfl
       have hcz174_1 : w69.cell? ⟨gb424, 1, none⟩ = some (.int .i64 (wrap64 (2 * a0_1))) := (bkC BK424.out 1).trans rfl
       have hfz174_0 := bkF BK424.out 0
       have hfz174_1 := bkF BK424.out 1
       have hnb175 := NB425_415.out
       have hnc175 := NB415_425.out
       have hnb176 := NB425_416.out
       have hnc176 := NB416_425.out
       have hnb177 := NB425_417.out
       have hnc177 := NB417_425.out
       have hnb178 := NB425_426.out
       have hnc178 := NB426_425.out
       have hcz179_0 : w69.cell? ⟨gb425, 0, none⟩ = some (.int .i64 (wrap64 (2 * a1_0))) := (bkC BK425.out 0).trans rfl
       have hcz179_1 : w69.cell? ⟨gb425, 1, none⟩ = some (.int .i64 (wrap64 (2 * a1_1))) := (bkC BK425.out 1).trans rfl
       have hfz179_0 := bkF BK425.out 0
       have hfz179_1 := bkF BK425.out 1
       have hnb180 := NB426_415.out
       have hnc180 := NB415_426.out
       have hnb181 := NB426_416.out
       have hnc181 := NB416_426.out
       have hnb182 := NB426_417.out
       have hnc182 := NB417_426.out
       have hcz183_0 : w69.cell? ⟨gb426, 0, none⟩ = some (.int .i64 0) := (bkC BK426.out 0).trans rfl
       have hcz183_1 : w69.cell? ⟨gb426, 1, none⟩ = some (.int .i64 0) := (bkC BK426.out 1).trans rfl
       have hfz183_0 := bkF BK426.out 0
       have hfz183_1 := bkF BK426.out 1
       have hnb184 := NB417_415.out
       have hnc184 := NB415_417.out
       have hnb185 := NB417_416.out
       have hnc185 := NB416_417.out
       have hcz186_0 : w69.cell? ⟨gb417, 0, none⟩ = some (.int .i64 a2_0) := (bkC BK417.out 0).trans rfl
       have hcz186_1 : w69.cell? ⟨gb417, 1, none⟩ = some (.int .i64 a2_1) := (bkC BK417.out 1).trans rfl
       have hcz186_2 : w69.cell? ⟨gb417, 2, none⟩ = some (.int .i64 a2_2) := (bkC BK417.out 2).trans rfl
       have hcz186_3 : w69.cell? ⟨gb417, 3, none⟩ = some (.int .i64 a2_3) := (bkC BK417.out 3).trans rfl
       have hcz186_4 : w69.cell? ⟨gb417, 4, none⟩ = some (.int .i64 a2_4) := (bkC BK417.out 4).trans rfl
       have hfz186_0 := bkF BK417.out 0
       have hfz186_1 := bkF BK417.out 1
       have hfz186_2 := bkF BK417.out 2
       have hfz186_3 := bkF BK417.out 3
       have hfz186_4 := bkF BK417.out 4
       go_wp2_with (first | ((with_reducible refine gate_callee (f := 27) rfl ?_); refine goesL_ (some 77) rfl rfl Try.func27 (by kernel_rfl) rfl #[.agg #[.int .i64 (wrap64 (2 * a0_0)), .int .i64 (wrap64 (2 * a0_1))], .agg #[.int .i64 (wrap64 (2 * a1_0)), .int .i64 (wrap64 (2 * a1_1))], .agg #[.int .i64 (wrap64 (a0_0 + a1_0)), .int .i64 (wrap64 (a0_1 + a1_1)), .int .i64 a2_0, .int .i64 a2_1, .int .i64 0]] rfl (by (try simp only [List.map_toArray, List.map_cons, List.map_nil]); first | done | rfl | (simp only [List.length_drop, List.length_take]; rfl)) ?_; (with_reducible refine (geometry_Crosses.calls k1 (wrap64 (2 * a0_0)) (wrap64 (2 * a0_1)) (wrap64 (2 * a1_0)) (wrap64 (2 * a1_1)) (wrap64 (a0_0 + a1_0)) (wrap64 (a0_1 + a1_1)) a2_0 a2_1 0 false _ A76.out).mono ?_); rintro e w187 ⟨rfl, hb⟩; refine ⟨_, rfl, ?_⟩; have n0_ := Aside0.mk (Kd.R_below (by (with_reducible repeat (first | apply Kd.R_alloc | apply Kd.R_drewN | apply Kd.R_drew)); exact (Kd.R_mono (Kd.R_far (p := ⟨gb426, 1, none⟩) (Kd.R_far (p := ⟨gb426, 0, none⟩) (Kd.R_mono HO_21.out (fun k_ hk => (⟨hk, hk.2⟩ : _ ∧ k_ ≠ gb426))) (fun _ hk => hk.2) (.int .i64 (wrap64 (a0_0 + a1_0)))) (fun _ hk => hk.2) (.int .i64 (wrap64 (a0_1 + a1_1)))) (fun _ h_ => h_.1))) hb); have n1_ := Aside0.mk (bkB (g := gb415) (o := .cells #[.int .i64 a0_0, .int .i64 a0_1] 28 (0, 0)) (by (with_reducible repeat (first | refine bkN ?_ _ | refine bkD ?_ | refine bkA ?_ _)); refine blk_far ?_ NB415_426.out _; (with_reducible repeat (first | refine bkN ?_ _ | refine bkD ?_ | refine bkA ?_ _)); refine blk_far ?_ NB415_426.out _; (with_reducible repeat (first | refine bkN ?_ _ | refine bkD ?_ | refine bkA ?_ _)); exact BK415.out) hb); have n2_ := Aside0.mk (bkB (g := gb416) (o := .cells #[.int .i64 a1_0, .int .i64 a1_1] 28 (0, 0)) (by (with_reducible repeat (first | refine bkN ?_ _ | refine bkD ?_ | refine bkA ?_ _)); refine blk_far ?_ NB416_426.out _; (with_reducible repeat (first | refine bkN ?_ _ | refine bkD ?_ | refine bkA ?_ _)); refine blk_far ?_ NB416_426.out _; (with_reducible repeat (first | refine bkN ?_ _ | refine bkD ?_ | refine bkA ?_ _)); exact BK416.out) hb); have n3_ := Aside0.mk (bkB (g := gb417) (o := .cells #[.int .i64 a2_0, .int .i64 a2_1, .int .i64 a2_2, .int .i64 a2_3, .int .i64 a2_4] 47 (0, 0)) (by (with_reducible repeat (first | refine bkN ?_ _ | refine bkD ?_ | refine bkA ?_ _)); refine blk_far ?_ NB417_426.out _; (with_reducible repeat (first | refine bkN ?_ _ | refine bkD ?_ | refine bkA ?_ _)); refine blk_far ?_ NB417_426.out _; (with_reducible repeat (first | refine bkN ?_ _ | refine bkD ?_ | refine bkA ?_ _)); exact BK417.out) hb); have n4_ := Aside0.mk (bkB (g := gb424) (o := .cells #[.int .i64 (wrap64 (2 * a0_0)), .int .i64 (wrap64 (2 * a0_1))] 28 (0, 0)) (by (with_reducible repeat (first | refine bkN ?_ _ | refine bkD ?_ | refine bkA ?_ _)); refine blk_far ?_ NB424_426.out _; (with_reducible repeat (first | refine bkN ?_ _ | refine bkD ?_ | refine bkA ?_ _)); refine blk_far ?_ NB424_426.out _; (with_reducible repeat (first | refine bkN ?_ _ | refine bkD ?_ | refine bkA ?_ _)); exact BK424.out) hb); have n5_ := Aside0.mk (bkB (g := gb425) (o := .cells #[.int .i64 (wrap64 (2 * a1_0)), .int .i64 (wrap64 (2 * a1_1))] 28 (0, 0)) (by (with_reducible repeat (first | refine bkN ?_ _ | refine bkD ?_ | refine bkA ?_ _)); refine blk_far ?_ NB425_426.out _; (with_reducible repeat (first | refine bkN ?_ _ | refine bkD ?_ | refine bkA ?_ _)); refine blk_far ?_ NB425_426.out _; (with_reducible repeat (first | refine bkN ?_ _ | refine bkD ?_ | refine bkA ?_ _)); exact BK425.out) hb); have n6_ := Aside0.mk (bkB (g := gb426) (o := .cells #[.int .i64 (wrap64 (a0_0 + a1_0)), .int .i64 (wrap64 (a0_1 + a1_1))] 28 (0, 0)) (by (with_reducible repeat (first | refine bkN ?_ _ | refine bkD ?_ | refine bkA ?_ _)); refine blk_put (cs := #[.int .i64 (wrap64 (a0_0 + a1_0)), .int .i64 0]) ?_ 1 _ rfl; (with_reducible repeat (first | refine bkN ?_ _ | refine bkD ?_ | refine bkA ?_ _)); refine blk_put (cs := #[.int .i64 0, .int .i64 0]) ?_ 0 _ rfl; (with_reducible repeat (first | refine bkN ?_ _ | refine bkD ?_ | refine bkA ?_ _)); exact BK426.out) hb); have n7_ := Aside0.mk (below_step (by repeat (first | (with_reducible first | exact HB.out | apply blA | apply blN | apply blD | refine blS ?_ GE415.out | refine blS ?_ GE416.out | refine blS ?_ GE417.out | refine blS ?_ GE424.out | refine blS ?_ GE425.out | refine blS ?_ GE426.out) | exact HB.out)) hb); clear HO_21; clear BK415; clear BK416; clear BK417; clear BK424; clear BK425; clear BK426; clear HB; have HO_21 := n0_; have BK415 := n1_; have BK416 := n2_; have BK417 := n3_; have BK424 := n4_; have BK425 := n5_; have BK426 := n6_; have HB := n7_; clear n0_ n1_ n2_ n3_ n4_ n5_ n6_ n7_; (try clear hb); (try clear hb2); (try clear hk); (try clear hi)))
       go_meet
       case rel => exact ⟨_, (true), (by first | rfl | (simp; done) | (simp [*]; done)), H', ⟨by have := HK1.out; first | omega | exact Nat.le_refl _⟩, ⟨by (with_reducible repeat (first | refine bkN ?_ _ | refine bkD ?_ | refine bkA ?_ _)); exact BK415.out⟩, ⟨by (with_reducible repeat (first | refine bkN ?_ _ | refine bkD ?_ | refine bkA ?_ _)); exact BK416.out⟩, ⟨by (with_reducible repeat (first | refine bkN ?_ _ | refine bkD ?_ | refine bkA ?_ _)); exact BK417.out⟩, ⟨by (with_reducible repeat (first | refine bkN ?_ _ | refine bkD ?_ | refine bkA ?_ _)); exact BK424.out⟩, ⟨by (with_reducible repeat (first | refine bkN ?_ _ | refine bkD ?_ | refine bkA ?_ _)); exact BK425.out⟩, ⟨by (with_reducible repeat (first | refine bkN ?_ _ | refine bkD ?_ | refine bkA ?_ _)); exact BK426.out⟩, ⟨by repeat (first | (with_reducible first | exact HB.out | apply blA | apply blN | apply blD | refine blS ?_ GE415.out | refine blS ?_ GE416.out | refine blS ?_ GE417.out | refine blS ?_ GE424.out | refine blS ?_ GE425.out | refine blS ?_ GE426.out) | exact HB.out)⟩⟩
      subst c77
      have H1 : ((geometry_Crosses.f k1 (wrap64 (2 * a0_0)) (wrap64 (2 * a0_1)) (wrap64 (2 * a1_0)) (wrap64 (2 * a1_1)) a2_2 a2_3 (wrap64 (a0_0 + a1_0)) (wrap64 (a0_1 + a1_1)) 0).bind fun t428 => (if t428 = true then ((geometry_Crosses.f k1 a0_0 a0_1 a1_0 a1_1 a0_0 a0_1 a2_0 a2_1 0).bind fun t429 => (if t429 = true then ((geometry_Crosses.f k1 a0_0 a0_1 a1_0 a1_1 a2_2 a2_3 a1_0 a1_1 0).bind fun t430 => (hopmeshlaw05_GeometryCrossings.j1 k1 (!t430) a0_0 a0_1 a1_0 a1_1 a2_0 a2_1 a2_2 a2_3 a2_4)) else (hopmeshlaw05_GeometryCrossings.j1 k1 true a0_0 a0_1 a1_0 a1_1 a2_0 a2_1 a2_2 a2_3 a2_4))) else (hopmeshlaw05_GeometryCrossings.j1 k1 true a0_0 a0_1 a1_0 a1_1 a2_0 a2_1 a2_2 a2_3 a2_4))) = some r := by rw [if_pos rfl] at H; exact H
      clear H
      have H := H1
      clear H1
      replace H := Option.bind_eq_some_iff.mp H
      obtain ⟨t428, A780, H⟩ := H
      replace H : (if t428 = true then ((geometry_Crosses.f k1 a0_0 a0_1 a1_0 a1_1 a0_0 a0_1 a2_0 a2_1 0).bind fun t429 => (if t429 = true then ((geometry_Crosses.f k1 a0_0 a0_1 a1_0 a1_1 a2_2 a2_3 a1_0 a1_1 0).bind fun t430 => (hopmeshlaw05_GeometryCrossings.j1 k1 (!t430) a0_0 a0_1 a1_0 a1_1 a2_0 a2_1 a2_2 a2_3 a2_4)) else (hopmeshlaw05_GeometryCrossings.j1 k1 true a0_0 a0_1 a1_0 a1_1 a2_0 a2_1 a2_2 a2_3 a2_4))) else (hopmeshlaw05_GeometryCrossings.j1 k1 true a0_0 a0_1 a1_0 a1_1 a2_0 a2_1 a2_2 a2_3 a2_4)) = some r := H
      have A78 := Aside0.mk A780
      clear A780
      by_cases c79 : t428 = true
      rotate_left
      ·replace c79 := Bool.eq_false_iff.mpr c79
       subst c79
       have H1 : (hopmeshlaw05_GeometryCrossings.j1 k1 true a0_0 a0_1 a1_0 a1_1 a2_0 a2_1 a2_2 a2_3 a2_4) = some r := by rw [if_neg (show ¬ (false = true) by decide)] at H; exact H
       clear H
       have H := H1
       clear H1
       have H' := Aside0.mk H
       clear H
       have hnb145 := NB424_415.out
       have hnc145 := NB415_424.out
       have hnb146 := NB424_416.out
       have hnc146 := NB416_424.out
       have hnb147 := NB424_417.out
       have hnc147 := NB417_424.out
       have hnb148 := NB424_425.out
       have hnc148 := NB425_424.out
       have hnb149 := NB424_426.out
       have hnc149 := NB426_424.out
       have hcz150_0 : w69.cell? ⟨gb424, 0, none⟩ = some (.int .i64 (wrap64 (2 * a0_0))) := (bkC BK424.out 0).trans rfl
       have hcz150_1 : w69.cell? ⟨gb424, 1, none⟩ = some (.int .i64 (wrap64 (2 * a0_1))) := (bkC BK424.out 1).trans rfl
       have hfz150_0 := bkF BK424.out 0
       have hfz150_1 := bkF BK424.out 1
       have hnb151 := NB425_415.out
       have hnc151 := NB415_425.out
       have hnb152 := NB425_416.out
       have hnc152 := NB416_425.out
       have hnb153 := NB425_417.out
       have hnc153 := NB417_425.out
       have hnb154 := NB425_426.out
       have hnc154 := NB426_425.out
       have hcz155_0 : w69.cell? ⟨gb425, 0, none⟩ = some (.int .i64 (wrap64 (2 * a1_0))) := (bkC BK425.out 0).trans rfl
       have hcz155_1 : w69.cell? ⟨gb425, 1, none⟩ = some (.int .i64 (wrap64 (2 * a1_1))) := (bkC BK425.out 1).trans rfl
       have hfz155_0 := bkF BK425.out 0
       have hfz155_1 := bkF BK425.out 1
       have hnb156 := NB426_415.out
       have hnc156 := NB415_426.out
       have hnb157 := NB426_416.out
       have hnc157 := NB416_426.out
       have hnb158 := NB426_417.out
       have hnc158 := NB417_426.out
       have hcz159_0 : w69.cell? ⟨gb426, 0, none⟩ = some (.int .i64 0) := (bkC BK426.out 0).trans rfl
       have hcz159_1 : w69.cell? ⟨gb426, 1, none⟩ = some (.int .i64 0) := (bkC BK426.out 1).trans rfl
       have hfz159_0 := bkF BK426.out 0
       have hfz159_1 := bkF BK426.out 1
       have hnb160 := NB417_415.out
       have hnc160 := NB415_417.out
       have hnb161 := NB417_416.out
       have hnc161 := NB416_417.out
       have hcz162_0 : w69.cell? ⟨gb417, 0, none⟩ = some (.int .i64 a2_0) := (bkC BK417.out 0).trans rfl
       have hcz162_1 : w69.cell? ⟨gb417, 1, none⟩ = some (.int .i64 a2_1) := (bkC BK417.out 1).trans rfl
       have hcz162_2 : w69.cell? ⟨gb417, 2, none⟩ = some (.int .i64 a2_2) := (bkC BK417.out 2).trans rfl
       have hcz162_3 : w69.cell? ⟨gb417, 3, none⟩ = some (.int .i64 a2_3) := (bkC BK417.out 3).trans rfl
       have hcz162_4 : w69.cell? ⟨gb417, 4, none⟩ = some (.int .i64 a2_4) := (bkC BK417.out 4).trans rfl
       have hfz162_0 := bkF BK417.out 0
       have hfz162_1 := bkF BK417.out 1
       have hfz162_2 := bkF BK417.out 2
       have hfz162_3 := bkF BK417.out 3
       have hfz162_4 := bkF BK417.out 4
       go_wp2_with (first | ((with_reducible refine gate_callee (f := 27) rfl ?_); refine goesL_ (some 77) rfl rfl Try.func27 (by kernel_rfl) rfl #[.agg #[.int .i64 (wrap64 (2 * a0_0)), .int .i64 (wrap64 (2 * a0_1))], .agg #[.int .i64 (wrap64 (2 * a1_0)), .int .i64 (wrap64 (2 * a1_1))], .agg #[.int .i64 (wrap64 (a0_0 + a1_0)), .int .i64 (wrap64 (a0_1 + a1_1)), .int .i64 a2_0, .int .i64 a2_1, .int .i64 0]] rfl (by (try simp only [List.map_toArray, List.map_cons, List.map_nil]); first | done | rfl | (simp only [List.length_drop, List.length_take]; rfl)) ?_; (with_reducible refine (geometry_Crosses.calls k1 (wrap64 (2 * a0_0)) (wrap64 (2 * a0_1)) (wrap64 (2 * a1_0)) (wrap64 (2 * a1_1)) (wrap64 (a0_0 + a1_0)) (wrap64 (a0_1 + a1_1)) a2_0 a2_1 0 true _ A76.out).mono ?_); rintro e w163 ⟨rfl, hb⟩; refine ⟨_, rfl, ?_⟩; have n0_ := Aside0.mk (Kd.R_below (by (with_reducible repeat (first | apply Kd.R_alloc | apply Kd.R_drewN | apply Kd.R_drew)); exact (Kd.R_mono (Kd.R_far (p := ⟨gb426, 1, none⟩) (Kd.R_far (p := ⟨gb426, 0, none⟩) (Kd.R_mono HO_21.out (fun k_ hk => (⟨hk, hk.2⟩ : _ ∧ k_ ≠ gb426))) (fun _ hk => hk.2) (.int .i64 (wrap64 (a0_0 + a1_0)))) (fun _ hk => hk.2) (.int .i64 (wrap64 (a0_1 + a1_1)))) (fun _ h_ => h_.1))) hb); have n1_ := Aside0.mk (bkB (g := gb415) (o := .cells #[.int .i64 a0_0, .int .i64 a0_1] 28 (0, 0)) (by (with_reducible repeat (first | refine bkN ?_ _ | refine bkD ?_ | refine bkA ?_ _)); refine blk_far ?_ NB415_426.out _; (with_reducible repeat (first | refine bkN ?_ _ | refine bkD ?_ | refine bkA ?_ _)); refine blk_far ?_ NB415_426.out _; (with_reducible repeat (first | refine bkN ?_ _ | refine bkD ?_ | refine bkA ?_ _)); exact BK415.out) hb); have n2_ := Aside0.mk (bkB (g := gb416) (o := .cells #[.int .i64 a1_0, .int .i64 a1_1] 28 (0, 0)) (by (with_reducible repeat (first | refine bkN ?_ _ | refine bkD ?_ | refine bkA ?_ _)); refine blk_far ?_ NB416_426.out _; (with_reducible repeat (first | refine bkN ?_ _ | refine bkD ?_ | refine bkA ?_ _)); refine blk_far ?_ NB416_426.out _; (with_reducible repeat (first | refine bkN ?_ _ | refine bkD ?_ | refine bkA ?_ _)); exact BK416.out) hb); have n3_ := Aside0.mk (bkB (g := gb417) (o := .cells #[.int .i64 a2_0, .int .i64 a2_1, .int .i64 a2_2, .int .i64 a2_3, .int .i64 a2_4] 47 (0, 0)) (by (with_reducible repeat (first | refine bkN ?_ _ | refine bkD ?_ | refine bkA ?_ _)); refine blk_far ?_ NB417_426.out _; (with_reducible repeat (first | refine bkN ?_ _ | refine bkD ?_ | refine bkA ?_ _)); refine blk_far ?_ NB417_426.out _; (with_reducible repeat (first | refine bkN ?_ _ | refine bkD ?_ | refine bkA ?_ _)); exact BK417.out) hb); have n4_ := Aside0.mk (bkB (g := gb424) (o := .cells #[.int .i64 (wrap64 (2 * a0_0)), .int .i64 (wrap64 (2 * a0_1))] 28 (0, 0)) (by (with_reducible repeat (first | refine bkN ?_ _ | refine bkD ?_ | refine bkA ?_ _)); refine blk_far ?_ NB424_426.out _; (with_reducible repeat (first | refine bkN ?_ _ | refine bkD ?_ | refine bkA ?_ _)); refine blk_far ?_ NB424_426.out _; (with_reducible repeat (first | refine bkN ?_ _ | refine bkD ?_ | refine bkA ?_ _)); exact BK424.out) hb); have n5_ := Aside0.mk (bkB (g := gb425) (o := .cells #[.int .i64 (wrap64 (2 * a1_0)), .int .i64 (wrap64 (2 * a1_1))] 28 (0, 0)) (by (with_reducible repeat (first | refine bkN ?_ _ | refine bkD ?_ | refine bkA ?_ _)); refine blk_far ?_ NB425_426.out _; (with_reducible repeat (first | refine bkN ?_ _ | refine bkD ?_ | refine bkA ?_ _)); refine blk_far ?_ NB425_426.out _; (with_reducible repeat (first | refine bkN ?_ _ | refine bkD ?_ | refine bkA ?_ _)); exact BK425.out) hb); have n6_ := Aside0.mk (bkB (g := gb426) (o := .cells #[.int .i64 (wrap64 (a0_0 + a1_0)), .int .i64 (wrap64 (a0_1 + a1_1))] 28 (0, 0)) (by (with_reducible repeat (first | refine bkN ?_ _ | refine bkD ?_ | refine bkA ?_ _)); refine blk_put (cs := #[.int .i64 (wrap64 (a0_0 + a1_0)), .int .i64 0]) ?_ 1 _ rfl; (with_reducible repeat (first | refine bkN ?_ _ | refine bkD ?_ | refine bkA ?_ _)); refine blk_put (cs := #[.int .i64 0, .int .i64 0]) ?_ 0 _ rfl; (with_reducible repeat (first | refine bkN ?_ _ | refine bkD ?_ | refine bkA ?_ _)); exact BK426.out) hb); have n7_ := Aside0.mk (below_step (by repeat (first | (with_reducible first | exact HB.out | apply blA | apply blN | apply blD | refine blS ?_ GE415.out | refine blS ?_ GE416.out | refine blS ?_ GE417.out | refine blS ?_ GE424.out | refine blS ?_ GE425.out | refine blS ?_ GE426.out) | exact HB.out)) hb); clear HO_21; clear BK415; clear BK416; clear BK417; clear BK424; clear BK425; clear BK426; clear HB; have HO_21 := n0_; have BK415 := n1_; have BK416 := n2_; have BK417 := n3_; have BK424 := n4_; have BK425 := n5_; have BK426 := n6_; have HB := n7_; clear n0_ n1_ n2_ n3_ n4_ n5_ n6_ n7_; (try clear hb); (try clear hb2); (try clear hk); (try clear hi); have hcz164_0 : w163.cell? ⟨gb424, 0, none⟩ = some (.int .i64 (wrap64 (2 * a0_0))) := (bkC BK424.out 0).trans rfl; have hcz164_1 : w163.cell? ⟨gb424, 1, none⟩ = some (.int .i64 (wrap64 (2 * a0_1))) := (bkC BK424.out 1).trans rfl; have hfz164_0 := bkF BK424.out 0; have hfz164_1 := bkF BK424.out 1; have hcz165_0 : w163.cell? ⟨gb425, 0, none⟩ = some (.int .i64 (wrap64 (2 * a1_0))) := (bkC BK425.out 0).trans rfl; have hcz165_1 : w163.cell? ⟨gb425, 1, none⟩ = some (.int .i64 (wrap64 (2 * a1_1))) := (bkC BK425.out 1).trans rfl; have hfz165_0 := bkF BK425.out 0; have hfz165_1 := bkF BK425.out 1; have hcz166_0 : w163.cell? ⟨gb417, 0, none⟩ = some (.int .i64 a2_0) := (bkC BK417.out 0).trans rfl; have hcz166_1 : w163.cell? ⟨gb417, 1, none⟩ = some (.int .i64 a2_1) := (bkC BK417.out 1).trans rfl; have hcz166_2 : w163.cell? ⟨gb417, 2, none⟩ = some (.int .i64 a2_2) := (bkC BK417.out 2).trans rfl; have hcz166_3 : w163.cell? ⟨gb417, 3, none⟩ = some (.int .i64 a2_3) := (bkC BK417.out 3).trans rfl; have hcz166_4 : w163.cell? ⟨gb417, 4, none⟩ = some (.int .i64 a2_4) := (bkC BK417.out 4).trans rfl; have hfz166_0 := bkF BK417.out 0; have hfz166_1 := bkF BK417.out 1; have hfz166_2 := bkF BK417.out 2; have hfz166_3 := bkF BK417.out 3; have hfz166_4 := bkF BK417.out 4; have hcz167_0 : w163.cell? ⟨gb426, 0, none⟩ = some (.int .i64 (wrap64 (a0_0 + a1_0))) := (bkC BK426.out 0).trans rfl; have hcz167_1 : w163.cell? ⟨gb426, 1, none⟩ = some (.int .i64 (wrap64 (a0_1 + a1_1))) := (bkC BK426.out 1).trans rfl; have hfz167_0 := bkF BK426.out 0; have hfz167_1 := bkF BK426.out 1) | (go_at_call 27; (with_reducible refine (geometry_Crosses.calls k1 (wrap64 (2 * a0_0)) (wrap64 (2 * a0_1)) (wrap64 (2 * a1_0)) (wrap64 (2 * a1_1)) a2_2 a2_3 (wrap64 (a0_0 + a1_0)) (wrap64 (a0_1 + a1_1)) 0 false _ A78.out).mono ?_); rintro e w168 ⟨rfl, hb⟩; have n0_ := Aside0.mk (Kd.R_below (by (with_reducible repeat (first | apply Kd.R_alloc | apply Kd.R_drewN | apply Kd.R_drew)); exact HO_21.out) hb); have n1_ := Aside0.mk (bkB (g := gb415) (o := .cells #[.int .i64 a0_0, .int .i64 a0_1] 28 (0, 0)) (by (with_reducible repeat (first | refine bkN ?_ _ | refine bkD ?_ | refine bkA ?_ _)); exact BK415.out) hb); have n2_ := Aside0.mk (bkB (g := gb416) (o := .cells #[.int .i64 a1_0, .int .i64 a1_1] 28 (0, 0)) (by (with_reducible repeat (first | refine bkN ?_ _ | refine bkD ?_ | refine bkA ?_ _)); exact BK416.out) hb); have n3_ := Aside0.mk (bkB (g := gb417) (o := .cells #[.int .i64 a2_0, .int .i64 a2_1, .int .i64 a2_2, .int .i64 a2_3, .int .i64 a2_4] 47 (0, 0)) (by (with_reducible repeat (first | refine bkN ?_ _ | refine bkD ?_ | refine bkA ?_ _)); exact BK417.out) hb); have n4_ := Aside0.mk (bkB (g := gb424) (o := .cells #[.int .i64 (wrap64 (2 * a0_0)), .int .i64 (wrap64 (2 * a0_1))] 28 (0, 0)) (by (with_reducible repeat (first | refine bkN ?_ _ | refine bkD ?_ | refine bkA ?_ _)); exact BK424.out) hb); have n5_ := Aside0.mk (bkB (g := gb425) (o := .cells #[.int .i64 (wrap64 (2 * a1_0)), .int .i64 (wrap64 (2 * a1_1))] 28 (0, 0)) (by (with_reducible repeat (first | refine bkN ?_ _ | refine bkD ?_ | refine bkA ?_ _)); exact BK425.out) hb); have n6_ := Aside0.mk (bkB (g := gb426) (o := .cells #[.int .i64 (wrap64 (a0_0 + a1_0)), .int .i64 (wrap64 (a0_1 + a1_1))] 28 (0, 0)) (by (with_reducible repeat (first | refine bkN ?_ _ | refine bkD ?_ | refine bkA ?_ _)); exact BK426.out) hb); have n7_ := Aside0.mk (below_step (by repeat (first | (with_reducible first | exact HB.out | apply blA | apply blN | apply blD | refine blS ?_ GE415.out | refine blS ?_ GE416.out | refine blS ?_ GE417.out | refine blS ?_ GE424.out | refine blS ?_ GE425.out | refine blS ?_ GE426.out) | exact HB.out)) hb); clear HO_21; clear BK415; clear BK416; clear BK417; clear BK424; clear BK425; clear BK426; clear HB; have HO_21 := n0_; have BK415 := n1_; have BK416 := n2_; have BK417 := n3_; have BK424 := n4_; have BK425 := n5_; have BK426 := n6_; have HB := n7_; clear n0_ n1_ n2_ n3_ n4_ n5_ n6_ n7_; (try clear hb); (try clear hb2); (try clear hk); (try clear hi)))
       go_meet
       case rel => exact ⟨_, (true), (by first | rfl | (simp; done) | (simp [*]; done)), H', ⟨by have := HK1.out; first | omega | exact Nat.le_refl _⟩, ⟨by (with_reducible repeat (first | refine bkN ?_ _ | refine bkD ?_ | refine bkA ?_ _)); exact BK415.out⟩, ⟨by (with_reducible repeat (first | refine bkN ?_ _ | refine bkD ?_ | refine bkA ?_ _)); exact BK416.out⟩, ⟨by (with_reducible repeat (first | refine bkN ?_ _ | refine bkD ?_ | refine bkA ?_ _)); exact BK417.out⟩, ⟨by (with_reducible repeat (first | refine bkN ?_ _ | refine bkD ?_ | refine bkA ?_ _)); exact BK424.out⟩, ⟨by (with_reducible repeat (first | refine bkN ?_ _ | refine bkD ?_ | refine bkA ?_ _)); exact BK425.out⟩, ⟨by (with_reducible repeat (first | refine bkN ?_ _ | refine bkD ?_ | refine bkA ?_ _)); exact BK426.out⟩, ⟨by repeat (first | (with_reducible first | exact HB.out | apply blA | apply blN | apply blD | refine blS ?_ GE415.out | refine blS ?_ GE416.out | refine blS ?_ GE417.out | refine blS ?_ GE424.out | refine blS ?_ GE425.out | refine blS ?_ GE426.out) | exact HB.out)⟩⟩
      as_aux_lemma =>
       subst c79
       have H1 : ((geometry_Crosses.f k1 a0_0 a0_1 a1_0 a1_1 a0_0 a0_1 a2_0 a2_1 0).bind fun t429 => (if t429 = true then ((geometry_Crosses.f k1 a0_0 a0_1 a1_0 a1_1 a2_2 a2_3 a1_0 a1_1 0).bind fun t430 => (hopmeshlaw05_GeometryCrossings.j1 k1 (!t430) a0_0 a0_1 a1_0 a1_1 a2_0 a2_1 a2_2 a2_3 a2_4)) else (hopmeshlaw05_GeometryCrossings.j1 k1 true a0_0 a0_1 a1_0 a1_1 a2_0 a2_1 a2_2 a2_3 a2_4))) = some r := by rw [if_pos rfl] at H; exact H
       clear H
       have H := H1
       clear H1
       replace H := Option.bind_eq_some_iff.mp H
       obtain ⟨t429, A800, H⟩ := H
       replace H : (if t429 = true then ((geometry_Crosses.f k1 a0_0 a0_1 a1_0 a1_1 a2_2 a2_3 a1_0 a1_1 0).bind fun t430 => (hopmeshlaw05_GeometryCrossings.j1 k1 (!t430) a0_0 a0_1 a1_0 a1_1 a2_0 a2_1 a2_2 a2_3 a2_4)) else (hopmeshlaw05_GeometryCrossings.j1 k1 true a0_0 a0_1 a1_0 a1_1 a2_0 a2_1 a2_2 a2_3 a2_4)) = some r := H
       have A80 := Aside0.mk A800
       clear A800
       by_cases c81 : t429 = true
       rotate_left
       ·replace c81 := Bool.eq_false_iff.mpr c81
        subst c81
        have H1 : (hopmeshlaw05_GeometryCrossings.j1 k1 true a0_0 a0_1 a1_0 a1_1 a2_0 a2_1 a2_2 a2_3 a2_4) = some r := by rw [if_neg (show ¬ (false = true) by decide)] at H; exact H
        clear H
        have H := H1
        clear H1
        have H' := Aside0.mk H
        clear H
        have hnb116 := NB424_415.out
        have hnc116 := NB415_424.out
        have hnb117 := NB424_416.out
        have hnc117 := NB416_424.out
        have hnb118 := NB424_417.out
        have hnc118 := NB417_424.out
        have hnb119 := NB424_425.out
        have hnc119 := NB425_424.out
        have hnb120 := NB424_426.out
        have hnc120 := NB426_424.out
        have hcz121_0 : w69.cell? ⟨gb424, 0, none⟩ = some (.int .i64 (wrap64 (2 * a0_0))) := (bkC BK424.out 0).trans rfl
        have hcz121_1 : w69.cell? ⟨gb424, 1, none⟩ = some (.int .i64 (wrap64 (2 * a0_1))) := (bkC BK424.out 1).trans rfl
        have hfz121_0 := bkF BK424.out 0
        have hfz121_1 := bkF BK424.out 1
        have hnb122 := NB425_415.out
        have hnc122 := NB415_425.out
        have hnb123 := NB425_416.out
        have hnc123 := NB416_425.out
        have hnb124 := NB425_417.out
        have hnc124 := NB417_425.out
        have hnb125 := NB425_426.out
        have hnc125 := NB426_425.out
        have hcz126_0 : w69.cell? ⟨gb425, 0, none⟩ = some (.int .i64 (wrap64 (2 * a1_0))) := (bkC BK425.out 0).trans rfl
        have hcz126_1 : w69.cell? ⟨gb425, 1, none⟩ = some (.int .i64 (wrap64 (2 * a1_1))) := (bkC BK425.out 1).trans rfl
        have hfz126_0 := bkF BK425.out 0
        have hfz126_1 := bkF BK425.out 1
        have hnb127 := NB426_415.out
        have hnc127 := NB415_426.out
        have hnb128 := NB426_416.out
        have hnc128 := NB416_426.out
        have hnb129 := NB426_417.out
        have hnc129 := NB417_426.out
        have hcz130_0 : w69.cell? ⟨gb426, 0, none⟩ = some (.int .i64 0) := (bkC BK426.out 0).trans rfl
        have hcz130_1 : w69.cell? ⟨gb426, 1, none⟩ = some (.int .i64 0) := (bkC BK426.out 1).trans rfl
        have hfz130_0 := bkF BK426.out 0
        have hfz130_1 := bkF BK426.out 1
        have hnb131 := NB417_415.out
        have hnc131 := NB415_417.out
        have hnb132 := NB417_416.out
        have hnc132 := NB416_417.out
        have hcz133_0 : w69.cell? ⟨gb417, 0, none⟩ = some (.int .i64 a2_0) := (bkC BK417.out 0).trans rfl
        have hcz133_1 : w69.cell? ⟨gb417, 1, none⟩ = some (.int .i64 a2_1) := (bkC BK417.out 1).trans rfl
        have hcz133_2 : w69.cell? ⟨gb417, 2, none⟩ = some (.int .i64 a2_2) := (bkC BK417.out 2).trans rfl
        have hcz133_3 : w69.cell? ⟨gb417, 3, none⟩ = some (.int .i64 a2_3) := (bkC BK417.out 3).trans rfl
        have hcz133_4 : w69.cell? ⟨gb417, 4, none⟩ = some (.int .i64 a2_4) := (bkC BK417.out 4).trans rfl
        have hfz133_0 := bkF BK417.out 0
        have hfz133_1 := bkF BK417.out 1
        have hfz133_2 := bkF BK417.out 2
        have hfz133_3 := bkF BK417.out 3
        have hfz133_4 := bkF BK417.out 4
        go_wp2_with (first | ((with_reducible refine gate_callee (f := 27) rfl ?_); refine goesL_ (some 77) rfl rfl Try.func27 (by kernel_rfl) rfl #[.agg #[.int .i64 (wrap64 (2 * a0_0)), .int .i64 (wrap64 (2 * a0_1))], .agg #[.int .i64 (wrap64 (2 * a1_0)), .int .i64 (wrap64 (2 * a1_1))], .agg #[.int .i64 (wrap64 (a0_0 + a1_0)), .int .i64 (wrap64 (a0_1 + a1_1)), .int .i64 a2_0, .int .i64 a2_1, .int .i64 0]] rfl (by (try simp only [List.map_toArray, List.map_cons, List.map_nil]); first | done | rfl | (simp only [List.length_drop, List.length_take]; rfl)) ?_; (with_reducible refine (geometry_Crosses.calls k1 (wrap64 (2 * a0_0)) (wrap64 (2 * a0_1)) (wrap64 (2 * a1_0)) (wrap64 (2 * a1_1)) (wrap64 (a0_0 + a1_0)) (wrap64 (a0_1 + a1_1)) a2_0 a2_1 0 true _ A76.out).mono ?_); rintro e w134 ⟨rfl, hb⟩; refine ⟨_, rfl, ?_⟩; have n0_ := Aside0.mk (Kd.R_below (by (with_reducible repeat (first | apply Kd.R_alloc | apply Kd.R_drewN | apply Kd.R_drew)); exact (Kd.R_mono (Kd.R_far (p := ⟨gb426, 1, none⟩) (Kd.R_far (p := ⟨gb426, 0, none⟩) (Kd.R_mono HO_21.out (fun k_ hk => (⟨hk, hk.2⟩ : _ ∧ k_ ≠ gb426))) (fun _ hk => hk.2) (.int .i64 (wrap64 (a0_0 + a1_0)))) (fun _ hk => hk.2) (.int .i64 (wrap64 (a0_1 + a1_1)))) (fun _ h_ => h_.1))) hb); have n1_ := Aside0.mk (bkB (g := gb415) (o := .cells #[.int .i64 a0_0, .int .i64 a0_1] 28 (0, 0)) (by (with_reducible repeat (first | refine bkN ?_ _ | refine bkD ?_ | refine bkA ?_ _)); refine blk_far ?_ NB415_426.out _; (with_reducible repeat (first | refine bkN ?_ _ | refine bkD ?_ | refine bkA ?_ _)); refine blk_far ?_ NB415_426.out _; (with_reducible repeat (first | refine bkN ?_ _ | refine bkD ?_ | refine bkA ?_ _)); exact BK415.out) hb); have n2_ := Aside0.mk (bkB (g := gb416) (o := .cells #[.int .i64 a1_0, .int .i64 a1_1] 28 (0, 0)) (by (with_reducible repeat (first | refine bkN ?_ _ | refine bkD ?_ | refine bkA ?_ _)); refine blk_far ?_ NB416_426.out _; (with_reducible repeat (first | refine bkN ?_ _ | refine bkD ?_ | refine bkA ?_ _)); refine blk_far ?_ NB416_426.out _; (with_reducible repeat (first | refine bkN ?_ _ | refine bkD ?_ | refine bkA ?_ _)); exact BK416.out) hb); have n3_ := Aside0.mk (bkB (g := gb417) (o := .cells #[.int .i64 a2_0, .int .i64 a2_1, .int .i64 a2_2, .int .i64 a2_3, .int .i64 a2_4] 47 (0, 0)) (by (with_reducible repeat (first | refine bkN ?_ _ | refine bkD ?_ | refine bkA ?_ _)); refine blk_far ?_ NB417_426.out _; (with_reducible repeat (first | refine bkN ?_ _ | refine bkD ?_ | refine bkA ?_ _)); refine blk_far ?_ NB417_426.out _; (with_reducible repeat (first | refine bkN ?_ _ | refine bkD ?_ | refine bkA ?_ _)); exact BK417.out) hb); have n4_ := Aside0.mk (bkB (g := gb424) (o := .cells #[.int .i64 (wrap64 (2 * a0_0)), .int .i64 (wrap64 (2 * a0_1))] 28 (0, 0)) (by (with_reducible repeat (first | refine bkN ?_ _ | refine bkD ?_ | refine bkA ?_ _)); refine blk_far ?_ NB424_426.out _; (with_reducible repeat (first | refine bkN ?_ _ | refine bkD ?_ | refine bkA ?_ _)); refine blk_far ?_ NB424_426.out _; (with_reducible repeat (first | refine bkN ?_ _ | refine bkD ?_ | refine bkA ?_ _)); exact BK424.out) hb); have n5_ := Aside0.mk (bkB (g := gb425) (o := .cells #[.int .i64 (wrap64 (2 * a1_0)), .int .i64 (wrap64 (2 * a1_1))] 28 (0, 0)) (by (with_reducible repeat (first | refine bkN ?_ _ | refine bkD ?_ | refine bkA ?_ _)); refine blk_far ?_ NB425_426.out _; (with_reducible repeat (first | refine bkN ?_ _ | refine bkD ?_ | refine bkA ?_ _)); refine blk_far ?_ NB425_426.out _; (with_reducible repeat (first | refine bkN ?_ _ | refine bkD ?_ | refine bkA ?_ _)); exact BK425.out) hb); have n6_ := Aside0.mk (bkB (g := gb426) (o := .cells #[.int .i64 (wrap64 (a0_0 + a1_0)), .int .i64 (wrap64 (a0_1 + a1_1))] 28 (0, 0)) (by (with_reducible repeat (first | refine bkN ?_ _ | refine bkD ?_ | refine bkA ?_ _)); refine blk_put (cs := #[.int .i64 (wrap64 (a0_0 + a1_0)), .int .i64 0]) ?_ 1 _ rfl; (with_reducible repeat (first | refine bkN ?_ _ | refine bkD ?_ | refine bkA ?_ _)); refine blk_put (cs := #[.int .i64 0, .int .i64 0]) ?_ 0 _ rfl; (with_reducible repeat (first | refine bkN ?_ _ | refine bkD ?_ | refine bkA ?_ _)); exact BK426.out) hb); have n7_ := Aside0.mk (below_step (by repeat (first | (with_reducible first | exact HB.out | apply blA | apply blN | apply blD | refine blS ?_ GE415.out | refine blS ?_ GE416.out | refine blS ?_ GE417.out | refine blS ?_ GE424.out | refine blS ?_ GE425.out | refine blS ?_ GE426.out) | exact HB.out)) hb); clear HO_21; clear BK415; clear BK416; clear BK417; clear BK424; clear BK425; clear BK426; clear HB; have HO_21 := n0_; have BK415 := n1_; have BK416 := n2_; have BK417 := n3_; have BK424 := n4_; have BK425 := n5_; have BK426 := n6_; have HB := n7_; clear n0_ n1_ n2_ n3_ n4_ n5_ n6_ n7_; (try clear hb); (try clear hb2); (try clear hk); (try clear hi); have hcz135_0 : w134.cell? ⟨gb424, 0, none⟩ = some (.int .i64 (wrap64 (2 * a0_0))) := (bkC BK424.out 0).trans rfl; have hcz135_1 : w134.cell? ⟨gb424, 1, none⟩ = some (.int .i64 (wrap64 (2 * a0_1))) := (bkC BK424.out 1).trans rfl; have hfz135_0 := bkF BK424.out 0; have hfz135_1 := bkF BK424.out 1; have hcz136_0 : w134.cell? ⟨gb425, 0, none⟩ = some (.int .i64 (wrap64 (2 * a1_0))) := (bkC BK425.out 0).trans rfl; have hcz136_1 : w134.cell? ⟨gb425, 1, none⟩ = some (.int .i64 (wrap64 (2 * a1_1))) := (bkC BK425.out 1).trans rfl; have hfz136_0 := bkF BK425.out 0; have hfz136_1 := bkF BK425.out 1; have hcz137_0 : w134.cell? ⟨gb417, 0, none⟩ = some (.int .i64 a2_0) := (bkC BK417.out 0).trans rfl; have hcz137_1 : w134.cell? ⟨gb417, 1, none⟩ = some (.int .i64 a2_1) := (bkC BK417.out 1).trans rfl; have hcz137_2 : w134.cell? ⟨gb417, 2, none⟩ = some (.int .i64 a2_2) := (bkC BK417.out 2).trans rfl; have hcz137_3 : w134.cell? ⟨gb417, 3, none⟩ = some (.int .i64 a2_3) := (bkC BK417.out 3).trans rfl; have hcz137_4 : w134.cell? ⟨gb417, 4, none⟩ = some (.int .i64 a2_4) := (bkC BK417.out 4).trans rfl; have hfz137_0 := bkF BK417.out 0; have hfz137_1 := bkF BK417.out 1; have hfz137_2 := bkF BK417.out 2; have hfz137_3 := bkF BK417.out 3; have hfz137_4 := bkF BK417.out 4; have hcz138_0 : w134.cell? ⟨gb426, 0, none⟩ = some (.int .i64 (wrap64 (a0_0 + a1_0))) := (bkC BK426.out 0).trans rfl; have hcz138_1 : w134.cell? ⟨gb426, 1, none⟩ = some (.int .i64 (wrap64 (a0_1 + a1_1))) := (bkC BK426.out 1).trans rfl; have hfz138_0 := bkF BK426.out 0; have hfz138_1 := bkF BK426.out 1) | (go_at_call 27; (with_reducible refine (geometry_Crosses.calls k1 (wrap64 (2 * a0_0)) (wrap64 (2 * a0_1)) (wrap64 (2 * a1_0)) (wrap64 (2 * a1_1)) a2_2 a2_3 (wrap64 (a0_0 + a1_0)) (wrap64 (a0_1 + a1_1)) 0 true _ A78.out).mono ?_); rintro e w139 ⟨rfl, hb⟩; have n0_ := Aside0.mk (Kd.R_below (by (with_reducible repeat (first | apply Kd.R_alloc | apply Kd.R_drewN | apply Kd.R_drew)); exact HO_21.out) hb); have n1_ := Aside0.mk (bkB (g := gb415) (o := .cells #[.int .i64 a0_0, .int .i64 a0_1] 28 (0, 0)) (by (with_reducible repeat (first | refine bkN ?_ _ | refine bkD ?_ | refine bkA ?_ _)); exact BK415.out) hb); have n2_ := Aside0.mk (bkB (g := gb416) (o := .cells #[.int .i64 a1_0, .int .i64 a1_1] 28 (0, 0)) (by (with_reducible repeat (first | refine bkN ?_ _ | refine bkD ?_ | refine bkA ?_ _)); exact BK416.out) hb); have n3_ := Aside0.mk (bkB (g := gb417) (o := .cells #[.int .i64 a2_0, .int .i64 a2_1, .int .i64 a2_2, .int .i64 a2_3, .int .i64 a2_4] 47 (0, 0)) (by (with_reducible repeat (first | refine bkN ?_ _ | refine bkD ?_ | refine bkA ?_ _)); exact BK417.out) hb); have n4_ := Aside0.mk (bkB (g := gb424) (o := .cells #[.int .i64 (wrap64 (2 * a0_0)), .int .i64 (wrap64 (2 * a0_1))] 28 (0, 0)) (by (with_reducible repeat (first | refine bkN ?_ _ | refine bkD ?_ | refine bkA ?_ _)); exact BK424.out) hb); have n5_ := Aside0.mk (bkB (g := gb425) (o := .cells #[.int .i64 (wrap64 (2 * a1_0)), .int .i64 (wrap64 (2 * a1_1))] 28 (0, 0)) (by (with_reducible repeat (first | refine bkN ?_ _ | refine bkD ?_ | refine bkA ?_ _)); exact BK425.out) hb); have n6_ := Aside0.mk (bkB (g := gb426) (o := .cells #[.int .i64 (wrap64 (a0_0 + a1_0)), .int .i64 (wrap64 (a0_1 + a1_1))] 28 (0, 0)) (by (with_reducible repeat (first | refine bkN ?_ _ | refine bkD ?_ | refine bkA ?_ _)); exact BK426.out) hb); have n7_ := Aside0.mk (below_step (by repeat (first | (with_reducible first | exact HB.out | apply blA | apply blN | apply blD | refine blS ?_ GE415.out | refine blS ?_ GE416.out | refine blS ?_ GE417.out | refine blS ?_ GE424.out | refine blS ?_ GE425.out | refine blS ?_ GE426.out) | exact HB.out)) hb); clear HO_21; clear BK415; clear BK416; clear BK417; clear BK424; clear BK425; clear BK426; clear HB; have HO_21 := n0_; have BK415 := n1_; have BK416 := n2_; have BK417 := n3_; have BK424 := n4_; have BK425 := n5_; have BK426 := n6_; have HB := n7_; clear n0_ n1_ n2_ n3_ n4_ n5_ n6_ n7_; (try clear hb); (try clear hb2); (try clear hk); (try clear hi); have hnb140 := NB415_416.out; have hnc140 := NB416_415.out; have hcz141_0 : w139.cell? ⟨gb415, 0, none⟩ = some (.int .i64 a0_0) := (bkC BK415.out 0).trans rfl; have hcz141_1 : w139.cell? ⟨gb415, 1, none⟩ = some (.int .i64 a0_1) := (bkC BK415.out 1).trans rfl; have hfz141_0 := bkF BK415.out 0; have hfz141_1 := bkF BK415.out 1; have hcz142_0 : w139.cell? ⟨gb416, 0, none⟩ = some (.int .i64 a1_0) := (bkC BK416.out 0).trans rfl; have hcz142_1 : w139.cell? ⟨gb416, 1, none⟩ = some (.int .i64 a1_1) := (bkC BK416.out 1).trans rfl; have hfz142_0 := bkF BK416.out 0; have hfz142_1 := bkF BK416.out 1; have hcz143_0 : w139.cell? ⟨gb417, 0, none⟩ = some (.int .i64 a2_0) := (bkC BK417.out 0).trans rfl; have hcz143_1 : w139.cell? ⟨gb417, 1, none⟩ = some (.int .i64 a2_1) := (bkC BK417.out 1).trans rfl; have hcz143_2 : w139.cell? ⟨gb417, 2, none⟩ = some (.int .i64 a2_2) := (bkC BK417.out 2).trans rfl; have hcz143_3 : w139.cell? ⟨gb417, 3, none⟩ = some (.int .i64 a2_3) := (bkC BK417.out 3).trans rfl; have hcz143_4 : w139.cell? ⟨gb417, 4, none⟩ = some (.int .i64 a2_4) := (bkC BK417.out 4).trans rfl; have hfz143_0 := bkF BK417.out 0; have hfz143_1 := bkF BK417.out 1; have hfz143_2 := bkF BK417.out 2; have hfz143_3 := bkF BK417.out 3; have hfz143_4 := bkF BK417.out 4) | (go_at_call 27; (with_reducible refine (geometry_Crosses.calls k1 a0_0 a0_1 a1_0 a1_1 a0_0 a0_1 a2_0 a2_1 0 false _ A80.out).mono ?_); rintro e w144 ⟨rfl, hb⟩; have n0_ := Aside0.mk (Kd.R_below (by (with_reducible repeat (first | apply Kd.R_alloc | apply Kd.R_drewN | apply Kd.R_drew)); exact HO_21.out) hb); have n1_ := Aside0.mk (bkB (g := gb415) (o := .cells #[.int .i64 a0_0, .int .i64 a0_1] 28 (0, 0)) (by (with_reducible repeat (first | refine bkN ?_ _ | refine bkD ?_ | refine bkA ?_ _)); exact BK415.out) hb); have n2_ := Aside0.mk (bkB (g := gb416) (o := .cells #[.int .i64 a1_0, .int .i64 a1_1] 28 (0, 0)) (by (with_reducible repeat (first | refine bkN ?_ _ | refine bkD ?_ | refine bkA ?_ _)); exact BK416.out) hb); have n3_ := Aside0.mk (bkB (g := gb417) (o := .cells #[.int .i64 a2_0, .int .i64 a2_1, .int .i64 a2_2, .int .i64 a2_3, .int .i64 a2_4] 47 (0, 0)) (by (with_reducible repeat (first | refine bkN ?_ _ | refine bkD ?_ | refine bkA ?_ _)); exact BK417.out) hb); have n4_ := Aside0.mk (bkB (g := gb424) (o := .cells #[.int .i64 (wrap64 (2 * a0_0)), .int .i64 (wrap64 (2 * a0_1))] 28 (0, 0)) (by (with_reducible repeat (first | refine bkN ?_ _ | refine bkD ?_ | refine bkA ?_ _)); exact BK424.out) hb); have n5_ := Aside0.mk (bkB (g := gb425) (o := .cells #[.int .i64 (wrap64 (2 * a1_0)), .int .i64 (wrap64 (2 * a1_1))] 28 (0, 0)) (by (with_reducible repeat (first | refine bkN ?_ _ | refine bkD ?_ | refine bkA ?_ _)); exact BK425.out) hb); have n6_ := Aside0.mk (bkB (g := gb426) (o := .cells #[.int .i64 (wrap64 (a0_0 + a1_0)), .int .i64 (wrap64 (a0_1 + a1_1))] 28 (0, 0)) (by (with_reducible repeat (first | refine bkN ?_ _ | refine bkD ?_ | refine bkA ?_ _)); exact BK426.out) hb); have n7_ := Aside0.mk (below_step (by repeat (first | (with_reducible first | exact HB.out | apply blA | apply blN | apply blD | refine blS ?_ GE415.out | refine blS ?_ GE416.out | refine blS ?_ GE417.out | refine blS ?_ GE424.out | refine blS ?_ GE425.out | refine blS ?_ GE426.out) | exact HB.out)) hb); clear HO_21; clear BK415; clear BK416; clear BK417; clear BK424; clear BK425; clear BK426; clear HB; have HO_21 := n0_; have BK415 := n1_; have BK416 := n2_; have BK417 := n3_; have BK424 := n4_; have BK425 := n5_; have BK426 := n6_; have HB := n7_; clear n0_ n1_ n2_ n3_ n4_ n5_ n6_ n7_; (try clear hb); (try clear hb2); (try clear hk); (try clear hi)))
        go_meet
        case rel => exact ⟨_, (true), (by first | rfl | (simp; done) | (simp [*]; done)), H', ⟨by have := HK1.out; first | omega | exact Nat.le_refl _⟩, ⟨by (with_reducible repeat (first | refine bkN ?_ _ | refine bkD ?_ | refine bkA ?_ _)); exact BK415.out⟩, ⟨by (with_reducible repeat (first | refine bkN ?_ _ | refine bkD ?_ | refine bkA ?_ _)); exact BK416.out⟩, ⟨by (with_reducible repeat (first | refine bkN ?_ _ | refine bkD ?_ | refine bkA ?_ _)); exact BK417.out⟩, ⟨by (with_reducible repeat (first | refine bkN ?_ _ | refine bkD ?_ | refine bkA ?_ _)); exact BK424.out⟩, ⟨by (with_reducible repeat (first | refine bkN ?_ _ | refine bkD ?_ | refine bkA ?_ _)); exact BK425.out⟩, ⟨by (with_reducible repeat (first | refine bkN ?_ _ | refine bkD ?_ | refine bkA ?_ _)); exact BK426.out⟩, ⟨by repeat (first | (with_reducible first | exact HB.out | apply blA | apply blN | apply blD | refine blS ?_ GE415.out | refine blS ?_ GE416.out | refine blS ?_ GE417.out | refine blS ?_ GE424.out | refine blS ?_ GE425.out | refine blS ?_ GE426.out) | exact HB.out)⟩⟩
       subst c81
       have H1 : ((geometry_Crosses.f k1 a0_0 a0_1 a1_0 a1_1 a2_2 a2_3 a1_0 a1_1 0).bind fun t430 => (hopmeshlaw05_GeometryCrossings.j1 k1 (!t430) a0_0 a0_1 a1_0 a1_1 a2_0 a2_1 a2_2 a2_3 a2_4)) = some r := by rw [if_pos rfl] at H; exact H
       clear H
       have H := H1
       clear H1
       replace H := Option.bind_eq_some_iff.mp H
       obtain ⟨t430, A820, H⟩ := H
       replace H : (hopmeshlaw05_GeometryCrossings.j1 k1 (!t430) a0_0 a0_1 a1_0 a1_1 a2_0 a2_1 a2_2 a2_3 a2_4) = some r := H
       have A82 := Aside0.mk A820
       clear A820
       have H' := Aside0.mk H
       clear H
       have hnb83 := NB424_415.out
       have hnc83 := NB415_424.out
       have hnb84 := NB424_416.out
       have hnc84 := NB416_424.out
       have hnb85 := NB424_417.out
       have hnc85 := NB417_424.out
       have hnb86 := NB424_425.out
       have hnc86 := NB425_424.out
       have hnb87 := NB424_426.out
       have hnc87 := NB426_424.out
       have hcz88_0 : w69.cell? ⟨gb424, 0, none⟩ = some (.int .i64 (wrap64 (2 * a0_0))) := (bkC BK424.out 0).trans rfl
       have hcz88_1 : w69.cell? ⟨gb424, 1, none⟩ = some (.int .i64 (wrap64 (2 * a0_1))) := (bkC BK424.out 1).trans rfl
       have hfz88_0 := bkF BK424.out 0
       have hfz88_1 := bkF BK424.out 1
       have hnb89 := NB425_415.out
       have hnc89 := NB415_425.out
       have hnb90 := NB425_416.out
       have hnc90 := NB416_425.out
       have hnb91 := NB425_417.out
       have hnc91 := NB417_425.out
       have hnb92 := NB425_426.out
       have hnc92 := NB426_425.out
       have hcz93_0 : w69.cell? ⟨gb425, 0, none⟩ = some (.int .i64 (wrap64 (2 * a1_0))) := (bkC BK425.out 0).trans rfl
       have hcz93_1 : w69.cell? ⟨gb425, 1, none⟩ = some (.int .i64 (wrap64 (2 * a1_1))) := (bkC BK425.out 1).trans rfl
       have hfz93_0 := bkF BK425.out 0
       have hfz93_1 := bkF BK425.out 1
       have hnb94 := NB426_415.out
       have hnc94 := NB415_426.out
       have hnb95 := NB426_416.out
       have hnc95 := NB416_426.out
       have hnb96 := NB426_417.out
       have hnc96 := NB417_426.out
       have hcz97_0 : w69.cell? ⟨gb426, 0, none⟩ = some (.int .i64 0) := (bkC BK426.out 0).trans rfl
       have hcz97_1 : w69.cell? ⟨gb426, 1, none⟩ = some (.int .i64 0) := (bkC BK426.out 1).trans rfl
       have hfz97_0 := bkF BK426.out 0
       have hfz97_1 := bkF BK426.out 1
       have hnb98 := NB417_415.out
       have hnc98 := NB415_417.out
       have hnb99 := NB417_416.out
       have hnc99 := NB416_417.out
       have hcz100_0 : w69.cell? ⟨gb417, 0, none⟩ = some (.int .i64 a2_0) := (bkC BK417.out 0).trans rfl
       have hcz100_1 : w69.cell? ⟨gb417, 1, none⟩ = some (.int .i64 a2_1) := (bkC BK417.out 1).trans rfl
       have hcz100_2 : w69.cell? ⟨gb417, 2, none⟩ = some (.int .i64 a2_2) := (bkC BK417.out 2).trans rfl
       have hcz100_3 : w69.cell? ⟨gb417, 3, none⟩ = some (.int .i64 a2_3) := (bkC BK417.out 3).trans rfl
       have hcz100_4 : w69.cell? ⟨gb417, 4, none⟩ = some (.int .i64 a2_4) := (bkC BK417.out 4).trans rfl
       have hfz100_0 := bkF BK417.out 0
       have hfz100_1 := bkF BK417.out 1
       have hfz100_2 := bkF BK417.out 2
       have hfz100_3 := bkF BK417.out 3
       have hfz100_4 := bkF BK417.out 4
       go_wp2_with (first | ((with_reducible refine gate_callee (f := 27) rfl ?_); refine goesL_ (some 77) rfl rfl Try.func27 (by kernel_rfl) rfl #[.agg #[.int .i64 (wrap64 (2 * a0_0)), .int .i64 (wrap64 (2 * a0_1))], .agg #[.int .i64 (wrap64 (2 * a1_0)), .int .i64 (wrap64 (2 * a1_1))], .agg #[.int .i64 (wrap64 (a0_0 + a1_0)), .int .i64 (wrap64 (a0_1 + a1_1)), .int .i64 a2_0, .int .i64 a2_1, .int .i64 0]] rfl (by (try simp only [List.map_toArray, List.map_cons, List.map_nil]); first | done | rfl | (simp only [List.length_drop, List.length_take]; rfl)) ?_; (with_reducible refine (geometry_Crosses.calls k1 (wrap64 (2 * a0_0)) (wrap64 (2 * a0_1)) (wrap64 (2 * a1_0)) (wrap64 (2 * a1_1)) (wrap64 (a0_0 + a1_0)) (wrap64 (a0_1 + a1_1)) a2_0 a2_1 0 true _ A76.out).mono ?_); rintro e w101 ⟨rfl, hb⟩; refine ⟨_, rfl, ?_⟩; have n0_ := Aside0.mk (Kd.R_below (by (with_reducible repeat (first | apply Kd.R_alloc | apply Kd.R_drewN | apply Kd.R_drew)); exact (Kd.R_mono (Kd.R_far (p := ⟨gb426, 1, none⟩) (Kd.R_far (p := ⟨gb426, 0, none⟩) (Kd.R_mono HO_21.out (fun k_ hk => (⟨hk, hk.2⟩ : _ ∧ k_ ≠ gb426))) (fun _ hk => hk.2) (.int .i64 (wrap64 (a0_0 + a1_0)))) (fun _ hk => hk.2) (.int .i64 (wrap64 (a0_1 + a1_1)))) (fun _ h_ => h_.1))) hb); have n1_ := Aside0.mk (bkB (g := gb415) (o := .cells #[.int .i64 a0_0, .int .i64 a0_1] 28 (0, 0)) (by (with_reducible repeat (first | refine bkN ?_ _ | refine bkD ?_ | refine bkA ?_ _)); refine blk_far ?_ NB415_426.out _; (with_reducible repeat (first | refine bkN ?_ _ | refine bkD ?_ | refine bkA ?_ _)); refine blk_far ?_ NB415_426.out _; (with_reducible repeat (first | refine bkN ?_ _ | refine bkD ?_ | refine bkA ?_ _)); exact BK415.out) hb); have n2_ := Aside0.mk (bkB (g := gb416) (o := .cells #[.int .i64 a1_0, .int .i64 a1_1] 28 (0, 0)) (by (with_reducible repeat (first | refine bkN ?_ _ | refine bkD ?_ | refine bkA ?_ _)); refine blk_far ?_ NB416_426.out _; (with_reducible repeat (first | refine bkN ?_ _ | refine bkD ?_ | refine bkA ?_ _)); refine blk_far ?_ NB416_426.out _; (with_reducible repeat (first | refine bkN ?_ _ | refine bkD ?_ | refine bkA ?_ _)); exact BK416.out) hb); have n3_ := Aside0.mk (bkB (g := gb417) (o := .cells #[.int .i64 a2_0, .int .i64 a2_1, .int .i64 a2_2, .int .i64 a2_3, .int .i64 a2_4] 47 (0, 0)) (by (with_reducible repeat (first | refine bkN ?_ _ | refine bkD ?_ | refine bkA ?_ _)); refine blk_far ?_ NB417_426.out _; (with_reducible repeat (first | refine bkN ?_ _ | refine bkD ?_ | refine bkA ?_ _)); refine blk_far ?_ NB417_426.out _; (with_reducible repeat (first | refine bkN ?_ _ | refine bkD ?_ | refine bkA ?_ _)); exact BK417.out) hb); have n4_ := Aside0.mk (bkB (g := gb424) (o := .cells #[.int .i64 (wrap64 (2 * a0_0)), .int .i64 (wrap64 (2 * a0_1))] 28 (0, 0)) (by (with_reducible repeat (first | refine bkN ?_ _ | refine bkD ?_ | refine bkA ?_ _)); refine blk_far ?_ NB424_426.out _; (with_reducible repeat (first | refine bkN ?_ _ | refine bkD ?_ | refine bkA ?_ _)); refine blk_far ?_ NB424_426.out _; (with_reducible repeat (first | refine bkN ?_ _ | refine bkD ?_ | refine bkA ?_ _)); exact BK424.out) hb); have n5_ := Aside0.mk (bkB (g := gb425) (o := .cells #[.int .i64 (wrap64 (2 * a1_0)), .int .i64 (wrap64 (2 * a1_1))] 28 (0, 0)) (by (with_reducible repeat (first | refine bkN ?_ _ | refine bkD ?_ | refine bkA ?_ _)); refine blk_far ?_ NB425_426.out _; (with_reducible repeat (first | refine bkN ?_ _ | refine bkD ?_ | refine bkA ?_ _)); refine blk_far ?_ NB425_426.out _; (with_reducible repeat (first | refine bkN ?_ _ | refine bkD ?_ | refine bkA ?_ _)); exact BK425.out) hb); have n6_ := Aside0.mk (bkB (g := gb426) (o := .cells #[.int .i64 (wrap64 (a0_0 + a1_0)), .int .i64 (wrap64 (a0_1 + a1_1))] 28 (0, 0)) (by (with_reducible repeat (first | refine bkN ?_ _ | refine bkD ?_ | refine bkA ?_ _)); refine blk_put (cs := #[.int .i64 (wrap64 (a0_0 + a1_0)), .int .i64 0]) ?_ 1 _ rfl; (with_reducible repeat (first | refine bkN ?_ _ | refine bkD ?_ | refine bkA ?_ _)); refine blk_put (cs := #[.int .i64 0, .int .i64 0]) ?_ 0 _ rfl; (with_reducible repeat (first | refine bkN ?_ _ | refine bkD ?_ | refine bkA ?_ _)); exact BK426.out) hb); have n7_ := Aside0.mk (below_step (by repeat (first | (with_reducible first | exact HB.out | apply blA | apply blN | apply blD | refine blS ?_ GE415.out | refine blS ?_ GE416.out | refine blS ?_ GE417.out | refine blS ?_ GE424.out | refine blS ?_ GE425.out | refine blS ?_ GE426.out) | exact HB.out)) hb); clear HO_21; clear BK415; clear BK416; clear BK417; clear BK424; clear BK425; clear BK426; clear HB; have HO_21 := n0_; have BK415 := n1_; have BK416 := n2_; have BK417 := n3_; have BK424 := n4_; have BK425 := n5_; have BK426 := n6_; have HB := n7_; clear n0_ n1_ n2_ n3_ n4_ n5_ n6_ n7_; (try clear hb); (try clear hb2); (try clear hk); (try clear hi); have hcz102_0 : w101.cell? ⟨gb424, 0, none⟩ = some (.int .i64 (wrap64 (2 * a0_0))) := (bkC BK424.out 0).trans rfl; have hcz102_1 : w101.cell? ⟨gb424, 1, none⟩ = some (.int .i64 (wrap64 (2 * a0_1))) := (bkC BK424.out 1).trans rfl; have hfz102_0 := bkF BK424.out 0; have hfz102_1 := bkF BK424.out 1; have hcz103_0 : w101.cell? ⟨gb425, 0, none⟩ = some (.int .i64 (wrap64 (2 * a1_0))) := (bkC BK425.out 0).trans rfl; have hcz103_1 : w101.cell? ⟨gb425, 1, none⟩ = some (.int .i64 (wrap64 (2 * a1_1))) := (bkC BK425.out 1).trans rfl; have hfz103_0 := bkF BK425.out 0; have hfz103_1 := bkF BK425.out 1; have hcz104_0 : w101.cell? ⟨gb417, 0, none⟩ = some (.int .i64 a2_0) := (bkC BK417.out 0).trans rfl; have hcz104_1 : w101.cell? ⟨gb417, 1, none⟩ = some (.int .i64 a2_1) := (bkC BK417.out 1).trans rfl; have hcz104_2 : w101.cell? ⟨gb417, 2, none⟩ = some (.int .i64 a2_2) := (bkC BK417.out 2).trans rfl; have hcz104_3 : w101.cell? ⟨gb417, 3, none⟩ = some (.int .i64 a2_3) := (bkC BK417.out 3).trans rfl; have hcz104_4 : w101.cell? ⟨gb417, 4, none⟩ = some (.int .i64 a2_4) := (bkC BK417.out 4).trans rfl; have hfz104_0 := bkF BK417.out 0; have hfz104_1 := bkF BK417.out 1; have hfz104_2 := bkF BK417.out 2; have hfz104_3 := bkF BK417.out 3; have hfz104_4 := bkF BK417.out 4; have hcz105_0 : w101.cell? ⟨gb426, 0, none⟩ = some (.int .i64 (wrap64 (a0_0 + a1_0))) := (bkC BK426.out 0).trans rfl; have hcz105_1 : w101.cell? ⟨gb426, 1, none⟩ = some (.int .i64 (wrap64 (a0_1 + a1_1))) := (bkC BK426.out 1).trans rfl; have hfz105_0 := bkF BK426.out 0; have hfz105_1 := bkF BK426.out 1) | (go_at_call 27; (with_reducible refine (geometry_Crosses.calls k1 (wrap64 (2 * a0_0)) (wrap64 (2 * a0_1)) (wrap64 (2 * a1_0)) (wrap64 (2 * a1_1)) a2_2 a2_3 (wrap64 (a0_0 + a1_0)) (wrap64 (a0_1 + a1_1)) 0 true _ A78.out).mono ?_); rintro e w106 ⟨rfl, hb⟩; have n0_ := Aside0.mk (Kd.R_below (by (with_reducible repeat (first | apply Kd.R_alloc | apply Kd.R_drewN | apply Kd.R_drew)); exact HO_21.out) hb); have n1_ := Aside0.mk (bkB (g := gb415) (o := .cells #[.int .i64 a0_0, .int .i64 a0_1] 28 (0, 0)) (by (with_reducible repeat (first | refine bkN ?_ _ | refine bkD ?_ | refine bkA ?_ _)); exact BK415.out) hb); have n2_ := Aside0.mk (bkB (g := gb416) (o := .cells #[.int .i64 a1_0, .int .i64 a1_1] 28 (0, 0)) (by (with_reducible repeat (first | refine bkN ?_ _ | refine bkD ?_ | refine bkA ?_ _)); exact BK416.out) hb); have n3_ := Aside0.mk (bkB (g := gb417) (o := .cells #[.int .i64 a2_0, .int .i64 a2_1, .int .i64 a2_2, .int .i64 a2_3, .int .i64 a2_4] 47 (0, 0)) (by (with_reducible repeat (first | refine bkN ?_ _ | refine bkD ?_ | refine bkA ?_ _)); exact BK417.out) hb); have n4_ := Aside0.mk (bkB (g := gb424) (o := .cells #[.int .i64 (wrap64 (2 * a0_0)), .int .i64 (wrap64 (2 * a0_1))] 28 (0, 0)) (by (with_reducible repeat (first | refine bkN ?_ _ | refine bkD ?_ | refine bkA ?_ _)); exact BK424.out) hb); have n5_ := Aside0.mk (bkB (g := gb425) (o := .cells #[.int .i64 (wrap64 (2 * a1_0)), .int .i64 (wrap64 (2 * a1_1))] 28 (0, 0)) (by (with_reducible repeat (first | refine bkN ?_ _ | refine bkD ?_ | refine bkA ?_ _)); exact BK425.out) hb); have n6_ := Aside0.mk (bkB (g := gb426) (o := .cells #[.int .i64 (wrap64 (a0_0 + a1_0)), .int .i64 (wrap64 (a0_1 + a1_1))] 28 (0, 0)) (by (with_reducible repeat (first | refine bkN ?_ _ | refine bkD ?_ | refine bkA ?_ _)); exact BK426.out) hb); have n7_ := Aside0.mk (below_step (by repeat (first | (with_reducible first | exact HB.out | apply blA | apply blN | apply blD | refine blS ?_ GE415.out | refine blS ?_ GE416.out | refine blS ?_ GE417.out | refine blS ?_ GE424.out | refine blS ?_ GE425.out | refine blS ?_ GE426.out) | exact HB.out)) hb); clear HO_21; clear BK415; clear BK416; clear BK417; clear BK424; clear BK425; clear BK426; clear HB; have HO_21 := n0_; have BK415 := n1_; have BK416 := n2_; have BK417 := n3_; have BK424 := n4_; have BK425 := n5_; have BK426 := n6_; have HB := n7_; clear n0_ n1_ n2_ n3_ n4_ n5_ n6_ n7_; (try clear hb); (try clear hb2); (try clear hk); (try clear hi); have hnb107 := NB415_416.out; have hnc107 := NB416_415.out; have hcz108_0 : w106.cell? ⟨gb415, 0, none⟩ = some (.int .i64 a0_0) := (bkC BK415.out 0).trans rfl; have hcz108_1 : w106.cell? ⟨gb415, 1, none⟩ = some (.int .i64 a0_1) := (bkC BK415.out 1).trans rfl; have hfz108_0 := bkF BK415.out 0; have hfz108_1 := bkF BK415.out 1; have hcz109_0 : w106.cell? ⟨gb416, 0, none⟩ = some (.int .i64 a1_0) := (bkC BK416.out 0).trans rfl; have hcz109_1 : w106.cell? ⟨gb416, 1, none⟩ = some (.int .i64 a1_1) := (bkC BK416.out 1).trans rfl; have hfz109_0 := bkF BK416.out 0; have hfz109_1 := bkF BK416.out 1; have hcz110_0 : w106.cell? ⟨gb417, 0, none⟩ = some (.int .i64 a2_0) := (bkC BK417.out 0).trans rfl; have hcz110_1 : w106.cell? ⟨gb417, 1, none⟩ = some (.int .i64 a2_1) := (bkC BK417.out 1).trans rfl; have hcz110_2 : w106.cell? ⟨gb417, 2, none⟩ = some (.int .i64 a2_2) := (bkC BK417.out 2).trans rfl; have hcz110_3 : w106.cell? ⟨gb417, 3, none⟩ = some (.int .i64 a2_3) := (bkC BK417.out 3).trans rfl; have hcz110_4 : w106.cell? ⟨gb417, 4, none⟩ = some (.int .i64 a2_4) := (bkC BK417.out 4).trans rfl; have hfz110_0 := bkF BK417.out 0; have hfz110_1 := bkF BK417.out 1; have hfz110_2 := bkF BK417.out 2; have hfz110_3 := bkF BK417.out 3; have hfz110_4 := bkF BK417.out 4) | (go_at_call 27; (with_reducible refine (geometry_Crosses.calls k1 a0_0 a0_1 a1_0 a1_1 a0_0 a0_1 a2_0 a2_1 0 true _ A80.out).mono ?_); rintro e w111 ⟨rfl, hb⟩; have n0_ := Aside0.mk (Kd.R_below (by (with_reducible repeat (first | apply Kd.R_alloc | apply Kd.R_drewN | apply Kd.R_drew)); exact HO_21.out) hb); have n1_ := Aside0.mk (bkB (g := gb415) (o := .cells #[.int .i64 a0_0, .int .i64 a0_1] 28 (0, 0)) (by (with_reducible repeat (first | refine bkN ?_ _ | refine bkD ?_ | refine bkA ?_ _)); exact BK415.out) hb); have n2_ := Aside0.mk (bkB (g := gb416) (o := .cells #[.int .i64 a1_0, .int .i64 a1_1] 28 (0, 0)) (by (with_reducible repeat (first | refine bkN ?_ _ | refine bkD ?_ | refine bkA ?_ _)); exact BK416.out) hb); have n3_ := Aside0.mk (bkB (g := gb417) (o := .cells #[.int .i64 a2_0, .int .i64 a2_1, .int .i64 a2_2, .int .i64 a2_3, .int .i64 a2_4] 47 (0, 0)) (by (with_reducible repeat (first | refine bkN ?_ _ | refine bkD ?_ | refine bkA ?_ _)); exact BK417.out) hb); have n4_ := Aside0.mk (bkB (g := gb424) (o := .cells #[.int .i64 (wrap64 (2 * a0_0)), .int .i64 (wrap64 (2 * a0_1))] 28 (0, 0)) (by (with_reducible repeat (first | refine bkN ?_ _ | refine bkD ?_ | refine bkA ?_ _)); exact BK424.out) hb); have n5_ := Aside0.mk (bkB (g := gb425) (o := .cells #[.int .i64 (wrap64 (2 * a1_0)), .int .i64 (wrap64 (2 * a1_1))] 28 (0, 0)) (by (with_reducible repeat (first | refine bkN ?_ _ | refine bkD ?_ | refine bkA ?_ _)); exact BK425.out) hb); have n6_ := Aside0.mk (bkB (g := gb426) (o := .cells #[.int .i64 (wrap64 (a0_0 + a1_0)), .int .i64 (wrap64 (a0_1 + a1_1))] 28 (0, 0)) (by (with_reducible repeat (first | refine bkN ?_ _ | refine bkD ?_ | refine bkA ?_ _)); exact BK426.out) hb); have n7_ := Aside0.mk (below_step (by repeat (first | (with_reducible first | exact HB.out | apply blA | apply blN | apply blD | refine blS ?_ GE415.out | refine blS ?_ GE416.out | refine blS ?_ GE417.out | refine blS ?_ GE424.out | refine blS ?_ GE425.out | refine blS ?_ GE426.out) | exact HB.out)) hb); clear HO_21; clear BK415; clear BK416; clear BK417; clear BK424; clear BK425; clear BK426; clear HB; have HO_21 := n0_; have BK415 := n1_; have BK416 := n2_; have BK417 := n3_; have BK424 := n4_; have BK425 := n5_; have BK426 := n6_; have HB := n7_; clear n0_ n1_ n2_ n3_ n4_ n5_ n6_ n7_; (try clear hb); (try clear hb2); (try clear hk); (try clear hi); have hcz112_0 : w111.cell? ⟨gb415, 0, none⟩ = some (.int .i64 a0_0) := (bkC BK415.out 0).trans rfl; have hcz112_1 : w111.cell? ⟨gb415, 1, none⟩ = some (.int .i64 a0_1) := (bkC BK415.out 1).trans rfl; have hfz112_0 := bkF BK415.out 0; have hfz112_1 := bkF BK415.out 1; have hcz113_0 : w111.cell? ⟨gb416, 0, none⟩ = some (.int .i64 a1_0) := (bkC BK416.out 0).trans rfl; have hcz113_1 : w111.cell? ⟨gb416, 1, none⟩ = some (.int .i64 a1_1) := (bkC BK416.out 1).trans rfl; have hfz113_0 := bkF BK416.out 0; have hfz113_1 := bkF BK416.out 1; have hcz114_0 : w111.cell? ⟨gb417, 0, none⟩ = some (.int .i64 a2_0) := (bkC BK417.out 0).trans rfl; have hcz114_1 : w111.cell? ⟨gb417, 1, none⟩ = some (.int .i64 a2_1) := (bkC BK417.out 1).trans rfl; have hcz114_2 : w111.cell? ⟨gb417, 2, none⟩ = some (.int .i64 a2_2) := (bkC BK417.out 2).trans rfl; have hcz114_3 : w111.cell? ⟨gb417, 3, none⟩ = some (.int .i64 a2_3) := (bkC BK417.out 3).trans rfl; have hcz114_4 : w111.cell? ⟨gb417, 4, none⟩ = some (.int .i64 a2_4) := (bkC BK417.out 4).trans rfl; have hfz114_0 := bkF BK417.out 0; have hfz114_1 := bkF BK417.out 1; have hfz114_2 := bkF BK417.out 2; have hfz114_3 := bkF BK417.out 3; have hfz114_4 := bkF BK417.out 4) | (go_at_call 27; (with_reducible refine (geometry_Crosses.calls k1 a0_0 a0_1 a1_0 a1_1 a2_2 a2_3 a1_0 a1_1 0 t430 _ A82.out).mono ?_); rintro e w115 ⟨rfl, hb⟩; have n0_ := Aside0.mk (Kd.R_below (by (with_reducible repeat (first | apply Kd.R_alloc | apply Kd.R_drewN | apply Kd.R_drew)); exact HO_21.out) hb); have n1_ := Aside0.mk (bkB (g := gb415) (o := .cells #[.int .i64 a0_0, .int .i64 a0_1] 28 (0, 0)) (by (with_reducible repeat (first | refine bkN ?_ _ | refine bkD ?_ | refine bkA ?_ _)); exact BK415.out) hb); have n2_ := Aside0.mk (bkB (g := gb416) (o := .cells #[.int .i64 a1_0, .int .i64 a1_1] 28 (0, 0)) (by (with_reducible repeat (first | refine bkN ?_ _ | refine bkD ?_ | refine bkA ?_ _)); exact BK416.out) hb); have n3_ := Aside0.mk (bkB (g := gb417) (o := .cells #[.int .i64 a2_0, .int .i64 a2_1, .int .i64 a2_2, .int .i64 a2_3, .int .i64 a2_4] 47 (0, 0)) (by (with_reducible repeat (first | refine bkN ?_ _ | refine bkD ?_ | refine bkA ?_ _)); exact BK417.out) hb); have n4_ := Aside0.mk (bkB (g := gb424) (o := .cells #[.int .i64 (wrap64 (2 * a0_0)), .int .i64 (wrap64 (2 * a0_1))] 28 (0, 0)) (by (with_reducible repeat (first | refine bkN ?_ _ | refine bkD ?_ | refine bkA ?_ _)); exact BK424.out) hb); have n5_ := Aside0.mk (bkB (g := gb425) (o := .cells #[.int .i64 (wrap64 (2 * a1_0)), .int .i64 (wrap64 (2 * a1_1))] 28 (0, 0)) (by (with_reducible repeat (first | refine bkN ?_ _ | refine bkD ?_ | refine bkA ?_ _)); exact BK425.out) hb); have n6_ := Aside0.mk (bkB (g := gb426) (o := .cells #[.int .i64 (wrap64 (a0_0 + a1_0)), .int .i64 (wrap64 (a0_1 + a1_1))] 28 (0, 0)) (by (with_reducible repeat (first | refine bkN ?_ _ | refine bkD ?_ | refine bkA ?_ _)); exact BK426.out) hb); have n7_ := Aside0.mk (below_step (by repeat (first | (with_reducible first | exact HB.out | apply blA | apply blN | apply blD | refine blS ?_ GE415.out | refine blS ?_ GE416.out | refine blS ?_ GE417.out | refine blS ?_ GE424.out | refine blS ?_ GE425.out | refine blS ?_ GE426.out) | exact HB.out)) hb); clear HO_21; clear BK415; clear BK416; clear BK417; clear BK424; clear BK425; clear BK426; clear HB; have HO_21 := n0_; have BK415 := n1_; have BK416 := n2_; have BK417 := n3_; have BK424 := n4_; have BK425 := n5_; have BK426 := n6_; have HB := n7_; clear n0_ n1_ n2_ n3_ n4_ n5_ n6_ n7_; (try clear hb); (try clear hb2); (try clear hk); (try clear hi)))
       go_meet
       case rel => exact ⟨_, (!t430), (by first | rfl | (simp; done) | (simp [*]; done)), H', ⟨by have := HK1.out; first | omega | exact Nat.le_refl _⟩, ⟨by (with_reducible repeat (first | refine bkN ?_ _ | refine bkD ?_ | refine bkA ?_ _)); exact BK415.out⟩, ⟨by (with_reducible repeat (first | refine bkN ?_ _ | refine bkD ?_ | refine bkA ?_ _)); exact BK416.out⟩, ⟨by (with_reducible repeat (first | refine bkN ?_ _ | refine bkD ?_ | refine bkA ?_ _)); exact BK417.out⟩, ⟨by (with_reducible repeat (first | refine bkN ?_ _ | refine bkD ?_ | refine bkA ?_ _)); exact BK424.out⟩, ⟨by (with_reducible repeat (first | refine bkN ?_ _ | refine bkD ?_ | refine bkA ?_ _)); exact BK425.out⟩, ⟨by (with_reducible repeat (first | refine bkN ?_ _ | refine bkD ?_ | refine bkA ?_ _)); exact BK426.out⟩, ⟨by repeat (first | (with_reducible first | exact HB.out | apply blA | apply blN | apply blD | refine blS ?_ GE415.out | refine blS ?_ GE416.out | refine blS ?_ GE417.out | refine blS ?_ GE424.out | refine blS ?_ GE425.out | refine blS ?_ GE426.out) | exact HB.out)⟩⟩
     case rest => as_aux_lemma =>
      clear HC51
      try clear c1
      try clear c2
      try clear p2
      try clear c6
      try clear p6
      try clear c7
      try clear c8
      try clear c9
      try clear c10
      try clear c11
      try clear c12
      try clear c13
      try clear c14
      try clear c15
      try clear c16
      try clear c17
      try clear c18
      try clear c27
      try clear c60
      try clear c61
      try clear c62
      try clear c63
      try clear p64
      try clear c65
      try clear c66
      try clear c67
      try clear c70
      try clear c71
      try clear c72
      try clear c73
      try clear c74
      try clear c77
      try clear c79
      try clear c81
      try clear c83
      try clear c84
      try clear c85
      try clear c86
      try clear c87
      try clear c89
      try clear c90
      try clear c91
      try clear c92
      try clear c94
      try clear c95
      try clear c96
      try clear c98
      try clear c99
      try clear c107
      try clear c116
      try clear c117
      try clear c118
      try clear c119
      try clear c120
      try clear c122
      try clear c123
      try clear c124
      try clear c125
      try clear c127
      try clear c128
      try clear c129
      try clear c131
      try clear c132
      try clear c140
      try clear c145
      try clear c146
      try clear c147
      try clear c148
      try clear c149
      try clear c151
      try clear c152
      try clear c153
      try clear c154
      try clear c156
      try clear c157
      try clear c158
      try clear c160
      try clear c161
      try clear c169
      try clear c170
      try clear c171
      try clear c172
      try clear c173
      try clear c175
      try clear c176
      try clear c177
      try clear c178
      try clear c180
      try clear c181
      try clear c182
      try clear c184
      try clear c185
      try clear hcz100_0
      try clear hcz100_1
      try clear hcz100_2
      try clear hcz100_3
      try clear hcz100_4
      try clear hcz102_0
      try clear hcz102_1
      try clear hcz103_0
      try clear hcz103_1
      try clear hcz104_0
      try clear hcz104_1
      try clear hcz104_2
      try clear hcz104_3
      try clear hcz104_4
      try clear hcz105_0
      try clear hcz105_1
      try clear hcz108_0
      try clear hcz108_1
      try clear hcz109_0
      try clear hcz109_1
      try clear hcz110_0
      try clear hcz110_1
      try clear hcz110_2
      try clear hcz110_3
      try clear hcz110_4
      try clear hcz112_0
      try clear hcz112_1
      try clear hcz113_0
      try clear hcz113_1
      try clear hcz114_0
      try clear hcz114_1
      try clear hcz114_2
      try clear hcz114_3
      try clear hcz114_4
      try clear hcz121_0
      try clear hcz121_1
      try clear hcz126_0
      try clear hcz126_1
      try clear hcz130_0
      try clear hcz130_1
      try clear hcz133_0
      try clear hcz133_1
      try clear hcz133_2
      try clear hcz133_3
      try clear hcz133_4
      try clear hcz135_0
      try clear hcz135_1
      try clear hcz136_0
      try clear hcz136_1
      try clear hcz137_0
      try clear hcz137_1
      try clear hcz137_2
      try clear hcz137_3
      try clear hcz137_4
      try clear hcz138_0
      try clear hcz138_1
      try clear hcz141_0
      try clear hcz141_1
      try clear hcz142_0
      try clear hcz142_1
      try clear hcz143_0
      try clear hcz143_1
      try clear hcz143_2
      try clear hcz143_3
      try clear hcz143_4
      try clear hcz150_0
      try clear hcz150_1
      try clear hcz155_0
      try clear hcz155_1
      try clear hcz159_0
      try clear hcz159_1
      try clear hcz162_0
      try clear hcz162_1
      try clear hcz162_2
      try clear hcz162_3
      try clear hcz162_4
      try clear hcz164_0
      try clear hcz164_1
      try clear hcz165_0
      try clear hcz165_1
      try clear hcz166_0
      try clear hcz166_1
      try clear hcz166_2
      try clear hcz166_3
      try clear hcz166_4
      try clear hcz167_0
      try clear hcz167_1
      try clear hcz174_0
      try clear hcz174_1
      try clear hcz179_0
      try clear hcz179_1
      try clear hcz183_0
      try clear hcz183_1
      try clear hcz186_0
      try clear hcz186_1
      try clear hcz186_2
      try clear hcz186_3
      try clear hcz186_4
      try clear hcz64_0
      try clear hcz64_1
      try clear hcz68_0
      try clear hcz68_1
      try clear hcz75_0
      try clear hcz75_1
      try clear hcz88_0
      try clear hcz88_1
      try clear hcz93_0
      try clear hcz93_1
      try clear hcz97_0
      try clear hcz97_1
      try clear hfz100_0
      try clear hfz100_1
      try clear hfz100_2
      try clear hfz100_3
      try clear hfz100_4
      try clear hfz102_0
      try clear hfz102_1
      try clear hfz103_0
      try clear hfz103_1
      try clear hfz104_0
      try clear hfz104_1
      try clear hfz104_2
      try clear hfz104_3
      try clear hfz104_4
      try clear hfz105_0
      try clear hfz105_1
      try clear hfz108_0
      try clear hfz108_1
      try clear hfz109_0
      try clear hfz109_1
      try clear hfz110_0
      try clear hfz110_1
      try clear hfz110_2
      try clear hfz110_3
      try clear hfz110_4
      try clear hfz112_0
      try clear hfz112_1
      try clear hfz113_0
      try clear hfz113_1
      try clear hfz114_0
      try clear hfz114_1
      try clear hfz114_2
      try clear hfz114_3
      try clear hfz114_4
      try clear hfz121_0
      try clear hfz121_1
      try clear hfz126_0
      try clear hfz126_1
      try clear hfz130_0
      try clear hfz130_1
      try clear hfz133_0
      try clear hfz133_1
      try clear hfz133_2
      try clear hfz133_3
      try clear hfz133_4
      try clear hfz135_0
      try clear hfz135_1
      try clear hfz136_0
      try clear hfz136_1
      try clear hfz137_0
      try clear hfz137_1
      try clear hfz137_2
      try clear hfz137_3
      try clear hfz137_4
      try clear hfz138_0
      try clear hfz138_1
      try clear hfz141_0
      try clear hfz141_1
      try clear hfz142_0
      try clear hfz142_1
      try clear hfz143_0
      try clear hfz143_1
      try clear hfz143_2
      try clear hfz143_3
      try clear hfz143_4
      try clear hfz150_0
      try clear hfz150_1
      try clear hfz155_0
      try clear hfz155_1
      try clear hfz159_0
      try clear hfz159_1
      try clear hfz162_0
      try clear hfz162_1
      try clear hfz162_2
      try clear hfz162_3
      try clear hfz162_4
      try clear hfz164_0
      try clear hfz164_1
      try clear hfz165_0
      try clear hfz165_1
      try clear hfz166_0
      try clear hfz166_1
      try clear hfz166_2
      try clear hfz166_3
      try clear hfz166_4
      try clear hfz167_0
      try clear hfz167_1
      try clear hfz174_0
      try clear hfz174_1
      try clear hfz179_0
      try clear hfz179_1
      try clear hfz183_0
      try clear hfz183_1
      try clear hfz186_0
      try clear hfz186_1
      try clear hfz186_2
      try clear hfz186_3
      try clear hfz186_4
      try clear hfz64_0
      try clear hfz64_1
      try clear hfz68_0
      try clear hfz68_1
      try clear hfz75_0
      try clear hfz75_1
      try clear hfz88_0
      try clear hfz88_1
      try clear hfz93_0
      try clear hfz93_1
      try clear hfz97_0
      try clear hfz97_1
      obtain ⟨kq, x108_50, rfl, HA, HJ50, BK415, BK416, BK417, BK424, BK425, BK426, HB⟩ := hcut
      cases kq with
      | zero => exact absurd HA.out (by simp [hopmeshlaw05_GeometryCrossings.j1])
      | succ kj50 =>
       have H := HA.out
       clear HA
       simp only [hopmeshlaw05_GeometryCrossings.j1] at H
       by_cases c188 : x108_50 = true
       ·subst c188
        have H1 : (some false) = some r := by rw [if_pos rfl] at H; exact H
        clear H
        have H := H1
        clear H1
        exact absurd (H.trans (congrArg some HRT.out)) (by simp)
       replace c188 := Bool.eq_false_iff.mpr c188
       subst c188
       have H1 : (if (mx a0_0 a1_0) < (mn a2_0 a2_2) then ((geometry_Crosses.f kj50 a0_0 a0_1 a1_0 a1_1 a2_0 a2_1 a2_2 a2_3 a2_4).bind fun t431 => (some (!t431))) else (if (mx a2_0 a2_2) < (mn a0_0 a1_0) then ((geometry_Crosses.f kj50 a0_0 a0_1 a1_0 a1_1 a2_0 a2_1 a2_2 a2_3 a2_4).bind fun t432 => (some (!t432))) else (if (mx a0_1 a1_1) < (mn a2_1 a2_3) then ((geometry_Crosses.f kj50 a0_0 a0_1 a1_0 a1_1 a2_0 a2_1 a2_2 a2_3 a2_4).bind fun t433 => (some (!t433))) else (if ((mx a2_1 a2_3) < (mn a0_1 a1_1)) then ((geometry_Crosses.f kj50 a0_0 a0_1 a1_0 a1_1 a2_0 a2_1 a2_2 a2_3 a2_4).bind fun t434 => (some (!t434))) else (some true))))) = some r := by rw [if_neg (show ¬ (false = true) by decide)] at H; exact H
       clear H
       have H := H1
       clear H1
       obtain ⟨ji189, hji189⟩ : ∃ j_ : Int, (mx a0_0 a1_0) = j_ := ⟨_, rfl⟩
       replace H : (if (ji189) < (mn a2_0 a2_2) then ((geometry_Crosses.f kj50 a0_0 a0_1 a1_0 a1_1 a2_0 a2_1 a2_2 a2_3 a2_4).bind fun t431 => (some (!t431))) else (if (mx a2_0 a2_2) < (mn a0_0 a1_0) then ((geometry_Crosses.f kj50 a0_0 a0_1 a1_0 a1_1 a2_0 a2_1 a2_2 a2_3 a2_4).bind fun t432 => (some (!t432))) else (if (mx a0_1 a1_1) < (mn a2_1 a2_3) then ((geometry_Crosses.f kj50 a0_0 a0_1 a1_0 a1_1 a2_0 a2_1 a2_2 a2_3 a2_4).bind fun t433 => (some (!t433))) else (if ((mx a2_1 a2_3) < (mn a0_1 a1_1)) then ((geometry_Crosses.f kj50 a0_0 a0_1 a1_0 a1_1 a2_0 a2_1 a2_2 a2_3 a2_4).bind fun t434 => (some (!t434))) else (some true))))) = some r := by first | (rw [hji189] at H; exact H) | (simp only [hji189] at H ⊢; exact H)
       have hji189_ : (if a0_0 < a1_0 then a1_0 else a0_0) = ji189 := hji189
       obtain ⟨ji190, hji190⟩ : ∃ j_ : Int, (mn a2_0 a2_2) = j_ := ⟨_, rfl⟩
       replace H : (if (ji189) < (ji190) then ((geometry_Crosses.f kj50 a0_0 a0_1 a1_0 a1_1 a2_0 a2_1 a2_2 a2_3 a2_4).bind fun t431 => (some (!t431))) else (if (mx a2_0 a2_2) < (mn a0_0 a1_0) then ((geometry_Crosses.f kj50 a0_0 a0_1 a1_0 a1_1 a2_0 a2_1 a2_2 a2_3 a2_4).bind fun t432 => (some (!t432))) else (if (mx a0_1 a1_1) < (mn a2_1 a2_3) then ((geometry_Crosses.f kj50 a0_0 a0_1 a1_0 a1_1 a2_0 a2_1 a2_2 a2_3 a2_4).bind fun t433 => (some (!t433))) else (if ((mx a2_1 a2_3) < (mn a0_1 a1_1)) then ((geometry_Crosses.f kj50 a0_0 a0_1 a1_0 a1_1 a2_0 a2_1 a2_2 a2_3 a2_4).bind fun t434 => (some (!t434))) else (some true))))) = some r := by first | (rw [hji190] at H; exact H) | (simp only [hji190] at H ⊢; exact H)
       have hji190_ : (if a2_2 < a2_0 then a2_2 else a2_0) = ji190 := hji190
       by_cases c191 : (ji189) < (ji190)
       ·rw [if_pos c191] at H
        have c191b0 : decide ((ji189) < (ji190)) = true := decide_eq_true c191
        clear c191
        replace H := Option.bind_eq_some_iff.mp H
        obtain ⟨t431, A1920, H⟩ := H
        replace H : (some (!t431)) = some r := H
        have A192 := Aside0.mk A1920
        clear A1920
        obtain rfl := Option.some.inj H
        have hnb193 := NB415_416.out
        have hnc193 := NB416_415.out
        have hnb194 := NB415_417.out
        have hnc194 := NB417_415.out
        have hnb195 := NB415_424.out
        have hnc195 := NB424_415.out
        have hnb196 := NB415_425.out
        have hnc196 := NB425_415.out
        have hnb197 := NB415_426.out
        have hnc197 := NB426_415.out
        have hcz198_0 : wc.cell? ⟨gb415, 0, none⟩ = some (.int .i64 a0_0) := (bkC BK415.out 0).trans rfl
        have hcz198_1 : wc.cell? ⟨gb415, 1, none⟩ = some (.int .i64 a0_1) := (bkC BK415.out 1).trans rfl
        have hfz198_0 := bkF BK415.out 0
        have hfz198_1 := bkF BK415.out 1
        have hnb199 := NB416_417.out
        have hnc199 := NB417_416.out
        have hnb200 := NB416_424.out
        have hnc200 := NB424_416.out
        have hnb201 := NB416_425.out
        have hnc201 := NB425_416.out
        have hnb202 := NB416_426.out
        have hnc202 := NB426_416.out
        have hcz203_0 : wc.cell? ⟨gb416, 0, none⟩ = some (.int .i64 a1_0) := (bkC BK416.out 0).trans rfl
        have hcz203_1 : wc.cell? ⟨gb416, 1, none⟩ = some (.int .i64 a1_1) := (bkC BK416.out 1).trans rfl
        have hfz203_0 := bkF BK416.out 0
        have hfz203_1 := bkF BK416.out 1
        have hnb204 := NB417_424.out
        have hnc204 := NB424_417.out
        have hnb205 := NB417_425.out
        have hnc205 := NB425_417.out
        have hnb206 := NB417_426.out
        have hnc206 := NB426_417.out
        have hcz207_0 : wc.cell? ⟨gb417, 0, none⟩ = some (.int .i64 a2_0) := (bkC BK417.out 0).trans rfl
        have hcz207_1 : wc.cell? ⟨gb417, 1, none⟩ = some (.int .i64 a2_1) := (bkC BK417.out 1).trans rfl
        have hcz207_2 : wc.cell? ⟨gb417, 2, none⟩ = some (.int .i64 a2_2) := (bkC BK417.out 2).trans rfl
        have hcz207_3 : wc.cell? ⟨gb417, 3, none⟩ = some (.int .i64 a2_3) := (bkC BK417.out 3).trans rfl
        have hcz207_4 : wc.cell? ⟨gb417, 4, none⟩ = some (.int .i64 a2_4) := (bkC BK417.out 4).trans rfl
        have hfz207_0 := bkF BK417.out 0
        have hfz207_1 := bkF BK417.out 1
        have hfz207_2 := bkF BK417.out 2
        have hfz207_3 := bkF BK417.out 3
        have hfz207_4 := bkF BK417.out 4
        go_wp2_with (first | (go_at_call 27; (with_reducible refine (geometry_Crosses.calls kj50 a0_0 a0_1 a1_0 a1_1 a2_0 a2_1 a2_2 a2_3 a2_4 t431 _ A192.out).mono ?_); rintro e w208 ⟨rfl, hb⟩; have n0_ := Aside0.mk (bkB (g := gb415) (o := .cells #[.int .i64 a0_0, .int .i64 a0_1] 28 (0, 0)) (by (with_reducible repeat (first | refine bkN ?_ _ | refine bkD ?_ | refine bkA ?_ _)); exact BK415.out) hb); have n1_ := Aside0.mk (bkB (g := gb416) (o := .cells #[.int .i64 a1_0, .int .i64 a1_1] 28 (0, 0)) (by (with_reducible repeat (first | refine bkN ?_ _ | refine bkD ?_ | refine bkA ?_ _)); exact BK416.out) hb); have n2_ := Aside0.mk (bkB (g := gb417) (o := .cells #[.int .i64 a2_0, .int .i64 a2_1, .int .i64 a2_2, .int .i64 a2_3, .int .i64 a2_4] 47 (0, 0)) (by (with_reducible repeat (first | refine bkN ?_ _ | refine bkD ?_ | refine bkA ?_ _)); exact BK417.out) hb); have n3_ := Aside0.mk (bkB (g := gb424) (o := .cells #[.int .i64 (wrap64 (2 * a0_0)), .int .i64 (wrap64 (2 * a0_1))] 28 (0, 0)) (by (with_reducible repeat (first | refine bkN ?_ _ | refine bkD ?_ | refine bkA ?_ _)); exact BK424.out) hb); have n4_ := Aside0.mk (bkB (g := gb425) (o := .cells #[.int .i64 (wrap64 (2 * a1_0)), .int .i64 (wrap64 (2 * a1_1))] 28 (0, 0)) (by (with_reducible repeat (first | refine bkN ?_ _ | refine bkD ?_ | refine bkA ?_ _)); exact BK425.out) hb); have n5_ := Aside0.mk (bkB (g := gb426) (o := .cells #[.int .i64 (wrap64 (a0_0 + a1_0)), .int .i64 (wrap64 (a0_1 + a1_1))] 28 (0, 0)) (by (with_reducible repeat (first | refine bkN ?_ _ | refine bkD ?_ | refine bkA ?_ _)); exact BK426.out) hb); have n6_ := Aside0.mk (below_step (by repeat (first | (with_reducible first | exact HB.out | apply blA | apply blN | apply blD | refine blS ?_ GE415.out | refine blS ?_ GE416.out | refine blS ?_ GE417.out | refine blS ?_ GE424.out | refine blS ?_ GE425.out | refine blS ?_ GE426.out) | exact HB.out)) hb); clear BK415; clear BK416; clear BK417; clear BK424; clear BK425; clear BK426; clear HB; have BK415 := n0_; have BK416 := n1_; have BK417 := n2_; have BK424 := n3_; have BK425 := n4_; have BK426 := n5_; have HB := n6_; clear n0_ n1_ n2_ n3_ n4_ n5_ n6_; (try clear hb); (try clear hb2); (try clear hk); (try clear hi)))
        go_ret
        exact ⟨by first | rfl | (simp [errW_none, errW_some] <;> rfl) | (simp only [← hji189, ← hji190]; first | rfl | (simp [errW_none, errW_some] <;> rfl)) | (simp [*, errW_none, errW_some] <;> rfl), by repeat (first | (with_reducible first | exact HB.out | apply blA | apply blN | apply blD | refine blS ?_ GE415.out | refine blS ?_ GE416.out | refine blS ?_ GE417.out | refine blS ?_ GE424.out | refine blS ?_ GE425.out | refine blS ?_ GE426.out) | exact HB.out)⟩
       rw [if_neg c191] at H
       have c191b0 : decide ((ji189) < (ji190)) = false := decide_eq_false c191
       clear c191
       obtain ⟨ji209, hji209⟩ : ∃ j_ : Int, (mx a2_0 a2_2) = j_ := ⟨_, rfl⟩
       replace H : (if (ji209) < (mn a0_0 a1_0) then ((geometry_Crosses.f kj50 a0_0 a0_1 a1_0 a1_1 a2_0 a2_1 a2_2 a2_3 a2_4).bind fun t432 => (some (!t432))) else (if (mx a0_1 a1_1) < (mn a2_1 a2_3) then ((geometry_Crosses.f kj50 a0_0 a0_1 a1_0 a1_1 a2_0 a2_1 a2_2 a2_3 a2_4).bind fun t433 => (some (!t433))) else (if ((mx a2_1 a2_3) < (mn a0_1 a1_1)) then ((geometry_Crosses.f kj50 a0_0 a0_1 a1_0 a1_1 a2_0 a2_1 a2_2 a2_3 a2_4).bind fun t434 => (some (!t434))) else (some true)))) = some r := by first | (rw [hji209] at H; exact H) | (simp only [hji209] at H ⊢; exact H)
       have hji209_ : (if a2_0 < a2_2 then a2_2 else a2_0) = ji209 := hji209
       obtain ⟨ji210, hji210⟩ : ∃ j_ : Int, (mn a0_0 a1_0) = j_ := ⟨_, rfl⟩
       replace H : (if (ji209) < (ji210) then ((geometry_Crosses.f kj50 a0_0 a0_1 a1_0 a1_1 a2_0 a2_1 a2_2 a2_3 a2_4).bind fun t432 => (some (!t432))) else (if (mx a0_1 a1_1) < (mn a2_1 a2_3) then ((geometry_Crosses.f kj50 a0_0 a0_1 a1_0 a1_1 a2_0 a2_1 a2_2 a2_3 a2_4).bind fun t433 => (some (!t433))) else (if ((mx a2_1 a2_3) < (mn a0_1 a1_1)) then ((geometry_Crosses.f kj50 a0_0 a0_1 a1_0 a1_1 a2_0 a2_1 a2_2 a2_3 a2_4).bind fun t434 => (some (!t434))) else (some true)))) = some r := by first | (rw [hji210] at H; exact H) | (simp only [hji210] at H ⊢; exact H)
       have hji210_ : (if a1_0 < a0_0 then a1_0 else a0_0) = ji210 := hji210
       by_cases c211 : (ji209) < (ji210)
       ·rw [if_pos c211] at H
        have c211b0 : decide ((ji209) < (ji210)) = true := decide_eq_true c211
        clear c211
        replace H := Option.bind_eq_some_iff.mp H
        obtain ⟨t432, A2120, H⟩ := H
        replace H : (some (!t432)) = some r := H
        have A212 := Aside0.mk A2120
        clear A2120
        obtain rfl := Option.some.inj H
        have hnb213 := NB415_416.out
        have hnc213 := NB416_415.out
        have hnb214 := NB415_417.out
        have hnc214 := NB417_415.out
        have hnb215 := NB415_424.out
        have hnc215 := NB424_415.out
        have hnb216 := NB415_425.out
        have hnc216 := NB425_415.out
        have hnb217 := NB415_426.out
        have hnc217 := NB426_415.out
        have hcz218_0 : wc.cell? ⟨gb415, 0, none⟩ = some (.int .i64 a0_0) := (bkC BK415.out 0).trans rfl
        have hcz218_1 : wc.cell? ⟨gb415, 1, none⟩ = some (.int .i64 a0_1) := (bkC BK415.out 1).trans rfl
        have hfz218_0 := bkF BK415.out 0
        have hfz218_1 := bkF BK415.out 1
        have hnb219 := NB416_417.out
        have hnc219 := NB417_416.out
        have hnb220 := NB416_424.out
        have hnc220 := NB424_416.out
        have hnb221 := NB416_425.out
        have hnc221 := NB425_416.out
        have hnb222 := NB416_426.out
        have hnc222 := NB426_416.out
        have hcz223_0 : wc.cell? ⟨gb416, 0, none⟩ = some (.int .i64 a1_0) := (bkC BK416.out 0).trans rfl
        have hcz223_1 : wc.cell? ⟨gb416, 1, none⟩ = some (.int .i64 a1_1) := (bkC BK416.out 1).trans rfl
        have hfz223_0 := bkF BK416.out 0
        have hfz223_1 := bkF BK416.out 1
        have hnb224 := NB417_424.out
        have hnc224 := NB424_417.out
        have hnb225 := NB417_425.out
        have hnc225 := NB425_417.out
        have hnb226 := NB417_426.out
        have hnc226 := NB426_417.out
        have hcz227_0 : wc.cell? ⟨gb417, 0, none⟩ = some (.int .i64 a2_0) := (bkC BK417.out 0).trans rfl
        have hcz227_1 : wc.cell? ⟨gb417, 1, none⟩ = some (.int .i64 a2_1) := (bkC BK417.out 1).trans rfl
        have hcz227_2 : wc.cell? ⟨gb417, 2, none⟩ = some (.int .i64 a2_2) := (bkC BK417.out 2).trans rfl
        have hcz227_3 : wc.cell? ⟨gb417, 3, none⟩ = some (.int .i64 a2_3) := (bkC BK417.out 3).trans rfl
        have hcz227_4 : wc.cell? ⟨gb417, 4, none⟩ = some (.int .i64 a2_4) := (bkC BK417.out 4).trans rfl
        have hfz227_0 := bkF BK417.out 0
        have hfz227_1 := bkF BK417.out 1
        have hfz227_2 := bkF BK417.out 2
        have hfz227_3 := bkF BK417.out 3
        have hfz227_4 := bkF BK417.out 4
        go_wp2_with (first | (go_at_call 27; (with_reducible refine (geometry_Crosses.calls kj50 a0_0 a0_1 a1_0 a1_1 a2_0 a2_1 a2_2 a2_3 a2_4 t432 _ A212.out).mono ?_); rintro e w228 ⟨rfl, hb⟩; have n0_ := Aside0.mk (bkB (g := gb415) (o := .cells #[.int .i64 a0_0, .int .i64 a0_1] 28 (0, 0)) (by (with_reducible repeat (first | refine bkN ?_ _ | refine bkD ?_ | refine bkA ?_ _)); exact BK415.out) hb); have n1_ := Aside0.mk (bkB (g := gb416) (o := .cells #[.int .i64 a1_0, .int .i64 a1_1] 28 (0, 0)) (by (with_reducible repeat (first | refine bkN ?_ _ | refine bkD ?_ | refine bkA ?_ _)); exact BK416.out) hb); have n2_ := Aside0.mk (bkB (g := gb417) (o := .cells #[.int .i64 a2_0, .int .i64 a2_1, .int .i64 a2_2, .int .i64 a2_3, .int .i64 a2_4] 47 (0, 0)) (by (with_reducible repeat (first | refine bkN ?_ _ | refine bkD ?_ | refine bkA ?_ _)); exact BK417.out) hb); have n3_ := Aside0.mk (bkB (g := gb424) (o := .cells #[.int .i64 (wrap64 (2 * a0_0)), .int .i64 (wrap64 (2 * a0_1))] 28 (0, 0)) (by (with_reducible repeat (first | refine bkN ?_ _ | refine bkD ?_ | refine bkA ?_ _)); exact BK424.out) hb); have n4_ := Aside0.mk (bkB (g := gb425) (o := .cells #[.int .i64 (wrap64 (2 * a1_0)), .int .i64 (wrap64 (2 * a1_1))] 28 (0, 0)) (by (with_reducible repeat (first | refine bkN ?_ _ | refine bkD ?_ | refine bkA ?_ _)); exact BK425.out) hb); have n5_ := Aside0.mk (bkB (g := gb426) (o := .cells #[.int .i64 (wrap64 (a0_0 + a1_0)), .int .i64 (wrap64 (a0_1 + a1_1))] 28 (0, 0)) (by (with_reducible repeat (first | refine bkN ?_ _ | refine bkD ?_ | refine bkA ?_ _)); exact BK426.out) hb); have n6_ := Aside0.mk (below_step (by repeat (first | (with_reducible first | exact HB.out | apply blA | apply blN | apply blD | refine blS ?_ GE415.out | refine blS ?_ GE416.out | refine blS ?_ GE417.out | refine blS ?_ GE424.out | refine blS ?_ GE425.out | refine blS ?_ GE426.out) | exact HB.out)) hb); clear BK415; clear BK416; clear BK417; clear BK424; clear BK425; clear BK426; clear HB; have BK415 := n0_; have BK416 := n1_; have BK417 := n2_; have BK424 := n3_; have BK425 := n4_; have BK426 := n5_; have HB := n6_; clear n0_ n1_ n2_ n3_ n4_ n5_ n6_; (try clear hb); (try clear hb2); (try clear hk); (try clear hi)))
        go_ret
        exact ⟨by first | rfl | (simp [errW_none, errW_some] <;> rfl) | (simp only [← hji189, ← hji190, ← hji209, ← hji210]; first | rfl | (simp [errW_none, errW_some] <;> rfl)) | (simp [*, errW_none, errW_some] <;> rfl), by repeat (first | (with_reducible first | exact HB.out | apply blA | apply blN | apply blD | refine blS ?_ GE415.out | refine blS ?_ GE416.out | refine blS ?_ GE417.out | refine blS ?_ GE424.out | refine blS ?_ GE425.out | refine blS ?_ GE426.out) | exact HB.out)⟩
       as_aux_lemma =>
        rw [if_neg c211] at H
        have c211b0 : decide ((ji209) < (ji210)) = false := decide_eq_false c211
        clear c211
        obtain ⟨ji229, hji229⟩ : ∃ j_ : Int, (mx a0_1 a1_1) = j_ := ⟨_, rfl⟩
        replace H : (if (ji229) < (mn a2_1 a2_3) then ((geometry_Crosses.f kj50 a0_0 a0_1 a1_0 a1_1 a2_0 a2_1 a2_2 a2_3 a2_4).bind fun t433 => (some (!t433))) else (if ((mx a2_1 a2_3) < (mn a0_1 a1_1)) then ((geometry_Crosses.f kj50 a0_0 a0_1 a1_0 a1_1 a2_0 a2_1 a2_2 a2_3 a2_4).bind fun t434 => (some (!t434))) else (some true))) = some r := by first | (rw [hji229] at H; exact H) | (simp only [hji229] at H ⊢; exact H)
        have hji229_ : (if a0_1 < a1_1 then a1_1 else a0_1) = ji229 := hji229
        obtain ⟨ji230, hji230⟩ : ∃ j_ : Int, (mn a2_1 a2_3) = j_ := ⟨_, rfl⟩
        replace H : (if (ji229) < (ji230) then ((geometry_Crosses.f kj50 a0_0 a0_1 a1_0 a1_1 a2_0 a2_1 a2_2 a2_3 a2_4).bind fun t433 => (some (!t433))) else (if ((mx a2_1 a2_3) < (mn a0_1 a1_1)) then ((geometry_Crosses.f kj50 a0_0 a0_1 a1_0 a1_1 a2_0 a2_1 a2_2 a2_3 a2_4).bind fun t434 => (some (!t434))) else (some true))) = some r := by first | (rw [hji230] at H; exact H) | (simp only [hji230] at H ⊢; exact H)
        have hji230_ : (if a2_3 < a2_1 then a2_3 else a2_1) = ji230 := hji230
        by_cases c231 : (ji229) < (ji230)
        ·rw [if_pos c231] at H
         have c231b0 : decide ((ji229) < (ji230)) = true := decide_eq_true c231
         clear c231
         replace H := Option.bind_eq_some_iff.mp H
         obtain ⟨t433, A2320, H⟩ := H
         replace H : (some (!t433)) = some r := H
         have A232 := Aside0.mk A2320
         clear A2320
         obtain rfl := Option.some.inj H
         have hnb233 := NB415_416.out
         have hnc233 := NB416_415.out
         have hnb234 := NB415_417.out
         have hnc234 := NB417_415.out
         have hnb235 := NB415_424.out
         have hnc235 := NB424_415.out
         have hnb236 := NB415_425.out
         have hnc236 := NB425_415.out
         have hnb237 := NB415_426.out
         have hnc237 := NB426_415.out
         have hcz238_0 : wc.cell? ⟨gb415, 0, none⟩ = some (.int .i64 a0_0) := (bkC BK415.out 0).trans rfl
         have hcz238_1 : wc.cell? ⟨gb415, 1, none⟩ = some (.int .i64 a0_1) := (bkC BK415.out 1).trans rfl
         have hfz238_0 := bkF BK415.out 0
         have hfz238_1 := bkF BK415.out 1
         have hnb239 := NB416_417.out
         have hnc239 := NB417_416.out
         have hnb240 := NB416_424.out
         have hnc240 := NB424_416.out
         have hnb241 := NB416_425.out
         have hnc241 := NB425_416.out
         have hnb242 := NB416_426.out
         have hnc242 := NB426_416.out
         have hcz243_0 : wc.cell? ⟨gb416, 0, none⟩ = some (.int .i64 a1_0) := (bkC BK416.out 0).trans rfl
         have hcz243_1 : wc.cell? ⟨gb416, 1, none⟩ = some (.int .i64 a1_1) := (bkC BK416.out 1).trans rfl
         have hfz243_0 := bkF BK416.out 0
         have hfz243_1 := bkF BK416.out 1
         have hnb244 := NB417_424.out
         have hnc244 := NB424_417.out
         have hnb245 := NB417_425.out
         have hnc245 := NB425_417.out
         have hnb246 := NB417_426.out
         have hnc246 := NB426_417.out
         have hcz247_0 : wc.cell? ⟨gb417, 0, none⟩ = some (.int .i64 a2_0) := (bkC BK417.out 0).trans rfl
         have hcz247_1 : wc.cell? ⟨gb417, 1, none⟩ = some (.int .i64 a2_1) := (bkC BK417.out 1).trans rfl
         have hcz247_2 : wc.cell? ⟨gb417, 2, none⟩ = some (.int .i64 a2_2) := (bkC BK417.out 2).trans rfl
         have hcz247_3 : wc.cell? ⟨gb417, 3, none⟩ = some (.int .i64 a2_3) := (bkC BK417.out 3).trans rfl
         have hcz247_4 : wc.cell? ⟨gb417, 4, none⟩ = some (.int .i64 a2_4) := (bkC BK417.out 4).trans rfl
         have hfz247_0 := bkF BK417.out 0
         have hfz247_1 := bkF BK417.out 1
         have hfz247_2 := bkF BK417.out 2
         have hfz247_3 := bkF BK417.out 3
         have hfz247_4 := bkF BK417.out 4
         go_wp2_with (first | (go_at_call 27; (with_reducible refine (geometry_Crosses.calls kj50 a0_0 a0_1 a1_0 a1_1 a2_0 a2_1 a2_2 a2_3 a2_4 t433 _ A232.out).mono ?_); rintro e w248 ⟨rfl, hb⟩; have n0_ := Aside0.mk (bkB (g := gb415) (o := .cells #[.int .i64 a0_0, .int .i64 a0_1] 28 (0, 0)) (by (with_reducible repeat (first | refine bkN ?_ _ | refine bkD ?_ | refine bkA ?_ _)); exact BK415.out) hb); have n1_ := Aside0.mk (bkB (g := gb416) (o := .cells #[.int .i64 a1_0, .int .i64 a1_1] 28 (0, 0)) (by (with_reducible repeat (first | refine bkN ?_ _ | refine bkD ?_ | refine bkA ?_ _)); exact BK416.out) hb); have n2_ := Aside0.mk (bkB (g := gb417) (o := .cells #[.int .i64 a2_0, .int .i64 a2_1, .int .i64 a2_2, .int .i64 a2_3, .int .i64 a2_4] 47 (0, 0)) (by (with_reducible repeat (first | refine bkN ?_ _ | refine bkD ?_ | refine bkA ?_ _)); exact BK417.out) hb); have n3_ := Aside0.mk (bkB (g := gb424) (o := .cells #[.int .i64 (wrap64 (2 * a0_0)), .int .i64 (wrap64 (2 * a0_1))] 28 (0, 0)) (by (with_reducible repeat (first | refine bkN ?_ _ | refine bkD ?_ | refine bkA ?_ _)); exact BK424.out) hb); have n4_ := Aside0.mk (bkB (g := gb425) (o := .cells #[.int .i64 (wrap64 (2 * a1_0)), .int .i64 (wrap64 (2 * a1_1))] 28 (0, 0)) (by (with_reducible repeat (first | refine bkN ?_ _ | refine bkD ?_ | refine bkA ?_ _)); exact BK425.out) hb); have n5_ := Aside0.mk (bkB (g := gb426) (o := .cells #[.int .i64 (wrap64 (a0_0 + a1_0)), .int .i64 (wrap64 (a0_1 + a1_1))] 28 (0, 0)) (by (with_reducible repeat (first | refine bkN ?_ _ | refine bkD ?_ | refine bkA ?_ _)); exact BK426.out) hb); have n6_ := Aside0.mk (below_step (by repeat (first | (with_reducible first | exact HB.out | apply blA | apply blN | apply blD | refine blS ?_ GE415.out | refine blS ?_ GE416.out | refine blS ?_ GE417.out | refine blS ?_ GE424.out | refine blS ?_ GE425.out | refine blS ?_ GE426.out) | exact HB.out)) hb); clear BK415; clear BK416; clear BK417; clear BK424; clear BK425; clear BK426; clear HB; have BK415 := n0_; have BK416 := n1_; have BK417 := n2_; have BK424 := n3_; have BK425 := n4_; have BK426 := n5_; have HB := n6_; clear n0_ n1_ n2_ n3_ n4_ n5_ n6_; (try clear hb); (try clear hb2); (try clear hk); (try clear hi)))
         go_ret
         exact ⟨by first | rfl | (simp [errW_none, errW_some] <;> rfl) | (simp only [← hji189, ← hji190, ← hji209, ← hji210, ← hji229, ← hji230]; first | rfl | (simp [errW_none, errW_some] <;> rfl)) | (simp [*, errW_none, errW_some] <;> rfl), by repeat (first | (with_reducible first | exact HB.out | apply blA | apply blN | apply blD | refine blS ?_ GE415.out | refine blS ?_ GE416.out | refine blS ?_ GE417.out | refine blS ?_ GE424.out | refine blS ?_ GE425.out | refine blS ?_ GE426.out) | exact HB.out)⟩
        rw [if_neg c231] at H
        have c231b0 : decide ((ji229) < (ji230)) = false := decide_eq_false c231
        clear c231
        obtain ⟨ji249, hji249⟩ : ∃ j_ : Int, (mx a2_1 a2_3) = j_ := ⟨_, rfl⟩
        replace H : (if ((ji249) < (mn a0_1 a1_1)) then ((geometry_Crosses.f kj50 a0_0 a0_1 a1_0 a1_1 a2_0 a2_1 a2_2 a2_3 a2_4).bind fun t434 => (some (!t434))) else (some true)) = some r := by first | (rw [hji249] at H; exact H) | (simp only [hji249] at H ⊢; exact H)
        have hji249_ : (if a2_1 < a2_3 then a2_3 else a2_1) = ji249 := hji249
        obtain ⟨ji250, hji250⟩ : ∃ j_ : Int, (mn a0_1 a1_1) = j_ := ⟨_, rfl⟩
        replace H : (if ((ji249) < (ji250)) then ((geometry_Crosses.f kj50 a0_0 a0_1 a1_0 a1_1 a2_0 a2_1 a2_2 a2_3 a2_4).bind fun t434 => (some (!t434))) else (some true)) = some r := by first | (rw [hji250] at H; exact H) | (simp only [hji250] at H ⊢; exact H)
        have hji250_ : (if a1_1 < a0_1 then a1_1 else a0_1) = ji250 := hji250
        by_cases c251 : ((ji249) < (ji250))
        rotate_left
        ·rw [if_neg c251] at H
         have c251b0 : decide ((ji249) < (ji250)) = false := decide_eq_false c251
         clear c251
         obtain rfl := Option.some.inj H
         have hnb269 := NB415_416.out
         have hnc269 := NB416_415.out
         have hnb270 := NB415_417.out
         have hnc270 := NB417_415.out
         have hnb271 := NB415_424.out
         have hnc271 := NB424_415.out
         have hnb272 := NB415_425.out
         have hnc272 := NB425_415.out
         have hnb273 := NB415_426.out
         have hnc273 := NB426_415.out
         have hcz274_0 : wc.cell? ⟨gb415, 0, none⟩ = some (.int .i64 a0_0) := (bkC BK415.out 0).trans rfl
         have hcz274_1 : wc.cell? ⟨gb415, 1, none⟩ = some (.int .i64 a0_1) := (bkC BK415.out 1).trans rfl
         have hfz274_0 := bkF BK415.out 0
         have hfz274_1 := bkF BK415.out 1
         have hnb275 := NB416_417.out
         have hnc275 := NB417_416.out
         have hnb276 := NB416_424.out
         have hnc276 := NB424_416.out
         have hnb277 := NB416_425.out
         have hnc277 := NB425_416.out
         have hnb278 := NB416_426.out
         have hnc278 := NB426_416.out
         have hcz279_0 : wc.cell? ⟨gb416, 0, none⟩ = some (.int .i64 a1_0) := (bkC BK416.out 0).trans rfl
         have hcz279_1 : wc.cell? ⟨gb416, 1, none⟩ = some (.int .i64 a1_1) := (bkC BK416.out 1).trans rfl
         have hfz279_0 := bkF BK416.out 0
         have hfz279_1 := bkF BK416.out 1
         have hnb280 := NB417_424.out
         have hnc280 := NB424_417.out
         have hnb281 := NB417_425.out
         have hnc281 := NB425_417.out
         have hnb282 := NB417_426.out
         have hnc282 := NB426_417.out
         have hcz283_0 : wc.cell? ⟨gb417, 0, none⟩ = some (.int .i64 a2_0) := (bkC BK417.out 0).trans rfl
         have hcz283_1 : wc.cell? ⟨gb417, 1, none⟩ = some (.int .i64 a2_1) := (bkC BK417.out 1).trans rfl
         have hcz283_2 : wc.cell? ⟨gb417, 2, none⟩ = some (.int .i64 a2_2) := (bkC BK417.out 2).trans rfl
         have hcz283_3 : wc.cell? ⟨gb417, 3, none⟩ = some (.int .i64 a2_3) := (bkC BK417.out 3).trans rfl
         have hcz283_4 : wc.cell? ⟨gb417, 4, none⟩ = some (.int .i64 a2_4) := (bkC BK417.out 4).trans rfl
         have hfz283_0 := bkF BK417.out 0
         have hfz283_1 := bkF BK417.out 1
         have hfz283_2 := bkF BK417.out 2
         have hfz283_3 := bkF BK417.out 3
         have hfz283_4 := bkF BK417.out 4
         go_wp2
         go_ret
         exact ⟨by first | rfl | (simp [errW_none, errW_some] <;> rfl) | (simp only [← hji189, ← hji190, ← hji209, ← hji210, ← hji229, ← hji230, ← hji249, ← hji250]; first | rfl | (simp [errW_none, errW_some] <;> rfl)) | (simp [*, errW_none, errW_some] <;> rfl), by repeat (first | (with_reducible first | exact HB.out | apply blA | apply blN | apply blD | refine blS ?_ GE415.out | refine blS ?_ GE416.out | refine blS ?_ GE417.out | refine blS ?_ GE424.out | refine blS ?_ GE425.out | refine blS ?_ GE426.out) | exact HB.out)⟩
        rw [if_pos c251] at H
        have c251b0 : decide ((ji249) < (ji250)) = true := decide_eq_true c251
        clear c251
        replace H := Option.bind_eq_some_iff.mp H
        obtain ⟨t434, A2520, H⟩ := H
        replace H : (some (!t434)) = some r := H
        have A252 := Aside0.mk A2520
        clear A2520
        obtain rfl := Option.some.inj H
        have hnb253 := NB415_416.out
        have hnc253 := NB416_415.out
        have hnb254 := NB415_417.out
        have hnc254 := NB417_415.out
        have hnb255 := NB415_424.out
        have hnc255 := NB424_415.out
        have hnb256 := NB415_425.out
        have hnc256 := NB425_415.out
        have hnb257 := NB415_426.out
        have hnc257 := NB426_415.out
        have hcz258_0 : wc.cell? ⟨gb415, 0, none⟩ = some (.int .i64 a0_0) := (bkC BK415.out 0).trans rfl
        have hcz258_1 : wc.cell? ⟨gb415, 1, none⟩ = some (.int .i64 a0_1) := (bkC BK415.out 1).trans rfl
        have hfz258_0 := bkF BK415.out 0
        have hfz258_1 := bkF BK415.out 1
        have hnb259 := NB416_417.out
        have hnc259 := NB417_416.out
        have hnb260 := NB416_424.out
        have hnc260 := NB424_416.out
        have hnb261 := NB416_425.out
        have hnc261 := NB425_416.out
        have hnb262 := NB416_426.out
        have hnc262 := NB426_416.out
        have hcz263_0 : wc.cell? ⟨gb416, 0, none⟩ = some (.int .i64 a1_0) := (bkC BK416.out 0).trans rfl
        have hcz263_1 : wc.cell? ⟨gb416, 1, none⟩ = some (.int .i64 a1_1) := (bkC BK416.out 1).trans rfl
        have hfz263_0 := bkF BK416.out 0
        have hfz263_1 := bkF BK416.out 1
        have hnb264 := NB417_424.out
        have hnc264 := NB424_417.out
        have hnb265 := NB417_425.out
        have hnc265 := NB425_417.out
        have hnb266 := NB417_426.out
        have hnc266 := NB426_417.out
        have hcz267_0 : wc.cell? ⟨gb417, 0, none⟩ = some (.int .i64 a2_0) := (bkC BK417.out 0).trans rfl
        have hcz267_1 : wc.cell? ⟨gb417, 1, none⟩ = some (.int .i64 a2_1) := (bkC BK417.out 1).trans rfl
        have hcz267_2 : wc.cell? ⟨gb417, 2, none⟩ = some (.int .i64 a2_2) := (bkC BK417.out 2).trans rfl
        have hcz267_3 : wc.cell? ⟨gb417, 3, none⟩ = some (.int .i64 a2_3) := (bkC BK417.out 3).trans rfl
        have hcz267_4 : wc.cell? ⟨gb417, 4, none⟩ = some (.int .i64 a2_4) := (bkC BK417.out 4).trans rfl
        have hfz267_0 := bkF BK417.out 0
        have hfz267_1 := bkF BK417.out 1
        have hfz267_2 := bkF BK417.out 2
        have hfz267_3 := bkF BK417.out 3
        have hfz267_4 := bkF BK417.out 4
        go_wp2_with (first | (go_at_call 27; (with_reducible refine (geometry_Crosses.calls kj50 a0_0 a0_1 a1_0 a1_1 a2_0 a2_1 a2_2 a2_3 a2_4 t434 _ A252.out).mono ?_); rintro e w268 ⟨rfl, hb⟩; have n0_ := Aside0.mk (bkB (g := gb415) (o := .cells #[.int .i64 a0_0, .int .i64 a0_1] 28 (0, 0)) (by (with_reducible repeat (first | refine bkN ?_ _ | refine bkD ?_ | refine bkA ?_ _)); exact BK415.out) hb); have n1_ := Aside0.mk (bkB (g := gb416) (o := .cells #[.int .i64 a1_0, .int .i64 a1_1] 28 (0, 0)) (by (with_reducible repeat (first | refine bkN ?_ _ | refine bkD ?_ | refine bkA ?_ _)); exact BK416.out) hb); have n2_ := Aside0.mk (bkB (g := gb417) (o := .cells #[.int .i64 a2_0, .int .i64 a2_1, .int .i64 a2_2, .int .i64 a2_3, .int .i64 a2_4] 47 (0, 0)) (by (with_reducible repeat (first | refine bkN ?_ _ | refine bkD ?_ | refine bkA ?_ _)); exact BK417.out) hb); have n3_ := Aside0.mk (bkB (g := gb424) (o := .cells #[.int .i64 (wrap64 (2 * a0_0)), .int .i64 (wrap64 (2 * a0_1))] 28 (0, 0)) (by (with_reducible repeat (first | refine bkN ?_ _ | refine bkD ?_ | refine bkA ?_ _)); exact BK424.out) hb); have n4_ := Aside0.mk (bkB (g := gb425) (o := .cells #[.int .i64 (wrap64 (2 * a1_0)), .int .i64 (wrap64 (2 * a1_1))] 28 (0, 0)) (by (with_reducible repeat (first | refine bkN ?_ _ | refine bkD ?_ | refine bkA ?_ _)); exact BK425.out) hb); have n5_ := Aside0.mk (bkB (g := gb426) (o := .cells #[.int .i64 (wrap64 (a0_0 + a1_0)), .int .i64 (wrap64 (a0_1 + a1_1))] 28 (0, 0)) (by (with_reducible repeat (first | refine bkN ?_ _ | refine bkD ?_ | refine bkA ?_ _)); exact BK426.out) hb); have n6_ := Aside0.mk (below_step (by repeat (first | (with_reducible first | exact HB.out | apply blA | apply blN | apply blD | refine blS ?_ GE415.out | refine blS ?_ GE416.out | refine blS ?_ GE417.out | refine blS ?_ GE424.out | refine blS ?_ GE425.out | refine blS ?_ GE426.out) | exact HB.out)) hb); clear BK415; clear BK416; clear BK417; clear BK424; clear BK425; clear BK426; clear HB; have BK415 := n0_; have BK416 := n1_; have BK417 := n2_; have BK424 := n3_; have BK425 := n4_; have BK426 := n5_; have HB := n6_; clear n0_ n1_ n2_ n3_ n4_ n5_ n6_; (try clear hb); (try clear hb2); (try clear hk); (try clear hi)))
        go_ret
        exact ⟨by first | rfl | (simp [errW_none, errW_some] <;> rfl) | (simp only [← hji189, ← hji190, ← hji209, ← hji210, ← hji229, ← hji230, ← hji249, ← hji250]; first | rfl | (simp [errW_none, errW_some] <;> rfl)) | (simp [*, errW_none, errW_some] <;> rfl), by repeat (first | (with_reducible first | exact HB.out | apply blA | apply blN | apply blD | refine blS ?_ GE415.out | refine blS ?_ GE416.out | refine blS ?_ GE417.out | refine blS ?_ GE424.out | refine blS ?_ GE425.out | refine blS ?_ GE426.out) | exact HB.out)⟩
end Go.Proofs.Ytcdgpnjlaicbcaa.PA
