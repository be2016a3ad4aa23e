-- Written by a program of this session (mkprint.py: the kit's print, changed) for this claim. Not trusted: Lean checks it.
import Derived.Test.YtcdgpnjlaicbcaaPAx0
import Derived.Test.YtcdgpnjlaicbcaaPAx6
import Derived.Test.YtcdgpnjlaicbcaaPAx11
import Derived.Test.YtcdgpnjlaicbcaaPAx35
namespace Go.Proofs.Ytcdgpnjlaicbcaa.PA
open Go.RowKit Go.Proofs.YtcdgpnjlaicbcaaW.PrintWords Go.Proofs.YtcdgpnjlaicbcaaW.PrintLast Go.Proofs.YtcdgpnjlaicbcaaW.PrintMore
attribute [local go_sem] max2_int min2_int max_two min_two max_three min_three max_four min_four   -- for this text's walks alone
-- thin
set_option linter.unusedVariables false
set_option linter.unusedSimpArgs false

/-! ### hopmeshlaw05_GeometryCrossings: function 7 -/
set_option maxHeartbeats 8000000 in
set_option maxRecDepth 100000 in
theorem hopmeshlaw05_GeometryCrossings.calls (k : Nat) (a0_0 : Int) (a0_1 : Int) (a1_0 : Int) (a1_1 : Int) (a2_0 : Int) (a2_1 : Int) (a2_2 : Int) (a2_3 : Int) (a2_4 : Int) (r : Bool) (w : World) (h : hopmeshlaw05_GeometryCrossings.f k a0_0 a0_1 a1_0 a1_1 a2_0 a2_1 a2_2 a2_3 a2_4 = some r) (hr_ : r = true) :
 Calls Try.prog 7 #[.agg #[.int .i64 a0_0, .int .i64 a0_1], .agg #[.int .i64 a1_0, .int .i64 a1_1], .agg #[.int .i64 a2_0, .int .i64 a2_1, .int .i64 a2_2, .int .i64 a2_3, .int .i64 a2_4]] w fun e w' => e = .returned (.bool r) ∧ Below w.heap.size w w' := by
 have hu28 := Try.underlying28
 have hu47 := Try.underlying47
 have HRT := Aside0.mk hr_
 clear hr_
 have HB := Aside0.mk (Below.refl w.heap.size w)
 have H : ((hopmeshlaw05_awake.f).bind fun t366 => (if t366 = true then ((some (([(⟨a0_0, a0_1⟩ : S28), (⟨a1_0, a1_1⟩ : S28), (⟨a2_0, a2_1⟩ : S28), (⟨a2_2, a2_3⟩ : S28)] : List (S28)) : List (S28))).bind fun y367 => (hopmeshlaw05_GeometryCrossings.l0 k y367 (y367.length : Int) 0 a0_0 a0_1 a1_0 a1_1 a2_0 a2_1 a2_2 a2_3 a2_4)) else (some false))) = some r := h
 clear h
 replace H := Option.bind_eq_some_iff.mp H
 obtain ⟨t366, A40, H⟩ := H
 replace H : (if t366 = true then ((some (([(⟨a0_0, a0_1⟩ : S28), (⟨a1_0, a1_1⟩ : S28), (⟨a2_0, a2_1⟩ : S28), (⟨a2_2, a2_3⟩ : S28)] : List (S28)) : List (S28))).bind fun y367 => (hopmeshlaw05_GeometryCrossings.l0 k y367 (y367.length : Int) 0 a0_0 a0_1 a1_0 a1_1 a2_0 a2_1 a2_2 a2_3 a2_4)) else (some false)) = some r := H
 have A4 := Aside0.mk A40
 clear A40
 by_cases c5 : t366 = true
 rotate_left
 ·replace c5 := Bool.eq_false_iff.mpr c5
  subst c5
  have H1 : (some false) = some r := by rw [if_neg (show ¬ (false = true) by decide)] at H; exact H
  clear H
  have H := H1
  clear H1
  exact absurd (H.trans (congrArg some HRT.out)) (by simp)

 as_aux_lemma =>
  subst c5
  have H1 : ((some (([(⟨a0_0, a0_1⟩ : S28), (⟨a1_0, a1_1⟩ : S28), (⟨a2_0, a2_1⟩ : S28), (⟨a2_2, a2_3⟩ : S28)] : List (S28)) : List (S28))).bind fun y367 => (hopmeshlaw05_GeometryCrossings.l0 k y367 (y367.length : Int) 0 a0_0 a0_1 a1_0 a1_1 a2_0 a2_1 a2_2 a2_3 a2_4)) = some r := by rw [if_pos rfl] at H; exact H
  clear H
  have H := H1
  clear H1
  obtain ⟨y367, hy367⟩ : ∃ y_ : List (S28), y_ = (([(⟨a0_0, a0_1⟩ : S28), (⟨a1_0, a1_1⟩ : S28), (⟨a2_0, a2_1⟩ : S28), (⟨a2_2, a2_3⟩ : S28)] : List (S28))) := ⟨_, rfl⟩
  replace H : (hopmeshlaw05_GeometryCrossings.l0 k y367 (y367.length : Int) 0 a0_0 a0_1 a1_0 a1_1 a2_0 a2_1 a2_2 a2_3 a2_4) = some r := by first | (rw [hy367]; with_reducible exact H) | (have H2_ := (Option.bind_some _ _).symm.trans H; rw [hy367]; with_reducible exact H2_) | (have H2_ := (Option.bind_some _ _).symm.trans H; with_reducible exact H2_) | with_reducible exact H | (rw [hy367]; exact H) | exact H
  have Ny367 := Aside0.mk hy367
  clear hy367
  have H' := Aside0.mk H
  clear H
  go_enter Try.func7, Try.ntmps7
  go_wp2_with (first | ((with_reducible refine gate_dst (N := 3) rfl ?_); refine box_event ?hg (N := 3) ?hd (cs := #[.int .i64 a0_0, .int .i64 a0_1]) (t := 28) ?hr ?_; (case hd => rfl); (case hg => rfl); (case hr => first | (go_simp; done) | (go_simp; rfl)); intro gb363 hg w6 hbox hb; have n0_ := Aside0.mk (below_step (by repeat (first | (with_reducible first | exact HB.out | apply blA | apply blN | apply blD) | exact HB.out)) hb); have n1_ := Aside0.mk (hbox); have n2_ := Aside0.mk ((by rw [hg]; exact (below_size (by repeat (first | (with_reducible first | exact HB.out | apply blA | apply blN | apply blD) | exact HB.out))) : w.heap.size ≤ gb363)); have n3_ := Aside0.mk ((by rw [hg]; exact (below_size (by repeat (first | (with_reducible first | exact HB.out | apply blA | apply blN | apply blD) | exact HB.out))) : w.heap.size ≤ gb363)); clear HB; have HB := n0_; have BK363 := n1_; have GW363 := n2_; have GE363 := n3_; clear n0_ n1_ n2_ n3_; clear hb hbox hg) | ((with_reducible refine gate_dst (N := 4) rfl ?_); refine box_event ?hg (N := 4) ?hd (cs := #[.int .i64 a1_0, .int .i64 a1_1]) (t := 28) ?hr ?_; (case hd => rfl); (case hg => rfl); (case hr => first | (go_simp; done) | (go_simp; rfl)); intro gb364 hg w7 hbox hb; have n0_ := Aside0.mk (bkB (g := gb363) (o := .cells #[.int .i64 a0_0, .int .i64 a0_1] 28 (0, 0)) (by (with_reducible repeat (first | refine bkN ?_ _ | refine bkD ?_ | refine bkA ?_ _)); exact BK363.out) hb); have n1_ := Aside0.mk (below_step (by repeat (first | (with_reducible first | exact HB.out | apply blA | apply blN | apply blD | refine blS ?_ GE363.out) | exact HB.out)) hb); have n2_ := Aside0.mk (hbox); have n3_ := Aside0.mk ((by rw [hg]; exact (below_size (by repeat (first | (with_reducible first | exact HB.out | apply blA | apply blN | apply blD | refine blS ?_ GE363.out) | exact HB.out))) : w.heap.size ≤ gb364)); have n4_ := Aside0.mk ((by rw [hg]; exact (below_size (by repeat (first | (with_reducible first | exact HB.out | apply blA | apply blN | apply blD | refine blS ?_ GE363.out) | exact HB.out))) : w.heap.size ≤ gb364)); have n5_ := Aside0.mk ((by rw [hg]; exact Nat.ne_of_lt (blk_lt (g := gb363) (o := .cells #[.int .i64 a0_0, .int .i64 a0_1] 28 (0, 0)) (by (with_reducible repeat (first | refine bkN ?_ _ | refine bkD ?_ | refine bkA ?_ _)); exact BK363.out)) : gb363 ≠ gb364)); have n6_ := Aside0.mk ((by rw [hg]; exact Nat.ne_of_gt (blk_lt (g := gb363) (o := .cells #[.int .i64 a0_0, .int .i64 a0_1] 28 (0, 0)) (by (with_reducible repeat (first | refine bkN ?_ _ | refine bkD ?_ | refine bkA ?_ _)); exact BK363.out)) : gb364 ≠ gb363)); clear BK363; clear HB; have BK363 := n0_; have HB := n1_; have BK364 := n2_; have GW364 := n3_; have GE364 := n4_; have NB363_364 := n5_; have NB364_363 := n6_; clear n0_ n1_ n2_ n3_ n4_ n5_ n6_; clear hb hbox hg) | ((with_reducible refine gate_dst (N := 5) rfl ?_); refine box_event ?hg (N := 5) ?hd (cs := #[.int .i64 a2_0, .int .i64 a2_1, .int .i64 a2_2, .int .i64 a2_3, .int .i64 a2_4]) (t := 47) ?hr ?_; (case hd => rfl); (case hg => rfl); (case hr => first | (go_simp; done) | (go_simp; rfl)); intro gb365 hg w8 hbox hb; have n0_ := Aside0.mk (bkB (g := gb363) (o := .cells #[.int .i64 a0_0, .int .i64 a0_1] 28 (0, 0)) (by (with_reducible repeat (first | refine bkN ?_ _ | refine bkD ?_ | refine bkA ?_ _)); exact BK363.out) hb); have n1_ := Aside0.mk (bkB (g := gb364) (o := .cells #[.int .i64 a1_0, .int .i64 a1_1] 28 (0, 0)) (by (with_reducible repeat (first | refine bkN ?_ _ | refine bkD ?_ | refine bkA ?_ _)); exact BK364.out) hb); have n2_ := Aside0.mk (below_step (by repeat (first | (with_reducible first | exact HB.out | apply blA | apply blN | apply blD | refine blS ?_ GE363.out | refine blS ?_ GE364.out) | exact HB.out)) hb); have n3_ := Aside0.mk (hbox); have n4_ := Aside0.mk ((by rw [hg]; exact (below_size (by repeat (first | (with_reducible first | exact HB.out | apply blA | apply blN | apply blD | refine blS ?_ GE363.out | refine blS ?_ GE364.out) | exact HB.out))) : w.heap.size ≤ gb365)); have n5_ := Aside0.mk ((by rw [hg]; exact (below_size (by repeat (first | (with_reducible first | exact HB.out | apply blA | apply blN | apply blD | refine blS ?_ GE363.out | refine blS ?_ GE364.out) | exact HB.out))) : w.heap.size ≤ gb365)); have n6_ := Aside0.mk ((by rw [hg]; exact Nat.ne_of_lt (blk_lt (g := gb363) (o := .cells #[.int .i64 a0_0, .int .i64 a0_1] 28 (0, 0)) (by (with_reducible repeat (first | refine bkN ?_ _ | refine bkD ?_ | refine bkA ?_ _)); exact BK363.out)) : gb363 ≠ gb365)); have n7_ := Aside0.mk ((by rw [hg]; exact Nat.ne_of_gt (blk_lt (g := gb363) (o := .cells #[.int .i64 a0_0, .int .i64 a0_1] 28 (0, 0)) (by (with_reducible repeat (first | refine bkN ?_ _ | refine bkD ?_ | refine bkA ?_ _)); exact BK363.out)) : gb365 ≠ gb363)); have n8_ := Aside0.mk ((by rw [hg]; exact Nat.ne_of_lt (blk_lt (g := gb364) (o := .cells #[.int .i64 a1_0, .int .i64 a1_1] 28 (0, 0)) (by (with_reducible repeat (first | refine bkN ?_ _ | refine bkD ?_ | refine bkA ?_ _)); exact BK364.out)) : gb364 ≠ gb365)); have n9_ := Aside0.mk ((by rw [hg]; exact Nat.ne_of_gt (blk_lt (g := gb364) (o := .cells #[.int .i64 a1_0, .int .i64 a1_1] 28 (0, 0)) (by (with_reducible repeat (first | refine bkN ?_ _ | refine bkD ?_ | refine bkA ?_ _)); exact BK364.out)) : gb365 ≠ gb364)); clear BK363; clear BK364; clear HB; have BK363 := n0_; have BK364 := n1_; have HB := n2_; have BK365 := n3_; have GW365 := n4_; have GE365 := n5_; have NB363_365 := n6_; have NB365_363 := n7_; have NB364_365 := n8_; have NB365_364 := n9_; clear n0_ n1_ n2_ n3_ n4_ n5_ n6_ n7_ n8_ n9_; clear hb hbox hg) | ((with_reducible refine gate_callee (f := 11) rfl ?_); refine goesL_ (some 13) rfl rfl Try.func11 (by kernel_rfl) rfl #[] rfl (by (try simp only [List.map_toArray, List.map_cons, List.map_nil]); first | done | rfl | (simp only [List.length_drop, List.length_take]; rfl)) ?_; (with_reducible refine (hopmeshlaw05_awake.calls  true _ A4.out).mono ?_); rintro e w9 ⟨rfl, hb⟩; refine ⟨_, rfl, ?_⟩; have n0_ := Aside0.mk (bkB (g := gb363) (o := .cells #[.int .i64 a0_0, .int .i64 a0_1] 28 (0, 0)) (by (with_reducible repeat (first | refine bkN ?_ _ | refine bkD ?_ | refine bkA ?_ _)); exact BK363.out) hb); have n1_ := Aside0.mk (bkB (g := gb364) (o := .cells #[.int .i64 a1_0, .int .i64 a1_1] 28 (0, 0)) (by (with_reducible repeat (first | refine bkN ?_ _ | refine bkD ?_ | refine bkA ?_ _)); exact BK364.out) hb); have n2_ := Aside0.mk (bkB (g := gb365) (o := .cells #[.int .i64 a2_0, .int .i64 a2_1, .int .i64 a2_2, .int .i64 a2_3, .int .i64 a2_4] 47 (0, 0)) (by (with_reducible repeat (first | refine bkN ?_ _ | refine bkD ?_ | refine bkA ?_ _)); exact BK365.out) hb); have n3_ := Aside0.mk (below_step (by repeat (first | (with_reducible first | exact HB.out | apply blA | apply blN | apply blD | refine blS ?_ GE363.out | refine blS ?_ GE364.out | refine blS ?_ GE365.out) | exact HB.out)) hb); clear BK363; clear BK364; clear BK365; clear HB; have BK363 := n0_; have BK364 := n1_; have BK365 := n2_; have HB := n3_; clear n0_ n1_ n2_ n3_; (try clear hb); (try clear hb2); (try clear hk); (try clear hi); have hnb10 := NB363_364.out; have hnc10 := NB364_363.out; have hnb11 := NB363_365.out; have hnc11 := NB365_363.out; have hcz12_0 : w9.cell? ⟨gb363, 0, none⟩ = some (.int .i64 a0_0) := (bkC BK363.out 0).trans rfl; have hcz12_1 : w9.cell? ⟨gb363, 1, none⟩ = some (.int .i64 a0_1) := (bkC BK363.out 1).trans rfl; have hfz12_0 := bkF BK363.out 0; have hfz12_1 := bkF BK363.out 1; have hnb13 := NB364_365.out; have hnc13 := NB365_364.out; have hcz14_0 : w9.cell? ⟨gb364, 0, none⟩ = some (.int .i64 a1_0) := (bkC BK364.out 0).trans rfl; have hcz14_1 : w9.cell? ⟨gb364, 1, none⟩ = some (.int .i64 a1_1) := (bkC BK364.out 1).trans rfl; have hfz14_0 := bkF BK364.out 0; have hfz14_1 := bkF BK364.out 1; have hcz15_0 : w9.cell? ⟨gb365, 0, none⟩ = some (.int .i64 a2_0) := (bkC BK365.out 0).trans rfl; have hcz15_1 : w9.cell? ⟨gb365, 1, none⟩ = some (.int .i64 a2_1) := (bkC BK365.out 1).trans rfl; have hcz15_2 : w9.cell? ⟨gb365, 2, none⟩ = some (.int .i64 a2_2) := (bkC BK365.out 2).trans rfl; have hcz15_3 : w9.cell? ⟨gb365, 3, none⟩ = some (.int .i64 a2_3) := (bkC BK365.out 3).trans rfl; have hcz15_4 : w9.cell? ⟨gb365, 4, none⟩ = some (.int .i64 a2_4) := (bkC BK365.out 4).trans rfl; have hfz15_0 := bkF BK365.out 0; have hfz15_1 := bkF BK365.out 1; have hfz15_2 := bkF BK365.out 2; have hfz15_3 := bkF BK365.out 3; have hfz15_4 := bkF BK365.out 4) | ((with_reducible refine gate_dst (N := 21) rfl ?_); refine Kd.R_lit k28 _ 28 ?hg (N := 21) ?hd (xs := ([(⟨a0_0, a0_1⟩ : S28), (⟨a1_0, a1_1⟩ : S28), (⟨a2_0, a2_1⟩ : S28), (⟨a2_2, a2_3⟩ : S28)] : List (S28))) (inner := [.int .i64 a0_0, .int .i64 a0_1, .int .i64 a1_0, .int .i64 a1_1, .int .i64 a2_0, .int .i64 a2_1, .int .i64 a2_2, .int .i64 a2_3]) (ok := fun _ => True) (okp := fun _ => True) ?hr ?hp (fun _ hk => hk) trivial (Below.refl _ _) (Nat.le_refl _) (by simp) ?_; (case hd => rfl); (case hg => rfl); (case hr => first | (go_simp; done) | (go_simp; rfl)); (case hp => exact (Reps.c2 (show Kd.M k28 _ _ _ (⟨a0_0, a0_1⟩ : S28) [.int .i64 a0_0, .int .i64 a0_1] from (k28_mkM _ _ _ (⟨a0_0, a0_1⟩ : S28) )) (Reps.c2 (show Kd.M k28 _ _ _ (⟨a1_0, a1_1⟩ : S28) [.int .i64 a1_0, .int .i64 a1_1] from (k28_mkM _ _ _ (⟨a1_0, a1_1⟩ : S28) )) (Reps.c2 (show Kd.M k28 _ _ _ (⟨a2_0, a2_1⟩ : S28) [.int .i64 a2_0, .int .i64 a2_1] from (k28_mkM _ _ _ (⟨a2_0, a2_1⟩ : S28) )) (Reps.c2 (show Kd.M k28 _ _ _ (⟨a2_2, a2_3⟩ : S28) [.int .i64 a2_2, .int .i64 a2_3] from (k28_mkM _ _ _ (⟨a2_2, a2_3⟩ : S28) )) (Reps.none _ _)))))); intro v368 w16 ho17 hb hg_ hnew_; clear hg_ hnew_; (first | rw [← Ny367.out] at ho17 | (simp only [Int.reduceToNat] at ho17; rw [← Ny367.out] at ho17)); have n0_ := Aside0.mk (Kd.R_lower (Kd.R_newB (Kd.R_newB ho17 (g := gb363) (o := .cells #[.int .i64 a0_0, .int .i64 a0_1] 28 (0, 0)) (by (with_reducible repeat (first | refine bkN ?_ _ | refine bkD ?_ | refine bkA ?_ _)); exact BK363.out)) (g := gb364) (o := .cells #[.int .i64 a1_0, .int .i64 a1_1] 28 (0, 0)) (by (with_reducible repeat (first | refine bkN ?_ _ | refine bkD ?_ | refine bkA ?_ _)); exact BK364.out)) (below_size (by repeat (first | (with_reducible first | exact HB.out | apply blA | apply blN | apply blD | refine blS ?_ GE363.out | refine blS ?_ GE364.out | refine blS ?_ GE365.out) | exact HB.out)))); have n1_ := Aside0.mk (bkB (g := gb363) (o := .cells #[.int .i64 a0_0, .int .i64 a0_1] 28 (0, 0)) (by (with_reducible repeat (first | refine bkN ?_ _ | refine bkD ?_ | refine bkA ?_ _)); exact BK363.out) hb); have n2_ := Aside0.mk (bkB (g := gb364) (o := .cells #[.int .i64 a1_0, .int .i64 a1_1] 28 (0, 0)) (by (with_reducible repeat (first | refine bkN ?_ _ | refine bkD ?_ | refine bkA ?_ _)); exact BK364.out) hb); have n3_ := Aside0.mk (bkB (g := gb365) (o := .cells #[.int .i64 a2_0, .int .i64 a2_1, .int .i64 a2_2, .int .i64 a2_3, .int .i64 a2_4] 47 (0, 0)) (by (with_reducible repeat (first | refine bkN ?_ _ | refine bkD ?_ | refine bkA ?_ _)); exact BK365.out) hb); have n4_ := Aside0.mk (below_step (by repeat (first | (with_reducible first | exact HB.out | apply blA | apply blN | apply blD | refine blS ?_ GE363.out | refine blS ?_ GE364.out | refine blS ?_ GE365.out) | exact HB.out)) hb); clear BK363; clear BK364; clear BK365; clear HB; have HO369 := n0_; have BK363 := n1_; have BK364 := n2_; have BK365 := n3_; have HB := n4_; clear n0_ n1_ n2_ n3_ n4_; clear hb ho17; obtain ⟨Ao18, co18, eo18⟩ := Kd.R_slice HO369.out; subst eo18))
  go_loopg [23] k (fun kq v23 w' => ∃ (x23_1 : Int), v23 = .int .i64 x23_1 ∧ Aside0 (hopmeshlaw05_GeometryCrossings.l0 kq y367 (y367.length : Int) x23_1 a0_0 a0_1 a1_0 a1_1 a2_0 a2_1 a2_2 a2_3 a2_4 = some r) ∧ Aside0 (kq ≤ k) ∧ Aside0 (Kd.R k28 28 w' w.heap.size (fun k_ => k_ ≠ gb363 ∧ k_ ≠ gb364) (.slice Ao18 y367.length co18) y367) ∧ Aside0 (w'.heap[gb363]? = some (.cells #[.int .i64 a0_0, .int .i64 a0_1] 28 (0, 0))) ∧ Aside0 (w'.heap[gb364]? = some (.cells #[.int .i64 a1_0, .int .i64 a1_1] 28 (0, 0))) ∧ Aside0 (w'.heap[gb365]? = some (.cells #[.int .i64 a2_0, .int .i64 a2_1, .int .i64 a2_2, .int .i64 a2_3, .int .i64 a2_4] 47 (0, 0))) ∧ Aside0 (Below w.heap.size w w'))
  case atStart => exact ⟨(0), (by first | rfl | (simp; done) | (simp [*]; done)), H', ⟨Nat.le_refl _⟩, ⟨by (with_reducible repeat (first | apply Kd.R_alloc | apply Kd.R_drewN | apply Kd.R_drew)); exact Kd.R_mono HO369.out (fun _ hk => ⟨hk.1.2, hk.2⟩)⟩, ⟨by (with_reducible repeat (first | refine bkN ?_ _ | refine bkD ?_ | refine bkA ?_ _)); exact BK363.out⟩, ⟨by (with_reducible repeat (first | refine bkN ?_ _ | refine bkD ?_ | refine bkA ?_ _)); exact BK364.out⟩, ⟨by (with_reducible repeat (first | refine bkN ?_ _ | refine bkD ?_ | refine bkA ?_ _)); exact BK365.out⟩, ⟨by repeat (first | (with_reducible first | exact HB.out | apply blA | apply blN | apply blD | refine blS ?_ GE363.out | refine blS ?_ GE364.out | refine blS ?_ GE365.out) | exact HB.out)⟩⟩
  case round => as_aux_lemma =>
   clear H'
   try clear c1
   try clear c2
   try clear p2
   try clear c5
   try clear c7
   try clear c10
   try clear c11
   try clear c13
   try clear hcz12_0
   try clear hcz12_1
   try clear hcz14_0
   try clear hcz14_1
   try clear hcz15_0
   try clear hcz15_1
   try clear hcz15_2
   try clear hcz15_3
   try clear hcz15_4
   try clear hfz12_0
   try clear hfz12_1
   try clear hfz14_0
   try clear hfz14_1
   try clear hfz15_0
   try clear hfz15_1
   try clear hfz15_2
   try clear hfz15_3
   try clear hfz15_4
   obtain ⟨x23_1, rfl, HA, HK1, HO_21, BK363, BK364, BK365, HB⟩ := hrel
   cases gk with
   | zero => exact absurd HA.out (by simp [hopmeshlaw05_GeometryCrossings.l0])
   | succ k1 =>
    have H := HA.out
    clear HA
    simp only [hopmeshlaw05_GeometryCrossings.l0] at H
    by_cases c19 : x23_1 < (y367.length : Int)
    ·rw [if_pos c19] at H
     have c19b0 : decide (x23_1 < (y367.length : Int)) = true := decide_eq_true c19
     clear c19
     by_cases c20 : 0 ≤ x23_1
     rotate_left
     ·rw [if_neg c20] at H
      exact absurd H (by simp)
     as_aux_lemma =>
      rw [if_pos c20] at H
      have c20b0 : decide (0 ≤ x23_1) = true := decide_eq_true c20
      clear c20
      by_cases c21 : x23_1 < (y367.length : Int)
      rotate_left
      ·rw [if_neg c21] at H
       exact absurd H (by simp)
      rw [if_pos c21] at H
      have c21b0 : decide (x23_1 < (y367.length : Int)) = true := decide_eq_true c21
      clear c21
      have HC22 := Aside0.mk H
      clear H
      have p370 : 0 ≤ (x23_1 : Int) := of_decide_eq_true (by first | (with_reducible assumption) | assumption)
      have q370 : x23_1 < (y367.length : Int) := of_decide_eq_true (by first | (with_reducible assumption) | assumption)
      obtain ⟨ad370, e370, hx370_0, hx370_1⟩ := at_T28 (Kd.R_reads' HO_21.out).2.2 x23_1 p370 q370
      cases e370
      replace p370 := eq_true p370
      replace q370 := eq_true q370
      go_upto_region 6 with (first | ((with_reducible refine gate_dst (N := 8) rfl ?_); refine box_event ?hg (N := 8) ?hd (cs := #[.int .i64 0, .int .i64 0]) (t := 28) ?hr ?_; (case hd => rfl); (case hg => rfl); (case hr => first | (go_simp; done) | (go_simp; rfl)); intro gb371 hg w23 hbox hb; have n0_ := Aside0.mk (Kd.R_below (Kd.R_elderB (by (with_reducible repeat (first | apply Kd.R_alloc | apply Kd.R_drewN | apply Kd.R_drew)); exact HO_21.out) gb371 (Nat.le_of_eq hg.symm)) hb); have n1_ := Aside0.mk (bkB (g := gb363) (o := .cells #[.int .i64 a0_0, .int .i64 a0_1] 28 (0, 0)) (by (with_reducible repeat (first | refine bkN ?_ _ | refine bkD ?_ | refine bkA ?_ _)); exact BK363.out) hb); have n2_ := Aside0.mk (bkB (g := gb364) (o := .cells #[.int .i64 a1_0, .int .i64 a1_1] 28 (0, 0)) (by (with_reducible repeat (first | refine bkN ?_ _ | refine bkD ?_ | refine bkA ?_ _)); exact BK364.out) hb); have n3_ := Aside0.mk (bkB (g := gb365) (o := .cells #[.int .i64 a2_0, .int .i64 a2_1, .int .i64 a2_2, .int .i64 a2_3, .int .i64 a2_4] 47 (0, 0)) (by (with_reducible repeat (first | refine bkN ?_ _ | refine bkD ?_ | refine bkA ?_ _)); exact BK365.out) hb); have n4_ := Aside0.mk (below_step (by repeat (first | (with_reducible first | exact HB.out | apply blA | apply blN | apply blD | refine blS ?_ GE363.out | refine blS ?_ GE364.out | refine blS ?_ GE365.out) | exact HB.out)) hb); have n5_ := Aside0.mk (hbox); have n6_ := Aside0.mk ((by rw [hg]; exact (below_size (by repeat (first | (with_reducible first | exact HB.out | apply blA | apply blN | apply blD | refine blS ?_ GE363.out | refine blS ?_ GE364.out | refine blS ?_ GE365.out) | exact HB.out))) : w.heap.size ≤ gb371)); have n7_ := Aside0.mk ((by rw [hg]; exact (below_size (by repeat (first | (with_reducible first | exact HB.out | apply blA | apply blN | apply blD | refine blS ?_ GE363.out | refine blS ?_ GE364.out | refine blS ?_ GE365.out) | exact HB.out))) : w.heap.size ≤ gb371)); have n8_ := Aside0.mk ((by rw [hg]; exact Nat.ne_of_lt (blk_lt (g := gb363) (o := .cells #[.int .i64 a0_0, .int .i64 a0_1] 28 (0, 0)) (by (with_reducible repeat (first | refine bkN ?_ _ | refine bkD ?_ | refine bkA ?_ _)); exact BK363.out)) : gb363 ≠ gb371)); have n9_ := Aside0.mk ((by rw [hg]; exact Nat.ne_of_gt (blk_lt (g := gb363) (o := .cells #[.int .i64 a0_0, .int .i64 a0_1] 28 (0, 0)) (by (with_reducible repeat (first | refine bkN ?_ _ | refine bkD ?_ | refine bkA ?_ _)); exact BK363.out)) : gb371 ≠ gb363)); have n10_ := Aside0.mk ((by rw [hg]; exact Nat.ne_of_lt (blk_lt (g := gb364) (o := .cells #[.int .i64 a1_0, .int .i64 a1_1] 28 (0, 0)) (by (with_reducible repeat (first | refine bkN ?_ _ | refine bkD ?_ | refine bkA ?_ _)); exact BK364.out)) : gb364 ≠ gb371)); have n11_ := Aside0.mk ((by rw [hg]; exact Nat.ne_of_gt (blk_lt (g := gb364) (o := .cells #[.int .i64 a1_0, .int .i64 a1_1] 28 (0, 0)) (by (with_reducible repeat (first | refine bkN ?_ _ | refine bkD ?_ | refine bkA ?_ _)); exact BK364.out)) : gb371 ≠ gb364)); have n12_ := Aside0.mk ((by rw [hg]; exact Nat.ne_of_lt (blk_lt (g := gb365) (o := .cells #[.int .i64 a2_0, .int .i64 a2_1, .int .i64 a2_2, .int .i64 a2_3, .int .i64 a2_4] 47 (0, 0)) (by (with_reducible repeat (first | refine bkN ?_ _ | refine bkD ?_ | refine bkA ?_ _)); exact BK365.out)) : gb365 ≠ gb371)); have n13_ := Aside0.mk ((by rw [hg]; exact Nat.ne_of_gt (blk_lt (g := gb365) (o := .cells #[.int .i64 a2_0, .int .i64 a2_1, .int .i64 a2_2, .int .i64 a2_3, .int .i64 a2_4] 47 (0, 0)) (by (with_reducible repeat (first | refine bkN ?_ _ | refine bkD ?_ | refine bkA ?_ _)); exact BK365.out)) : gb371 ≠ gb365)); clear HO_21; clear BK363; clear BK364; clear BK365; clear HB; have HO_21 := n0_; have BK363 := n1_; have BK364 := n2_; have BK365 := n3_; have HB := n4_; have BK371 := n5_; have GW371 := n6_; have GE371 := n7_; have NB363_371 := n8_; have NB371_363 := n9_; have NB364_371 := n10_; have NB371_364 := n11_; have NB365_371 := n12_; have NB371_365 := n13_; clear n0_ n1_ n2_ n3_ n4_ n5_ n6_ n7_ n8_ n9_ n10_ n11_ n12_ n13_; clear hb hbox hg; have hnb24 := NB371_363.out; have hnc24 := NB363_371.out; have hnb25 := NB371_364.out; have hnc25 := NB364_371.out; have hnb26 := NB371_365.out; have hnc26 := NB365_371.out; have hcz27_0 : w23.cell? ⟨gb371, 0, none⟩ = some (.int .i64 0) := (bkC BK371.out 0).trans rfl; have hcz27_1 : w23.cell? ⟨gb371, 1, none⟩ = some (.int .i64 0) := (bkC BK371.out 1).trans rfl; have hfz27_0 := bkF BK371.out 0; have hfz27_1 := bkF BK371.out 1))
      (try simp only [Act.put, List.setIfInBounds_toArray, List.set_cons_zero, List.set_cons_succ])
      go_cut [44] (fun v44 wc => ∃ (kq : Nat) (x44_21 : Bool), v44 = .bool x44_21 ∧ Aside0 (hopmeshlaw05_GeometryCrossings.j1 kq y367 (y367.length : Int) x23_1 x44_21 a0_0 a0_1 a1_0 a1_1 a2_0 a2_1 a2_2 a2_3 a2_4 = some r) ∧ Aside0 (kq ≤ k1) ∧ Aside0 (Kd.R k28 28 wc w.heap.size (fun k_ => k_ ≠ gb363 ∧ k_ ≠ gb364 ∧ k_ ≠ gb371) (.slice (some ad370) y367.length co18) y367) ∧ Aside0 (wc.heap[gb363]? = some (.cells #[.int .i64 a0_0, .int .i64 a0_1] 28 (0, 0))) ∧ Aside0 (wc.heap[gb364]? = some (.cells #[.int .i64 a1_0, .int .i64 a1_1] 28 (0, 0))) ∧ Aside0 (wc.heap[gb365]? = some (.cells #[.int .i64 a2_0, .int .i64 a2_1, .int .i64 a2_2, .int .i64 a2_3, .int .i64 a2_4] 47 (0, 0))) ∧ Aside0 (wc.heap[gb371]? = some (.cells #[.int .i64 ((rd_T28 y367 x23_1).f0), .int .i64 ((rd_T28 y367 x23_1).f1)] 28 (0, 0))) ∧ Aside0 (Below w.heap.size w wc))
      case first => as_aux_lemma =>
       have H := HC22.out
       clear HC22
       by_cases c28 : ((rd_T28 y367 x23_1).f0) < 0
       ·rw [if_pos c28] at H
        have c28b0 : decide (((rd_T28 y367 x23_1).f0) < 0) = true := decide_eq_true c28
        clear c28
        (first | rw [c28b0] | (simp only [i64_w, i32_w]; rw [c28b0]) | skip)
        have H' := Aside0.mk H
        clear H
        have hnb29 := NB371_363.out
        have hnc29 := NB363_371.out
        have hnb30 := NB371_364.out
        have hnc30 := NB364_371.out
        have hnb31 := NB371_365.out
        have hnc31 := NB365_371.out
        have hcz32_0 : w23.cell? ⟨gb371, 0, none⟩ = some (.int .i64 0) := (bkC BK371.out 0).trans rfl
        have hcz32_1 : w23.cell? ⟨gb371, 1, none⟩ = some (.int .i64 0) := (bkC BK371.out 1).trans rfl
        have hfz32_0 := bkF BK371.out 0
        have hfz32_1 := bkF BK371.out 1
        go_wp2
        go_meet
        case rel => exact ⟨_, (true), (by first | rfl | (simp; done) | (simp [*]; done)), H', ⟨by have := HK1.out; first | omega | exact Nat.le_refl _⟩, ⟨by (with_reducible repeat (first | apply Kd.R_alloc | apply Kd.R_drewN | apply Kd.R_drew)); exact Kd.R_mono (Kd.R_far (p := ⟨gb371, 1, none⟩) (Kd.R_far (p := ⟨gb371, 0, none⟩) (Kd.R_mono HO_21.out (fun k_ hk => (⟨hk, hk.2⟩ : _ ∧ k_ ≠ gb371))) (fun _ hk => hk.2) (.int .i64 ((rd_T28 y367 x23_1).f0))) (fun _ hk => hk.2) (.int .i64 ((rd_T28 y367 x23_1).f1))) (fun _ hk => ⟨hk.1.1.1, ⟨hk.1.1.2, hk.1.2⟩⟩)⟩, ⟨by (with_reducible repeat (first | refine bkN ?_ _ | refine bkD ?_ | refine bkA ?_ _)); refine blk_far ?_ NB363_371.out _; (with_reducible repeat (first | refine bkN ?_ _ | refine bkD ?_ | refine bkA ?_ _)); refine blk_far ?_ NB363_371.out _; (with_reducible repeat (first | refine bkN ?_ _ | refine bkD ?_ | refine bkA ?_ _)); exact BK363.out⟩, ⟨by (with_reducible repeat (first | refine bkN ?_ _ | refine bkD ?_ | refine bkA ?_ _)); refine blk_far ?_ NB364_371.out _; (with_reducible repeat (first | refine bkN ?_ _ | refine bkD ?_ | refine bkA ?_ _)); refine blk_far ?_ NB364_371.out _; (with_reducible repeat (first | refine bkN ?_ _ | refine bkD ?_ | refine bkA ?_ _)); exact BK364.out⟩, ⟨by (with_reducible repeat (first | refine bkN ?_ _ | refine bkD ?_ | refine bkA ?_ _)); refine blk_far ?_ NB365_371.out _; (with_reducible repeat (first | refine bkN ?_ _ | refine bkD ?_ | refine bkA ?_ _)); refine blk_far ?_ NB365_371.out _; (with_reducible repeat (first | refine bkN ?_ _ | refine bkD ?_ | refine bkA ?_ _)); exact BK365.out⟩, ⟨by (with_reducible repeat (first | refine bkN ?_ _ | refine bkD ?_ | refine bkA ?_ _)); refine blk_put (cs := #[.int .i64 ((rd_T28 y367 x23_1).f0), .int .i64 0]) ?_ 1 _ rfl; (with_reducible repeat (first | refine bkN ?_ _ | refine bkD ?_ | refine bkA ?_ _)); refine blk_put (cs := #[.int .i64 0, .int .i64 0]) ?_ 0 _ rfl; (with_reducible repeat (first | refine bkN ?_ _ | refine bkD ?_ | refine bkA ?_ _)); exact BK371.out⟩, ⟨by repeat (first | (with_reducible first | exact HB.out | apply blA | apply blN | apply blD | refine blS ?_ GE363.out | refine blS ?_ GE364.out | refine blS ?_ GE365.out | refine blS ?_ GE371.out) | exact HB.out)⟩⟩
       rw [if_neg c28] at H
       have c28b0 : decide (((rd_T28 y367 x23_1).f0) < 0) = false := decide_eq_false c28
       clear c28
       (first | rw [c28b0] | (simp only [i64_w, i32_w]; rw [c28b0]) | skip)
       by_cases c33 : ((rd_T28 y367 x23_1).f0) > 10000
       ·rw [if_pos c33] at H
        have c33b0 : decide (10000 < ((rd_T28 y367 x23_1).f0)) = true := decide_eq_true c33
        clear c33
        have H' := Aside0.mk H
        clear H
        have hnb34 := NB371_363.out
        have hnc34 := NB363_371.out
        have hnb35 := NB371_364.out
        have hnc35 := NB364_371.out
        have hnb36 := NB371_365.out
        have hnc36 := NB365_371.out
        have hcz37_0 : w23.cell? ⟨gb371, 0, none⟩ = some (.int .i64 0) := (bkC BK371.out 0).trans rfl
        have hcz37_1 : w23.cell? ⟨gb371, 1, none⟩ = some (.int .i64 0) := (bkC BK371.out 1).trans rfl
        have hfz37_0 := bkF BK371.out 0
        have hfz37_1 := bkF BK371.out 1
        go_wp2
        go_meet
        case rel => exact ⟨_, (true), (by first | rfl | (simp; done) | (simp [*]; done)), H', ⟨by have := HK1.out; first | omega | exact Nat.le_refl _⟩, ⟨by (with_reducible repeat (first | apply Kd.R_alloc | apply Kd.R_drewN | apply Kd.R_drew)); exact Kd.R_mono (Kd.R_far (p := ⟨gb371, 1, none⟩) (Kd.R_far (p := ⟨gb371, 0, none⟩) (Kd.R_mono HO_21.out (fun k_ hk => (⟨hk, hk.2⟩ : _ ∧ k_ ≠ gb371))) (fun _ hk => hk.2) (.int .i64 ((rd_T28 y367 x23_1).f0))) (fun _ hk => hk.2) (.int .i64 ((rd_T28 y367 x23_1).f1))) (fun _ hk => ⟨hk.1.1.1, ⟨hk.1.1.2, hk.1.2⟩⟩)⟩, ⟨by (with_reducible repeat (first | refine bkN ?_ _ | refine bkD ?_ | refine bkA ?_ _)); refine blk_far ?_ NB363_371.out _; (with_reducible repeat (first | refine bkN ?_ _ | refine bkD ?_ | refine bkA ?_ _)); refine blk_far ?_ NB363_371.out _; (with_reducible repeat (first | refine bkN ?_ _ | refine bkD ?_ | refine bkA ?_ _)); exact BK363.out⟩, ⟨by (with_reducible repeat (first | refine bkN ?_ _ | refine bkD ?_ | refine bkA ?_ _)); refine blk_far ?_ NB364_371.out _; (with_reducible repeat (first | refine bkN ?_ _ | refine bkD ?_ | refine bkA ?_ _)); refine blk_far ?_ NB364_371.out _; (with_reducible repeat (first | refine bkN ?_ _ | refine bkD ?_ | refine bkA ?_ _)); exact BK364.out⟩, ⟨by (with_reducible repeat (first | refine bkN ?_ _ | refine bkD ?_ | refine bkA ?_ _)); refine blk_far ?_ NB365_371.out _; (with_reducible repeat (first | refine bkN ?_ _ | refine bkD ?_ | refine bkA ?_ _)); refine blk_far ?_ NB365_371.out _; (with_reducible repeat (first | refine bkN ?_ _ | refine bkD ?_ | refine bkA ?_ _)); exact BK365.out⟩, ⟨by (with_reducible repeat (first | refine bkN ?_ _ | refine bkD ?_ | refine bkA ?_ _)); refine blk_put (cs := #[.int .i64 ((rd_T28 y367 x23_1).f0), .int .i64 0]) ?_ 1 _ rfl; (with_reducible repeat (first | refine bkN ?_ _ | refine bkD ?_ | refine bkA ?_ _)); refine blk_put (cs := #[.int .i64 0, .int .i64 0]) ?_ 0 _ rfl; (with_reducible repeat (first | refine bkN ?_ _ | refine bkD ?_ | refine bkA ?_ _)); exact BK371.out⟩, ⟨by repeat (first | (with_reducible first | exact HB.out | apply blA | apply blN | apply blD | refine blS ?_ GE363.out | refine blS ?_ GE364.out | refine blS ?_ GE365.out | refine blS ?_ GE371.out) | exact HB.out)⟩⟩
       rw [if_neg c33] at H
       have c33b0 : decide (10000 < ((rd_T28 y367 x23_1).f0)) = false := decide_eq_false c33
       clear c33
       by_cases c38 : ((rd_T28 y367 x23_1).f1) < 0
       ·rw [if_pos c38] at H
        have c38b0 : decide (((rd_T28 y367 x23_1).f1) < 0) = true := decide_eq_true c38
        clear c38
        have H' := Aside0.mk H
        clear H
        have hnb39 := NB371_363.out
        have hnc39 := NB363_371.out
        have hnb40 := NB371_364.out
        have hnc40 := NB364_371.out
        have hnb41 := NB371_365.out
        have hnc41 := NB365_371.out
        have hcz42_0 : w23.cell? ⟨gb371, 0, none⟩ = some (.int .i64 0) := (bkC BK371.out 0).trans rfl
        have hcz42_1 : w23.cell? ⟨gb371, 1, none⟩ = some (.int .i64 0) := (bkC BK371.out 1).trans rfl
        have hfz42_0 := bkF BK371.out 0
        have hfz42_1 := bkF BK371.out 1
        go_wp2
        go_meet
        case rel => exact ⟨_, (true), (by first | rfl | (simp; done) | (simp [*]; done)), H', ⟨by have := HK1.out; first | omega | exact Nat.le_refl _⟩, ⟨by (with_reducible repeat (first | apply Kd.R_alloc | apply Kd.R_drewN | apply Kd.R_drew)); exact Kd.R_mono (Kd.R_far (p := ⟨gb371, 1, none⟩) (Kd.R_far (p := ⟨gb371, 0, none⟩) (Kd.R_mono HO_21.out (fun k_ hk => (⟨hk, hk.2⟩ : _ ∧ k_ ≠ gb371))) (fun _ hk => hk.2) (.int .i64 ((rd_T28 y367 x23_1).f0))) (fun _ hk => hk.2) (.int .i64 ((rd_T28 y367 x23_1).f1))) (fun _ hk => ⟨hk.1.1.1, ⟨hk.1.1.2, hk.1.2⟩⟩)⟩, ⟨by (with_reducible repeat (first | refine bkN ?_ _ | refine bkD ?_ | refine bkA ?_ _)); refine blk_far ?_ NB363_371.out _; (with_reducible repeat (first | refine bkN ?_ _ | refine bkD ?_ | refine bkA ?_ _)); refine blk_far ?_ NB363_371.out _; (with_reducible repeat (first | refine bkN ?_ _ | refine bkD ?_ | refine bkA ?_ _)); exact BK363.out⟩, ⟨by (with_reducible repeat (first | refine bkN ?_ _ | refine bkD ?_ | refine bkA ?_ _)); refine blk_far ?_ NB364_371.out _; (with_reducible repeat (first | refine bkN ?_ _ | refine bkD ?_ | refine bkA ?_ _)); refine blk_far ?_ NB364_371.out _; (with_reducible repeat (first | refine bkN ?_ _ | refine bkD ?_ | refine bkA ?_ _)); exact BK364.out⟩, ⟨by (with_reducible repeat (first | refine bkN ?_ _ | refine bkD ?_ | refine bkA ?_ _)); refine blk_far ?_ NB365_371.out _; (with_reducible repeat (first | refine bkN ?_ _ | refine bkD ?_ | refine bkA ?_ _)); refine blk_far ?_ NB365_371.out _; (with_reducible repeat (first | refine bkN ?_ _ | refine bkD ?_ | refine bkA ?_ _)); exact BK365.out⟩, ⟨by (with_reducible repeat (first | refine bkN ?_ _ | refine bkD ?_ | refine bkA ?_ _)); refine blk_put (cs := #[.int .i64 ((rd_T28 y367 x23_1).f0), .int .i64 0]) ?_ 1 _ rfl; (with_reducible repeat (first | refine bkN ?_ _ | refine bkD ?_ | refine bkA ?_ _)); refine blk_put (cs := #[.int .i64 0, .int .i64 0]) ?_ 0 _ rfl; (with_reducible repeat (first | refine bkN ?_ _ | refine bkD ?_ | refine bkA ?_ _)); exact BK371.out⟩, ⟨by repeat (first | (with_reducible first | exact HB.out | apply blA | apply blN | apply blD | refine blS ?_ GE363.out | refine blS ?_ GE364.out | refine blS ?_ GE365.out | refine blS ?_ GE371.out) | exact HB.out)⟩⟩
       rw [if_neg c38] at H
       have c38b0 : decide (((rd_T28 y367 x23_1).f1) < 0) = false := decide_eq_false c38
       clear c38
       have H' := Aside0.mk H
       clear H
       have hnb43 := NB371_363.out
       have hnc43 := NB363_371.out
       have hnb44 := NB371_364.out
       have hnc44 := NB364_371.out
       have hnb45 := NB371_365.out
       have hnc45 := NB365_371.out
       have hcz46_0 : w23.cell? ⟨gb371, 0, none⟩ = some (.int .i64 0) := (bkC BK371.out 0).trans rfl
       have hcz46_1 : w23.cell? ⟨gb371, 1, none⟩ = some (.int .i64 0) := (bkC BK371.out 1).trans rfl
       have hfz46_0 := bkF BK371.out 0
       have hfz46_1 := bkF BK371.out 1
       go_wp2
       go_meet
       case rel => exact ⟨_, (decide (((rd_T28 y367 x23_1).f1) > 10000)), (by first | rfl | (simp; done) | (simp [*]; done)), H', ⟨by have := HK1.out; first | omega | exact Nat.le_refl _⟩, ⟨by (with_reducible repeat (first | apply Kd.R_alloc | apply Kd.R_drewN | apply Kd.R_drew)); exact Kd.R_mono (Kd.R_far (p := ⟨gb371, 1, none⟩) (Kd.R_far (p := ⟨gb371, 0, none⟩) (Kd.R_mono HO_21.out (fun k_ hk => (⟨hk, hk.2⟩ : _ ∧ k_ ≠ gb371))) (fun _ hk => hk.2) (.int .i64 ((rd_T28 y367 x23_1).f0))) (fun _ hk => hk.2) (.int .i64 ((rd_T28 y367 x23_1).f1))) (fun _ hk => ⟨hk.1.1.1, ⟨hk.1.1.2, hk.1.2⟩⟩)⟩, ⟨by (with_reducible repeat (first | refine bkN ?_ _ | refine bkD ?_ | refine bkA ?_ _)); refine blk_far ?_ NB363_371.out _; (with_reducible repeat (first | refine bkN ?_ _ | refine bkD ?_ | refine bkA ?_ _)); refine blk_far ?_ NB363_371.out _; (with_reducible repeat (first | refine bkN ?_ _ | refine bkD ?_ | refine bkA ?_ _)); exact BK363.out⟩, ⟨by (with_reducible repeat (first | refine bkN ?_ _ | refine bkD ?_ | refine bkA ?_ _)); refine blk_far ?_ NB364_371.out _; (with_reducible repeat (first | refine bkN ?_ _ | refine bkD ?_ | refine bkA ?_ _)); refine blk_far ?_ NB364_371.out _; (with_reducible repeat (first | refine bkN ?_ _ | refine bkD ?_ | refine bkA ?_ _)); exact BK364.out⟩, ⟨by (with_reducible repeat (first | refine bkN ?_ _ | refine bkD ?_ | refine bkA ?_ _)); refine blk_far ?_ NB365_371.out _; (with_reducible repeat (first | refine bkN ?_ _ | refine bkD ?_ | refine bkA ?_ _)); refine blk_far ?_ NB365_371.out _; (with_reducible repeat (first | refine bkN ?_ _ | refine bkD ?_ | refine bkA ?_ _)); exact BK365.out⟩, ⟨by (with_reducible repeat (first | refine bkN ?_ _ | refine bkD ?_ | refine bkA ?_ _)); refine blk_put (cs := #[.int .i64 ((rd_T28 y367 x23_1).f0), .int .i64 0]) ?_ 1 _ rfl; (with_reducible repeat (first | refine bkN ?_ _ | refine bkD ?_ | refine bkA ?_ _)); refine blk_put (cs := #[.int .i64 0, .int .i64 0]) ?_ 0 _ rfl; (with_reducible repeat (first | refine bkN ?_ _ | refine bkD ?_ | refine bkA ?_ _)); exact BK371.out⟩, ⟨by repeat (first | (with_reducible first | exact HB.out | apply blA | apply blN | apply blD | refine blS ?_ GE363.out | refine blS ?_ GE364.out | refine blS ?_ GE365.out | refine blS ?_ GE371.out) | exact HB.out)⟩⟩
      case rest =>
       clear HC22
       try clear c1
       try clear c2
       try clear p2
       try clear c3
       try clear p3
       try clear q3
       try clear hx3
       try clear c4
       try clear c5
       try clear c7
       try clear c10
       try clear c11
       try clear c13
       try clear c19
       try clear c19b0
       try clear c20
       try clear c20b0
       try clear c21
       try clear c21b0
       try clear c24
       try clear c25
       try clear c26
       try clear c28
       try clear c28b0
       try clear c29
       try clear c30
       try clear c31
       try clear c33
       try clear c33b0
       try clear c34
       try clear c35
       try clear c36
       try clear p37
       try clear q37
       try clear hx37
       try clear c38
       try clear c38b0
       try clear c39
       try clear c40
       try clear c41
       try clear c43
       try clear c44
       try clear c45
       try clear hcz12_0
       try clear hcz12_1
       try clear hcz14_0
       try clear hcz14_1
       try clear hcz15_0
       try clear hcz15_1
       try clear hcz15_2
       try clear hcz15_3
       try clear hcz15_4
       try clear hcz27_0
       try clear hcz27_1
       try clear hcz32_0
       try clear hcz32_1
       try clear hcz37_0
       try clear hcz37_1
       try clear hcz42_0
       try clear hcz42_1
       try clear hcz46_0
       try clear hcz46_1
       try clear hfz12_0
       try clear hfz12_1
       try clear hfz14_0
       try clear hfz14_1
       try clear hfz15_0
       try clear hfz15_1
       try clear hfz15_2
       try clear hfz15_3
       try clear hfz15_4
       try clear hfz27_0
       try clear hfz27_1
       try clear hfz32_0
       try clear hfz32_1
       try clear hfz37_0
       try clear hfz37_1
       try clear hfz42_0
       try clear hfz42_1
       try clear hfz46_0
       try clear hfz46_1
       try clear hx370_0
       try clear hx370_1
       try clear p2
       try clear p370
       try clear q370
       obtain ⟨kq, x44_21, rfl, HA, HJ21, HO_21, BK363, BK364, BK365, BK371, HB⟩ := hcut
       cases kq with
       | zero => exact absurd HA.out (by simp [hopmeshlaw05_GeometryCrossings.j1])
       | succ kj21 =>
        have H := HA.out
        clear HA
        simp only [hopmeshlaw05_GeometryCrossings.j1] at H
        by_cases c47 : x44_21 = true
        ·subst c47
         have H1 : (some true) = some r := by rw [if_pos rfl] at H; exact H
         clear H
         have H := H1
         clear H1
         obtain rfl := Option.some.inj H
         go_wp2
         go_ret
         exact ⟨by first | rfl | (simp [errW_none, errW_some] <;> rfl) | (simp [*, errW_none, errW_some] <;> rfl), by repeat (first | (with_reducible first | exact HB.out | apply blA | apply blN | apply blD | refine blS ?_ GE363.out | refine blS ?_ GE364.out | refine blS ?_ GE365.out | refine blS ?_ GE371.out) | exact HB.out)⟩
        replace c47 := Bool.eq_false_iff.mpr c47
        subst c47
        have H1 : (hopmeshlaw05_GeometryCrossings.l0 kj21 y367 (y367.length : Int) (wrap64 (x23_1 + 1)) a0_0 a0_1 a1_0 a1_1 a2_0 a2_1 a2_2 a2_3 a2_4) = some r := by rw [if_neg (show ¬ (false = true) by decide)] at H; exact H
        clear H
        have H := H1
        clear H1
        have H' := Aside0.mk H
        clear H
        go_wp2
        go_roundg kj21
        case measure => have := HK1.out; have := HJ21.out; omega
        case rel => exact ⟨(wrap64 (x23_1 + 1)), (by first | rfl | (simp; done) | (simp [*]; done)), H', ⟨by have := HK1.out; have := HJ21.out; omega⟩, ⟨by (with_reducible repeat (first | apply Kd.R_alloc | apply Kd.R_drewN | apply Kd.R_drew)); exact Kd.R_mono HO_21.out (fun _ hk => ⟨hk.1, hk.2.1⟩)⟩, ⟨by (with_reducible repeat (first | refine bkN ?_ _ | refine bkD ?_ | refine bkA ?_ _)); exact BK363.out⟩, ⟨by (with_reducible repeat (first | refine bkN ?_ _ | refine bkD ?_ | refine bkA ?_ _)); exact BK364.out⟩, ⟨by (with_reducible repeat (first | refine bkN ?_ _ | refine bkD ?_ | refine bkA ?_ _)); exact BK365.out⟩, ⟨by repeat (first | (with_reducible first | exact HB.out | apply blA | apply blN | apply blD | refine blS ?_ GE363.out | refine blS ?_ GE364.out | refine blS ?_ GE365.out | refine blS ?_ GE371.out) | exact HB.out)⟩⟩
    as_aux_lemma =>
     rw [if_neg c19] at H
     have c19b0 : decide (x23_1 < (y367.length : Int)) = false := decide_eq_false c19
     clear c19
     have HC48 := Aside0.mk H
     clear H
     try go_wp2
     have n0_ := Aside0.mk (Kd.R_drew HO_21.out)
     have n1_ := Aside0.mk (bkD BK363.out)
     have n2_ := Aside0.mk (bkD BK364.out)
     have n3_ := Aside0.mk (bkD BK365.out)
     have n4_ := Aside0.mk (blD HB.out)
     clear HO_21
     clear BK363
     clear BK364
     clear BK365
     clear HB
     have HO_21 := n0_
     have BK363 := n1_
     have BK364 := n2_
     have BK365 := n3_
     have HB := n4_
     clear n0_ n1_ n2_ n3_ n4_
     refine start_ (n := 18) (S := fun w' => w'.cell? ⟨gb363, 0, none⟩ = some (.int .i64 a0_0) ∧ w'.cell? ⟨gb363, 1, none⟩ = some (.int .i64 a0_1) ∧ w'.cell? ⟨gb364, 0, none⟩ = some (.int .i64 a1_0) ∧ w'.cell? ⟨gb364, 1, none⟩ = some (.int .i64 a1_1)) (ds := []) #[false, false, false, false, false, false, false, false, false, false, false, false, false, false, false, false, false, false] (by kernel_rfl) rfl rfl ⟨(bkC BK363.out 0).trans rfl, (bkC BK363.out 1).trans rfl, (bkC BK364.out 0).trans rfl, (bkC BK364.out 1).trans rfl⟩ (fun hHeld => ?_); refine with_tabW hopmeshlaw05_GeometryCrossings.tab9 hopmeshlaw05_GeometryCrossings.bits9 (fun HT_ HW_ => ?_)
     generalize wr.drew = w49 at HO_21 BK363 BK364 BK365 HB hHeld ⊢
     refine pure_ (i := 0) (N := some 46) (v := ?_) (a' := ?_) #[true, false, false, false, false, false, false, false, false, false, false, false, false, false, false, false, false, false] rfl rfl (any_of HT_.out (by kernel_rfl)) (fun _ _ _ h => h) (Or.inl ⟨by rfl, ?_⟩) ?_ ?_
     rotate_left
     ·intro w'
      go_simp
      with_reducible rfl
     rotate_left
     ·simp only [Act.put, List.setIfInBounds_toArray, List.set_cons_zero, List.set_cons_succ, i64_w, i32_w]
      rfl
     refine pure_ (i := 3) (N := some 49) (v := ?_) (a' := ?_) #[true, false, false, true, false, false, false, false, false, false, false, false, false, false, false, false, false, false] rfl rfl (any_of HT_.out (by kernel_rfl)) (fun _ _ _ h => h) (Or.inl ⟨by rfl, ?_⟩) ?_ ?_
     rotate_left
     ·intro w'
      go_simp
      with_reducible rfl
     rotate_left
     ·simp only [Act.put, List.setIfInBounds_toArray, List.set_cons_zero, List.set_cons_succ, i64_w, i32_w]
      rfl
     refine pure_ (i := 7) (N := some 53) (v := ?_) (a' := ?_) #[true, false, false, true, false, false, false, true, false, false, false, false, false, false, false, false, false, false] rfl rfl (any_of HT_.out (by kernel_rfl)) (fun _ _ _ h => h) (Or.inl ⟨by rfl, ?_⟩) ?_ ?_
     rotate_left
     ·intro w'
      go_simp
      with_reducible rfl
     rotate_left
     ·simp only [Act.put, List.setIfInBounds_toArray, List.set_cons_zero, List.set_cons_succ, i64_w, i32_w]
      rfl
     refine pure_ (i := 10) (N := some 56) (v := ?_) (a' := ?_) #[true, false, false, true, false, false, false, true, false, false, true, false, false, false, false, false, false, false] rfl rfl (any_of HT_.out (by kernel_rfl)) (fun _ _ _ h => h) (Or.inl ⟨by rfl, ?_⟩) ?_ ?_
     rotate_left
     ·intro w'
      go_simp
      with_reducible rfl
     rotate_left
     ·simp only [Act.put, List.setIfInBounds_toArray, List.set_cons_zero, List.set_cons_succ, i64_w, i32_w]
      rfl
     refine take_ (i := 1) (N := some 47) (v := ?_) (a' := ?_) #[true, true, false, true, false, false, false, true, false, false, true, false, false, false, false, false, false, false] rfl rfl (take_ofW HT_.out HW_.out (by kernel_rfl)) (fun _ _ _ h => h) (Or.inl ⟨by rfl, ?_⟩) hHeld ?_ ?_
     rotate_left
     ·rintro w' ⟨s0, s1, s2, s3⟩
      go_simp
      with_reducible rfl
     rotate_left
     ·simp only [Act.put, List.setIfInBounds_toArray, List.set_cons_zero, List.set_cons_succ, i64_w, i32_w]
      rfl
     refine pure_ (i := 2) (N := some 48) (v := ?_) (a' := ?_) #[true, true, true, true, false, false, false, true, false, false, true, false, false, false, false, false, false, false] rfl rfl (any_of HT_.out (by kernel_rfl)) (fun _ _ _ h => h) (Or.inl ⟨by rfl, ?_⟩) ?_ ?_
     rotate_left
     ·intro w'
      go_simp
      with_reducible rfl
     rotate_left
     ·simp only [Act.put, List.setIfInBounds_toArray, List.set_cons_zero, List.set_cons_succ, i64_w, i32_w]
      rfl
     refine take_ (i := 4) (N := some 50) (v := ?_) (a' := ?_) #[true, true, true, true, true, false, false, true, false, false, true, false, false, false, false, false, false, false] rfl rfl (take_ofW HT_.out HW_.out (by kernel_rfl)) (fun _ _ _ h => h) (Or.inl ⟨by rfl, ?_⟩) hHeld ?_ ?_
     rotate_left
     ·rintro w' ⟨s0, s1, s2, s3⟩
      go_simp
      with_reducible rfl
     rotate_left
     ·simp only [Act.put, List.setIfInBounds_toArray, List.set_cons_zero, List.set_cons_succ, i64_w, i32_w]
      rfl
     refine pure_ (i := 5) (N := some 51) (v := ?_) (a' := ?_) #[true, true, true, true, true, true, false, true, false, false, true, false, false, false, false, false, false, false] rfl rfl (any_of HT_.out (by kernel_rfl)) (fun _ _ _ h => h) (Or.inl ⟨by rfl, ?_⟩) ?_ ?_
     rotate_left
     ·intro w'
      go_simp
      with_reducible rfl
     rotate_left
     ·simp only [Act.put, List.setIfInBounds_toArray, List.set_cons_zero, List.set_cons_succ, i64_w, i32_w]
      rfl
     refine pure_ (i := 6) (N := some 52) (v := ?_) (a' := ?_) #[true, true, true, true, true, true, true, true, false, false, true, false, false, false, false, false, false, false] rfl rfl (any_of HT_.out (by kernel_rfl)) (fun _ _ _ h => h) (Or.inl ⟨by rfl, ?_⟩) ?_ ?_
     rotate_left
     ·intro w'
      go_simp
      with_reducible rfl
     rotate_left
     ·simp only [Act.put, List.setIfInBounds_toArray, List.set_cons_zero, List.set_cons_succ, i64_w, i32_w]
      rfl
     refine take_ (i := 8) (N := some 54) (v := ?_) (a' := ?_) #[true, true, true, true, true, true, true, true, true, false, true, false, false, false, false, false, false, false] rfl rfl (take_ofW HT_.out HW_.out (by kernel_rfl)) (fun _ _ _ h => h) (Or.inl ⟨by rfl, ?_⟩) hHeld ?_ ?_
     rotate_left
     ·rintro w' ⟨s0, s1, s2, s3⟩
      go_simp
      with_reducible rfl
     rotate_left
     ·simp only [Act.put, List.setIfInBounds_toArray, List.set_cons_zero, List.set_cons_succ, i64_w, i32_w]
      rfl
     refine pure_ (i := 9) (N := some 55) (v := ?_) (a' := ?_) #[true, true, true, true, true, true, true, true, true, true, true, false, false, false, false, false, false, false] rfl rfl (any_of HT_.out (by kernel_rfl)) (fun _ _ _ h => h) (Or.inl ⟨by rfl, ?_⟩) ?_ ?_
     rotate_left
     ·intro w'
      go_simp
      with_reducible rfl
     rotate_left
     ·simp only [Act.put, List.setIfInBounds_toArray, List.set_cons_zero, List.set_cons_succ, i64_w, i32_w]
      rfl
     refine take_ (i := 11) (N := some 57) (v := ?_) (a' := ?_) #[true, true, true, true, true, true, true, true, true, true, true, true, false, false, false, false, false, false] rfl rfl (take_ofW HT_.out HW_.out (by kernel_rfl)) (fun _ _ _ h => h) (Or.inl ⟨by rfl, ?_⟩) hHeld ?_ ?_
     rotate_left
     ·rintro w' ⟨s0, s1, s2, s3⟩
      go_simp
      with_reducible rfl
     rotate_left
     ·simp only [Act.put, List.setIfInBounds_toArray, List.set_cons_zero, List.set_cons_succ, i64_w, i32_w]
      rfl
     refine pure_ (i := 12) (N := some 58) (v := ?_) (a' := ?_) #[true, true, true, true, true, true, true, true, true, true, true, true, true, false, false, false, false, false] rfl rfl (any_of HT_.out (by kernel_rfl)) (fun _ _ _ h => h) (Or.inl ⟨by rfl, ?_⟩) ?_ ?_
     rotate_left
     ·intro w'
      go_simp
      with_reducible rfl
     rotate_left
     ·simp only [Act.put, List.setIfInBounds_toArray, List.set_cons_zero, List.set_cons_succ, i64_w, i32_w]
      rfl
     refine pure_ (i := 13) (N := some 59) (v := ?_) (a' := ?_) #[true, true, true, true, true, true, true, true, true, true, true, true, true, true, false, false, false, false] rfl rfl (any_of HT_.out (by kernel_rfl)) (fun _ _ _ h => h) (Or.inl ⟨by rfl, ?_⟩) ?_ ?_
     rotate_left
     ·intro w'
      go_simp
      with_reducible rfl
     rotate_left
     ·simp only [Act.put, List.setIfInBounds_toArray, List.set_cons_zero, List.set_cons_succ, i64_w, i32_w]
      rfl
     refine join_ (σ := Nat × Nat) 2 #[true, true, true, true, true, true, true, true, true, true, true, true, true, true, true, true, false, false] (fun s_ => [(9, .pointer (some ⟨s_.1, 0, none⟩)), (10, .pointer (some ⟨s_.2, 0, none⟩))]) (fun s_ w' => (w'.cell? ⟨gb363, 0, none⟩ = some (.int .i64 a0_0) ∧ w'.cell? ⟨gb363, 1, none⟩ = some (.int .i64 a0_1) ∧ w'.cell? ⟨gb364, 0, none⟩ = some (.int .i64 a1_0) ∧ w'.cell? ⟨gb364, 1, none⟩ = some (.int .i64 a1_1)) ∧ (Kd.R k28 28 w' w.heap.size (fun k_ => k_ ≠ gb363 ∧ k_ ≠ gb364 ∧ k_ ≠ s_.1 ∧ k_ ≠ s_.2) (.slice Ao18 y367.length co18) y367) ∧ (w'.heap[gb363]? = some (.cells #[.int .i64 a0_0, .int .i64 a0_1] 28 (0, 0))) ∧ (w'.heap[gb364]? = some (.cells #[.int .i64 a1_0, .int .i64 a1_1] 28 (0, 0))) ∧ (w'.heap[gb365]? = some (.cells #[.int .i64 a2_0, .int .i64 a2_1, .int .i64 a2_2, .int .i64 a2_3, .int .i64 a2_4] 47 (0, 0))) ∧ (w'.heap[s_.1]? = some (.cells #[.int .i64 0, .int .i64 0] 28 (0, 0))) ∧ (w'.heap[s_.2]? = some (.cells #[.int .i64 0, .int .i64 0] 28 (0, 0))) ∧ (w.heap.size ≤ s_.1) ∧ (w.heap.size ≤ s_.1) ∧ (gb363 ≠ s_.1) ∧ (s_.1 ≠ gb363) ∧ (gb364 ≠ s_.1) ∧ (s_.1 ≠ gb364) ∧ (gb365 ≠ s_.1) ∧ (s_.1 ≠ gb365) ∧ (s_.2 ≠ s_.1) ∧ (s_.1 ≠ s_.2) ∧ (w.heap.size ≤ s_.2) ∧ (w.heap.size ≤ s_.2) ∧ (gb363 ≠ s_.2) ∧ (s_.2 ≠ gb363) ∧ (gb364 ≠ s_.2) ∧ (s_.2 ≠ gb364) ∧ (gb365 ≠ s_.2) ∧ (s_.2 ≠ gb365) ∧ (Below w.heap.size w w')) ?_ ?_
     rotate_left
     ·intro hCont
      refine two_ (i := 14) (j := 15) (Ni := some 9) (Nj := some 10) #[true, true, true, true, true, true, true, true, true, true, true, true, true, true, true, false, false, false] #[true, true, true, true, true, true, true, true, true, true, true, true, true, true, false, true, false, false] rfl rfl rfl rfl (two_of HT_.out (by kernel_rfl)) (by decide) (by decide) (fun K hK => ?_) (fun K hK => ?_)
      rotate_left
      ·skip
       refine box_step ?hg (N := 10) ?hd (cs := #[.int .i64 0, .int .i64 0]) (t := 28) ?hr ?_; (case hd => rfl); (case hg => rfl); (case hr => first | (go_simp; done) | (go_simp; rfl))
       intro gb373 hg w50 hbox hb
       have n0_ := Aside0.mk (Kd.R_below (Kd.R_elderB (by (with_reducible repeat (first | apply Kd.R_alloc | apply Kd.R_drewN | apply Kd.R_drew)); exact HO_21.out) gb373 (Nat.le_of_eq hg.symm)) hb)
       have n1_ := Aside0.mk (bkB (g := gb363) (o := .cells #[.int .i64 a0_0, .int .i64 a0_1] 28 (0, 0)) (by (with_reducible repeat (first | refine bkN ?_ _ | refine bkD ?_ | refine bkA ?_ _)); exact BK363.out) hb)
       have n2_ := Aside0.mk (bkB (g := gb364) (o := .cells #[.int .i64 a1_0, .int .i64 a1_1] 28 (0, 0)) (by (with_reducible repeat (first | refine bkN ?_ _ | refine bkD ?_ | refine bkA ?_ _)); exact BK364.out) hb)
       have n3_ := Aside0.mk (bkB (g := gb365) (o := .cells #[.int .i64 a2_0, .int .i64 a2_1, .int .i64 a2_2, .int .i64 a2_3, .int .i64 a2_4] 47 (0, 0)) (by (with_reducible repeat (first | refine bkN ?_ _ | refine bkD ?_ | refine bkA ?_ _)); exact BK365.out) hb)
       have n4_ := Aside0.mk (below_step (by repeat (first | (with_reducible first | exact HB.out | apply blA | apply blN | apply blD | refine blS ?_ GE363.out | refine blS ?_ GE364.out | refine blS ?_ GE365.out) | exact HB.out)) hb)
       have n5_ := Aside0.mk (hbox)
       have n6_ := Aside0.mk ((by rw [hg]; exact (below_size (by repeat (first | (with_reducible first | exact HB.out | apply blA | apply blN | apply blD | refine blS ?_ GE363.out | refine blS ?_ GE364.out | refine blS ?_ GE365.out) | exact HB.out))) : w.heap.size ≤ gb373))
       have n7_ := Aside0.mk ((by rw [hg]; exact (below_size (by repeat (first | (with_reducible first | exact HB.out | apply blA | apply blN | apply blD | refine blS ?_ GE363.out | refine blS ?_ GE364.out | refine blS ?_ GE365.out) | exact HB.out))) : w.heap.size ≤ gb373))
       have n8_ := Aside0.mk ((by rw [hg]; exact Nat.ne_of_lt (blk_lt (g := gb363) (o := .cells #[.int .i64 a0_0, .int .i64 a0_1] 28 (0, 0)) (by (with_reducible repeat (first | refine bkN ?_ _ | refine bkD ?_ | refine bkA ?_ _)); exact BK363.out)) : gb363 ≠ gb373))
       have n9_ := Aside0.mk ((by rw [hg]; exact Nat.ne_of_gt (blk_lt (g := gb363) (o := .cells #[.int .i64 a0_0, .int .i64 a0_1] 28 (0, 0)) (by (with_reducible repeat (first | refine bkN ?_ _ | refine bkD ?_ | refine bkA ?_ _)); exact BK363.out)) : gb373 ≠ gb363))
       have n10_ := Aside0.mk ((by rw [hg]; exact Nat.ne_of_lt (blk_lt (g := gb364) (o := .cells #[.int .i64 a1_0, .int .i64 a1_1] 28 (0, 0)) (by (with_reducible repeat (first | refine bkN ?_ _ | refine bkD ?_ | refine bkA ?_ _)); exact BK364.out)) : gb364 ≠ gb373))
       have n11_ := Aside0.mk ((by rw [hg]; exact Nat.ne_of_gt (blk_lt (g := gb364) (o := .cells #[.int .i64 a1_0, .int .i64 a1_1] 28 (0, 0)) (by (with_reducible repeat (first | refine bkN ?_ _ | refine bkD ?_ | refine bkA ?_ _)); exact BK364.out)) : gb373 ≠ gb364))
       have n12_ := Aside0.mk ((by rw [hg]; exact Nat.ne_of_lt (blk_lt (g := gb365) (o := .cells #[.int .i64 a2_0, .int .i64 a2_1, .int .i64 a2_2, .int .i64 a2_3, .int .i64 a2_4] 47 (0, 0)) (by (with_reducible repeat (first | refine bkN ?_ _ | refine bkD ?_ | refine bkA ?_ _)); exact BK365.out)) : gb365 ≠ gb373))
       have n13_ := Aside0.mk ((by rw [hg]; exact Nat.ne_of_gt (blk_lt (g := gb365) (o := .cells #[.int .i64 a2_0, .int .i64 a2_1, .int .i64 a2_2, .int .i64 a2_3, .int .i64 a2_4] 47 (0, 0)) (by (with_reducible repeat (first | refine bkN ?_ _ | refine bkD ?_ | refine bkA ?_ _)); exact BK365.out)) : gb373 ≠ gb365))
       clear HO_21
       clear BK363
       clear BK364
       clear BK365
       clear HB
       have HO_21 := n0_
       have BK363 := n1_
       have BK364 := n2_
       have BK365 := n3_
       have HB := n4_
       have BK373 := n5_
       have GW373 := n6_
       have GE373 := n7_
       have NB363_373 := n8_
       have NB373_363 := n9_
       have NB364_373 := n10_
       have NB373_364 := n11_
       have NB365_373 := n12_
       have NB373_365 := n13_
       clear n0_ n1_ n2_ n3_ n4_ n5_ n6_ n7_ n8_ n9_ n10_ n11_ n12_ n13_
       clear hb hbox hg
       refine hK.out _ _ ⟨(bkC BK363.out 0).trans rfl, (bkC BK363.out 1).trans rfl, (bkC BK364.out 0).trans rfl, (bkC BK364.out 1).trans rfl⟩ (fun hHeld => ?_)
       clear hK K
       refine norm_ (a' := ?_) ?_ ?_
       rotate_left
       ·show Act.put _ (some 10) _ = _
        simp only [Act.put, List.setIfInBounds_toArray, List.set_cons_zero, List.set_cons_succ, i64_w, i32_w]
        rfl
       refine one_ (i := 14) (N := some 9) #[true, true, true, true, true, true, true, true, true, true, true, true, true, true, true, true, false, false] rfl rfl (one_of HT_.out (by kernel_rfl)) (by decide) (fun K hK => ?_)
       refine box_step ?hg (N := 9) ?hd (cs := #[.int .i64 0, .int .i64 0]) (t := 28) ?hr ?_; (case hd => rfl); (case hg => rfl); (case hr => first | (go_simp; done) | (go_simp; rfl))
       intro gb372 hg w51 hbox hb
       have n0_ := Aside0.mk (Kd.R_below (Kd.R_elderB (by (with_reducible repeat (first | apply Kd.R_alloc | apply Kd.R_drewN | apply Kd.R_drew)); exact HO_21.out) gb372 (Nat.le_of_eq hg.symm)) hb)
       have n1_ := Aside0.mk (bkB (g := gb363) (o := .cells #[.int .i64 a0_0, .int .i64 a0_1] 28 (0, 0)) (by (with_reducible repeat (first | refine bkN ?_ _ | refine bkD ?_ | refine bkA ?_ _)); exact BK363.out) hb)
       have n2_ := Aside0.mk (bkB (g := gb364) (o := .cells #[.int .i64 a1_0, .int .i64 a1_1] 28 (0, 0)) (by (with_reducible repeat (first | refine bkN ?_ _ | refine bkD ?_ | refine bkA ?_ _)); exact BK364.out) hb)
       have n3_ := Aside0.mk (bkB (g := gb365) (o := .cells #[.int .i64 a2_0, .int .i64 a2_1, .int .i64 a2_2, .int .i64 a2_3, .int .i64 a2_4] 47 (0, 0)) (by (with_reducible repeat (first | refine bkN ?_ _ | refine bkD ?_ | refine bkA ?_ _)); exact BK365.out) hb)
       have n4_ := Aside0.mk (bkB (g := gb373) (o := .cells #[.int .i64 0, .int .i64 0] 28 (0, 0)) (by (with_reducible repeat (first | refine bkN ?_ _ | refine bkD ?_ | refine bkA ?_ _)); exact BK373.out) hb)
       have n5_ := Aside0.mk (below_step (by repeat (first | (with_reducible first | exact HB.out | apply blA | apply blN | apply blD | refine blS ?_ GE363.out | refine blS ?_ GE364.out | refine blS ?_ GE365.out | refine blS ?_ GE373.out) | exact HB.out)) hb)
       have n6_ := Aside0.mk (hbox)
       have n7_ := Aside0.mk ((by rw [hg]; exact (below_size (by repeat (first | (with_reducible first | exact HB.out | apply blA | apply blN | apply blD | refine blS ?_ GE363.out | refine blS ?_ GE364.out | refine blS ?_ GE365.out | refine blS ?_ GE373.out) | exact HB.out))) : w.heap.size ≤ gb372))
       have n8_ := Aside0.mk ((by rw [hg]; exact (below_size (by repeat (first | (with_reducible first | exact HB.out | apply blA | apply blN | apply blD | refine blS ?_ GE363.out | refine blS ?_ GE364.out | refine blS ?_ GE365.out | refine blS ?_ GE373.out) | exact HB.out))) : w.heap.size ≤ gb372))
       have n9_ := Aside0.mk ((by rw [hg]; exact Nat.ne_of_lt (blk_lt (g := gb363) (o := .cells #[.int .i64 a0_0, .int .i64 a0_1] 28 (0, 0)) (by (with_reducible repeat (first | refine bkN ?_ _ | refine bkD ?_ | refine bkA ?_ _)); exact BK363.out)) : gb363 ≠ gb372))
       have n10_ := Aside0.mk ((by rw [hg]; exact Nat.ne_of_gt (blk_lt (g := gb363) (o := .cells #[.int .i64 a0_0, .int .i64 a0_1] 28 (0, 0)) (by (with_reducible repeat (first | refine bkN ?_ _ | refine bkD ?_ | refine bkA ?_ _)); exact BK363.out)) : gb372 ≠ gb363))
       have n11_ := Aside0.mk ((by rw [hg]; exact Nat.ne_of_lt (blk_lt (g := gb364) (o := .cells #[.int .i64 a1_0, .int .i64 a1_1] 28 (0, 0)) (by (with_reducible repeat (first | refine bkN ?_ _ | refine bkD ?_ | refine bkA ?_ _)); exact BK364.out)) : gb364 ≠ gb372))
       have n12_ := Aside0.mk ((by rw [hg]; exact Nat.ne_of_gt (blk_lt (g := gb364) (o := .cells #[.int .i64 a1_0, .int .i64 a1_1] 28 (0, 0)) (by (with_reducible repeat (first | refine bkN ?_ _ | refine bkD ?_ | refine bkA ?_ _)); exact BK364.out)) : gb372 ≠ gb364))
       have n13_ := Aside0.mk ((by rw [hg]; exact Nat.ne_of_lt (blk_lt (g := gb365) (o := .cells #[.int .i64 a2_0, .int .i64 a2_1, .int .i64 a2_2, .int .i64 a2_3, .int .i64 a2_4] 47 (0, 0)) (by (with_reducible repeat (first | refine bkN ?_ _ | refine bkD ?_ | refine bkA ?_ _)); exact BK365.out)) : gb365 ≠ gb372))
       have n14_ := Aside0.mk ((by rw [hg]; exact Nat.ne_of_gt (blk_lt (g := gb365) (o := .cells #[.int .i64 a2_0, .int .i64 a2_1, .int .i64 a2_2, .int .i64 a2_3, .int .i64 a2_4] 47 (0, 0)) (by (with_reducible repeat (first | refine bkN ?_ _ | refine bkD ?_ | refine bkA ?_ _)); exact BK365.out)) : gb372 ≠ gb365))
       have n15_ := Aside0.mk ((by rw [hg]; exact Nat.ne_of_lt (blk_lt (g := gb373) (o := .cells #[.int .i64 0, .int .i64 0] 28 (0, 0)) (by (with_reducible repeat (first | refine bkN ?_ _ | refine bkD ?_ | refine bkA ?_ _)); exact BK373.out)) : gb373 ≠ gb372))
       have n16_ := Aside0.mk ((by rw [hg]; exact Nat.ne_of_gt (blk_lt (g := gb373) (o := .cells #[.int .i64 0, .int .i64 0] 28 (0, 0)) (by (with_reducible repeat (first | refine bkN ?_ _ | refine bkD ?_ | refine bkA ?_ _)); exact BK373.out)) : gb372 ≠ gb373))
       clear HO_21
       clear BK363
       clear BK364
       clear BK365
       clear BK373
       clear HB
       have HO_21 := n0_
       have BK363 := n1_
       have BK364 := n2_
       have BK365 := n3_
       have BK373 := n4_
       have HB := n5_
       have BK372 := n6_
       have GW372 := n7_
       have GE372 := n8_
       have NB363_372 := n9_
       have NB372_363 := n10_
       have NB364_372 := n11_
       have NB372_364 := n12_
       have NB365_372 := n13_
       have NB372_365 := n14_
       have NB373_372 := n15_
       have NB372_373 := n16_
       clear n0_ n1_ n2_ n3_ n4_ n5_ n6_ n7_ n8_ n9_ n10_ n11_ n12_ n13_ n14_ n15_ n16_
       clear hb hbox hg
       refine hK.out _ _ ⟨(bkC BK363.out 0).trans rfl, (bkC BK363.out 1).trans rfl, (bkC BK364.out 0).trans rfl, (bkC BK364.out 1).trans rfl⟩ (fun hHeld => ?_)
       clear hK K
       refine norm_ (a' := ?_) ?_ ?_
       rotate_left
       ·show Act.put _ (some 9) _ = _
        simp only [Act.put, List.setIfInBounds_toArray, List.set_cons_zero, List.set_cons_succ, i64_w, i32_w]
        rfl
       exact norm_ (by simp only [putAll, Act.put, List.setIfInBounds_toArray, List.set_cons_zero, List.set_cons_succ]) (hCont (gb372, gb373) _ ⟨hHeld, (by (with_reducible repeat (first | apply Kd.R_alloc | apply Kd.R_drewN | apply Kd.R_drew)); exact Kd.R_mono HO_21.out (fun _ hk => ⟨hk.1.1.1, ⟨hk.1.1.2, ⟨hk.2, hk.1.2⟩⟩⟩)), (by (with_reducible repeat (first | refine bkN ?_ _ | refine bkD ?_ | refine bkA ?_ _)); exact BK363.out), (by (with_reducible repeat (first | refine bkN ?_ _ | refine bkD ?_ | refine bkA ?_ _)); exact BK364.out), (by (with_reducible repeat (first | refine bkN ?_ _ | refine bkD ?_ | refine bkA ?_ _)); exact BK365.out), (by (with_reducible repeat (first | refine bkN ?_ _ | refine bkD ?_ | refine bkA ?_ _)); exact BK372.out), (by (with_reducible repeat (first | refine bkN ?_ _ | refine bkD ?_ | refine bkA ?_ _)); exact BK373.out), GW372.out, GE372.out, NB363_372.out, NB372_363.out, NB364_372.out, NB372_364.out, NB365_372.out, NB372_365.out, NB373_372.out, NB372_373.out, GW373.out, GE373.out, NB363_373.out, NB373_363.out, NB364_373.out, NB373_364.out, NB365_373.out, NB373_365.out, (by repeat (first | (with_reducible first | exact HB.out | apply blA | apply blN | apply blD | refine blS ?_ GE363.out | refine blS ?_ GE364.out | refine blS ?_ GE365.out | refine blS ?_ GE373.out | refine blS ?_ GE372.out) | exact HB.out))⟩)
      skip
      refine box_step ?hg (N := 9) ?hd (cs := #[.int .i64 0, .int .i64 0]) (t := 28) ?hr ?_; (case hd => rfl); (case hg => rfl); (case hr => first | (go_simp; done) | (go_simp; rfl))
      intro gb372 hg w50 hbox hb
      have n0_ := Aside0.mk (Kd.R_below (Kd.R_elderB (by (with_reducible repeat (first | apply Kd.R_alloc | apply Kd.R_drewN | apply Kd.R_drew)); exact HO_21.out) gb372 (Nat.le_of_eq hg.symm)) hb)
      have n1_ := Aside0.mk (bkB (g := gb363) (o := .cells #[.int .i64 a0_0, .int .i64 a0_1] 28 (0, 0)) (by (with_reducible repeat (first | refine bkN ?_ _ | refine bkD ?_ | refine bkA ?_ _)); exact BK363.out) hb)
      have n2_ := Aside0.mk (bkB (g := gb364) (o := .cells #[.int .i64 a1_0, .int .i64 a1_1] 28 (0, 0)) (by (with_reducible repeat (first | refine bkN ?_ _ | refine bkD ?_ | refine bkA ?_ _)); exact BK364.out) hb)
      have n3_ := Aside0.mk (bkB (g := gb365) (o := .cells #[.int .i64 a2_0, .int .i64 a2_1, .int .i64 a2_2, .int .i64 a2_3, .int .i64 a2_4] 47 (0, 0)) (by (with_reducible repeat (first | refine bkN ?_ _ | refine bkD ?_ | refine bkA ?_ _)); exact BK365.out) hb)
      have n4_ := Aside0.mk (below_step (by repeat (first | (with_reducible first | exact HB.out | apply blA | apply blN | apply blD | refine blS ?_ GE363.out | refine blS ?_ GE364.out | refine blS ?_ GE365.out) | exact HB.out)) hb)
      have n5_ := Aside0.mk (hbox)
      have n6_ := Aside0.mk ((by rw [hg]; exact (below_size (by repeat (first | (with_reducible first | exact HB.out | apply blA | apply blN | apply blD | refine blS ?_ GE363.out | refine blS ?_ GE364.out | refine blS ?_ GE365.out) | exact HB.out))) : w.heap.size ≤ gb372))
      have n7_ := Aside0.mk ((by rw [hg]; exact (below_size (by repeat (first | (with_reducible first | exact HB.out | apply blA | apply blN | apply blD | refine blS ?_ GE363.out | refine blS ?_ GE364.out | refine blS ?_ GE365.out) | exact HB.out))) : w.heap.size ≤ gb372))
      have n8_ := Aside0.mk ((by rw [hg]; exact Nat.ne_of_lt (blk_lt (g := gb363) (o := .cells #[.int .i64 a0_0, .int .i64 a0_1] 28 (0, 0)) (by (with_reducible repeat (first | refine bkN ?_ _ | refine bkD ?_ | refine bkA ?_ _)); exact BK363.out)) : gb363 ≠ gb372))
      have n9_ := Aside0.mk ((by rw [hg]; exact Nat.ne_of_gt (blk_lt (g := gb363) (o := .cells #[.int .i64 a0_0, .int .i64 a0_1] 28 (0, 0)) (by (with_reducible repeat (first | refine bkN ?_ _ | refine bkD ?_ | refine bkA ?_ _)); exact BK363.out)) : gb372 ≠ gb363))
      have n10_ := Aside0.mk ((by rw [hg]; exact Nat.ne_of_lt (blk_lt (g := gb364) (o := .cells #[.int .i64 a1_0, .int .i64 a1_1] 28 (0, 0)) (by (with_reducible repeat (first | refine bkN ?_ _ | refine bkD ?_ | refine bkA ?_ _)); exact BK364.out)) : gb364 ≠ gb372))
      have n11_ := Aside0.mk ((by rw [hg]; exact Nat.ne_of_gt (blk_lt (g := gb364) (o := .cells #[.int .i64 a1_0, .int .i64 a1_1] 28 (0, 0)) (by (with_reducible repeat (first | refine bkN ?_ _ | refine bkD ?_ | refine bkA ?_ _)); exact BK364.out)) : gb372 ≠ gb364))
      have n12_ := Aside0.mk ((by rw [hg]; exact Nat.ne_of_lt (blk_lt (g := gb365) (o := .cells #[.int .i64 a2_0, .int .i64 a2_1, .int .i64 a2_2, .int .i64 a2_3, .int .i64 a2_4] 47 (0, 0)) (by (with_reducible repeat (first | refine bkN ?_ _ | refine bkD ?_ | refine bkA ?_ _)); exact BK365.out)) : gb365 ≠ gb372))
      have n13_ := Aside0.mk ((by rw [hg]; exact Nat.ne_of_gt (blk_lt (g := gb365) (o := .cells #[.int .i64 a2_0, .int .i64 a2_1, .int .i64 a2_2, .int .i64 a2_3, .int .i64 a2_4] 47 (0, 0)) (by (with_reducible repeat (first | refine bkN ?_ _ | refine bkD ?_ | refine bkA ?_ _)); exact BK365.out)) : gb372 ≠ gb365))
      clear HO_21
      clear BK363
      clear BK364
      clear BK365
      clear HB
      have HO_21 := n0_
      have BK363 := n1_
      have BK364 := n2_
      have BK365 := n3_
      have HB := n4_
      have BK372 := n5_
      have GW372 := n6_
      have GE372 := n7_
      have NB363_372 := n8_
      have NB372_363 := n9_
      have NB364_372 := n10_
      have NB372_364 := n11_
      have NB365_372 := n12_
      have NB372_365 := n13_
      clear n0_ n1_ n2_ n3_ n4_ n5_ n6_ n7_ n8_ n9_ n10_ n11_ n12_ n13_
      clear hb hbox hg
      refine hK.out _ _ ⟨(bkC BK363.out 0).trans rfl, (bkC BK363.out 1).trans rfl, (bkC BK364.out 0).trans rfl, (bkC BK364.out 1).trans rfl⟩ (fun hHeld => ?_)
      clear hK K
      refine norm_ (a' := ?_) ?_ ?_
      rotate_left
      ·show Act.put _ (some 9) _ = _
       simp only [Act.put, List.setIfInBounds_toArray, List.set_cons_zero, List.set_cons_succ, i64_w, i32_w]
       rfl
      refine one_ (i := 15) (N := some 10) #[true, true, true, true, true, true, true, true, true, true, true, true, true, true, true, true, false, false] rfl rfl (one_of HT_.out (by kernel_rfl)) (by decide) (fun K hK => ?_)
      refine box_step ?hg (N := 10) ?hd (cs := #[.int .i64 0, .int .i64 0]) (t := 28) ?hr ?_; (case hd => rfl); (case hg => rfl); (case hr => first | (go_simp; done) | (go_simp; rfl))
      intro gb373 hg w51 hbox hb
      have n0_ := Aside0.mk (Kd.R_below (Kd.R_elderB (by (with_reducible repeat (first | apply Kd.R_alloc | apply Kd.R_drewN | apply Kd.R_drew)); exact HO_21.out) gb373 (Nat.le_of_eq hg.symm)) hb)
      have n1_ := Aside0.mk (bkB (g := gb363) (o := .cells #[.int .i64 a0_0, .int .i64 a0_1] 28 (0, 0)) (by (with_reducible repeat (first | refine bkN ?_ _ | refine bkD ?_ | refine bkA ?_ _)); exact BK363.out) hb)
      have n2_ := Aside0.mk (bkB (g := gb364) (o := .cells #[.int .i64 a1_0, .int .i64 a1_1] 28 (0, 0)) (by (with_reducible repeat (first | refine bkN ?_ _ | refine bkD ?_ | refine bkA ?_ _)); exact BK364.out) hb)
      have n3_ := Aside0.mk (bkB (g := gb365) (o := .cells #[.int .i64 a2_0, .int .i64 a2_1, .int .i64 a2_2, .int .i64 a2_3, .int .i64 a2_4] 47 (0, 0)) (by (with_reducible repeat (first | refine bkN ?_ _ | refine bkD ?_ | refine bkA ?_ _)); exact BK365.out) hb)
      have n4_ := Aside0.mk (bkB (g := gb372) (o := .cells #[.int .i64 0, .int .i64 0] 28 (0, 0)) (by (with_reducible repeat (first | refine bkN ?_ _ | refine bkD ?_ | refine bkA ?_ _)); exact BK372.out) hb)
      have n5_ := Aside0.mk (below_step (by repeat (first | (with_reducible first | exact HB.out | apply blA | apply blN | apply blD | refine blS ?_ GE363.out | refine blS ?_ GE364.out | refine blS ?_ GE365.out | refine blS ?_ GE372.out) | exact HB.out)) hb)
      have n6_ := Aside0.mk (hbox)
      have n7_ := Aside0.mk ((by rw [hg]; exact (below_size (by repeat (first | (with_reducible first | exact HB.out | apply blA | apply blN | apply blD | refine blS ?_ GE363.out | refine blS ?_ GE364.out | refine blS ?_ GE365.out | refine blS ?_ GE372.out) | exact HB.out))) : w.heap.size ≤ gb373))
      have n8_ := Aside0.mk ((by rw [hg]; exact (below_size (by repeat (first | (with_reducible first | exact HB.out | apply blA | apply blN | apply blD | refine blS ?_ GE363.out | refine blS ?_ GE364.out | refine blS ?_ GE365.out | refine blS ?_ GE372.out) | exact HB.out))) : w.heap.size ≤ gb373))
      have n9_ := Aside0.mk ((by rw [hg]; exact Nat.ne_of_lt (blk_lt (g := gb363) (o := .cells #[.int .i64 a0_0, .int .i64 a0_1] 28 (0, 0)) (by (with_reducible repeat (first | refine bkN ?_ _ | refine bkD ?_ | refine bkA ?_ _)); exact BK363.out)) : gb363 ≠ gb373))
      have n10_ := Aside0.mk ((by rw [hg]; exact Nat.ne_of_gt (blk_lt (g := gb363) (o := .cells #[.int .i64 a0_0, .int .i64 a0_1] 28 (0, 0)) (by (with_reducible repeat (first | refine bkN ?_ _ | refine bkD ?_ | refine bkA ?_ _)); exact BK363.out)) : gb373 ≠ gb363))
      have n11_ := Aside0.mk ((by rw [hg]; exact Nat.ne_of_lt (blk_lt (g := gb364) (o := .cells #[.int .i64 a1_0, .int .i64 a1_1] 28 (0, 0)) (by (with_reducible repeat (first | refine bkN ?_ _ | refine bkD ?_ | refine bkA ?_ _)); exact BK364.out)) : gb364 ≠ gb373))
      have n12_ := Aside0.mk ((by rw [hg]; exact Nat.ne_of_gt (blk_lt (g := gb364) (o := .cells #[.int .i64 a1_0, .int .i64 a1_1] 28 (0, 0)) (by (with_reducible repeat (first | refine bkN ?_ _ | refine bkD ?_ | refine bkA ?_ _)); exact BK364.out)) : gb373 ≠ gb364))
      have n13_ := Aside0.mk ((by rw [hg]; exact Nat.ne_of_lt (blk_lt (g := gb365) (o := .cells #[.int .i64 a2_0, .int .i64 a2_1, .int .i64 a2_2, .int .i64 a2_3, .int .i64 a2_4] 47 (0, 0)) (by (with_reducible repeat (first | refine bkN ?_ _ | refine bkD ?_ | refine bkA ?_ _)); exact BK365.out)) : gb365 ≠ gb373))
      have n14_ := Aside0.mk ((by rw [hg]; exact Nat.ne_of_gt (blk_lt (g := gb365) (o := .cells #[.int .i64 a2_0, .int .i64 a2_1, .int .i64 a2_2, .int .i64 a2_3, .int .i64 a2_4] 47 (0, 0)) (by (with_reducible repeat (first | refine bkN ?_ _ | refine bkD ?_ | refine bkA ?_ _)); exact BK365.out)) : gb373 ≠ gb365))
      have n15_ := Aside0.mk ((by rw [hg]; exact Nat.ne_of_lt (blk_lt (g := gb372) (o := .cells #[.int .i64 0, .int .i64 0] 28 (0, 0)) (by (with_reducible repeat (first | refine bkN ?_ _ | refine bkD ?_ | refine bkA ?_ _)); exact BK372.out)) : gb372 ≠ gb373))
      have n16_ := Aside0.mk ((by rw [hg]; exact Nat.ne_of_gt (blk_lt (g := gb372) (o := .cells #[.int .i64 0, .int .i64 0] 28 (0, 0)) (by (with_reducible repeat (first | refine bkN ?_ _ | refine bkD ?_ | refine bkA ?_ _)); exact BK372.out)) : gb373 ≠ gb372))
      clear HO_21
      clear BK363
      clear BK364
      clear BK365
      clear BK372
      clear HB
      have HO_21 := n0_
      have BK363 := n1_
      have BK364 := n2_
      have BK365 := n3_
      have BK372 := n4_
      have HB := n5_
      have BK373 := n6_
      have GW373 := n7_
      have GE373 := n8_
      have NB363_373 := n9_
      have NB373_363 := n10_
      have NB364_373 := n11_
      have NB373_364 := n12_
      have NB365_373 := n13_
      have NB373_365 := n14_
      have NB372_373 := n15_
      have NB373_372 := n16_
      clear n0_ n1_ n2_ n3_ n4_ n5_ n6_ n7_ n8_ n9_ n10_ n11_ n12_ n13_ n14_ n15_ n16_
      clear hb hbox hg
      refine hK.out _ _ ⟨(bkC BK363.out 0).trans rfl, (bkC BK363.out 1).trans rfl, (bkC BK364.out 0).trans rfl, (bkC BK364.out 1).trans rfl⟩ (fun hHeld => ?_)
      clear hK K
      refine norm_ (a' := ?_) ?_ ?_
      rotate_left
      ·show Act.put _ (some 10) _ = _
       simp only [Act.put, List.setIfInBounds_toArray, List.set_cons_zero, List.set_cons_succ, i64_w, i32_w]
       rfl
      exact norm_ (by simp only [putAll, Act.put, List.setIfInBounds_toArray, List.set_cons_zero, List.set_cons_succ]) (hCont (gb372, gb373) _ ⟨hHeld, (by (with_reducible repeat (first | apply Kd.R_alloc | apply Kd.R_drewN | apply Kd.R_drew)); exact Kd.R_mono HO_21.out (fun _ hk => ⟨hk.1.1.1, ⟨hk.1.1.2, ⟨hk.1.2, hk.2⟩⟩⟩)), (by (with_reducible repeat (first | refine bkN ?_ _ | refine bkD ?_ | refine bkA ?_ _)); exact BK363.out), (by (with_reducible repeat (first | refine bkN ?_ _ | refine bkD ?_ | refine bkA ?_ _)); exact BK364.out), (by (with_reducible repeat (first | refine bkN ?_ _ | refine bkD ?_ | refine bkA ?_ _)); exact BK365.out), (by (with_reducible repeat (first | refine bkN ?_ _ | refine bkD ?_ | refine bkA ?_ _)); exact BK372.out), (by (with_reducible repeat (first | refine bkN ?_ _ | refine bkD ?_ | refine bkA ?_ _)); exact BK373.out), GW372.out, GE372.out, NB363_372.out, NB372_363.out, NB364_372.out, NB372_364.out, NB365_372.out, NB372_365.out, NB373_372.out, NB372_373.out, GW373.out, GE373.out, NB363_373.out, NB373_363.out, NB364_373.out, NB373_364.out, NB365_373.out, NB373_365.out, (by repeat (first | (with_reducible first | exact HB.out | apply blA | apply blN | apply blD | refine blS ?_ GE363.out | refine blS ?_ GE364.out | refine blS ?_ GE365.out | refine blS ?_ GE372.out | refine blS ?_ GE373.out) | exact HB.out))⟩)
     rintro ⟨gb372, gb373⟩ w52 ⟨hS_, h0_, h1_, h2_, h3_, h4_, h5_, h6_, h7_, h8_, h9_, h10_, h11_, h12_, h13_, h14_, h15_, h16_, h17_, h18_, h19_, h20_, h21_, h22_, h23_, h24_⟩
     have n0_ : Aside0 (Kd.R k28 28 w52 w.heap.size (fun k_ => k_ ≠ gb363 ∧ k_ ≠ gb364 ∧ k_ ≠ gb372 ∧ k_ ≠ gb373) (.slice Ao18 y367.length co18) y367) := ⟨h0_⟩
     have n1_ : Aside0 (w52.heap[gb363]? = some (.cells #[.int .i64 a0_0, .int .i64 a0_1] 28 (0, 0))) := ⟨h1_⟩
     have n2_ : Aside0 (w52.heap[gb364]? = some (.cells #[.int .i64 a1_0, .int .i64 a1_1] 28 (0, 0))) := ⟨h2_⟩
     have n3_ : Aside0 (w52.heap[gb365]? = some (.cells #[.int .i64 a2_0, .int .i64 a2_1, .int .i64 a2_2, .int .i64 a2_3, .int .i64 a2_4] 47 (0, 0))) := ⟨h3_⟩
     have n4_ : Aside0 (w52.heap[gb372]? = some (.cells #[.int .i64 0, .int .i64 0] 28 (0, 0))) := ⟨h4_⟩
     have n5_ : Aside0 (w52.heap[gb373]? = some (.cells #[.int .i64 0, .int .i64 0] 28 (0, 0))) := ⟨h5_⟩
     have n6_ : Aside0 (w.heap.size ≤ gb372) := ⟨h6_⟩
     have n7_ : Aside0 (w.heap.size ≤ gb372) := ⟨h7_⟩
     have n8_ : Aside0 (gb363 ≠ gb372) := ⟨h8_⟩
     have n9_ : Aside0 (gb372 ≠ gb363) := ⟨h9_⟩
     have n10_ : Aside0 (gb364 ≠ gb372) := ⟨h10_⟩
     have n11_ : Aside0 (gb372 ≠ gb364) := ⟨h11_⟩
     have n12_ : Aside0 (gb365 ≠ gb372) := ⟨h12_⟩
     have n13_ : Aside0 (gb372 ≠ gb365) := ⟨h13_⟩
     have n14_ : Aside0 (gb373 ≠ gb372) := ⟨h14_⟩
     have n15_ : Aside0 (gb372 ≠ gb373) := ⟨h15_⟩
     have n16_ : Aside0 (w.heap.size ≤ gb373) := ⟨h16_⟩
     have n17_ : Aside0 (w.heap.size ≤ gb373) := ⟨h17_⟩
     have n18_ : Aside0 (gb363 ≠ gb373) := ⟨h18_⟩
     have n19_ : Aside0 (gb373 ≠ gb363) := ⟨h19_⟩
     have n20_ : Aside0 (gb364 ≠ gb373) := ⟨h20_⟩
     have n21_ : Aside0 (gb373 ≠ gb364) := ⟨h21_⟩
     have n22_ : Aside0 (gb365 ≠ gb373) := ⟨h22_⟩
     have n23_ : Aside0 (gb373 ≠ gb365) := ⟨h23_⟩
     have n24_ : Aside0 (Below w.heap.size w w52) := ⟨h24_⟩
     clear HO_21
     clear BK363
     clear BK364
     clear BK365
     clear HB
     clear h0_ h1_ h2_ h3_ h4_ h5_ h6_ h7_ h8_ h9_ h10_ h11_ h12_ h13_ h14_ h15_ h16_ h17_ h18_ h19_ h20_ h21_ h22_ h23_ h24_
     have HO_21 := n0_
     have BK363 := n1_
     have BK364 := n2_
     have BK365 := n3_
     have BK372 := n4_
     have BK373 := n5_
     have GW372 := n6_
     have GE372 := n7_
     have NB363_372 := n8_
     have NB372_363 := n9_
     have NB364_372 := n10_
     have NB372_364 := n11_
     have NB365_372 := n12_
     have NB372_365 := n13_
     have NB373_372 := n14_
     have NB372_373 := n15_
     have GW373 := n16_
     have GE373 := n17_
     have NB363_373 := n18_
     have NB373_363 := n19_
     have NB364_373 := n20_
     have NB373_364 := n21_
     have NB365_373 := n22_
     have NB373_365 := n23_
     have HB := n24_
     clear n0_ n1_ n2_ n3_ n4_ n5_ n6_ n7_ n8_ n9_ n10_ n11_ n12_ n13_ n14_ n15_ n16_ n17_ n18_ n19_ n20_ n21_ n22_ n23_ n24_
     have hHeld : w52.cell? ⟨gb363, 0, none⟩ = some (.int .i64 a0_0) ∧ w52.cell? ⟨gb363, 1, none⟩ = some (.int .i64 a0_1) ∧ w52.cell? ⟨gb364, 0, none⟩ = some (.int .i64 a1_0) ∧ w52.cell? ⟨gb364, 1, none⟩ = some (.int .i64 a1_1) := hS_
     refine norm_ (a' := ?_) ?_ ?_
     rotate_left
     ·simp only [putAll, Act.put, List.setIfInBounds_toArray, List.set_cons_zero, List.set_cons_succ]
      rfl
     refine one_ (i := 16) (N := none) #[true, true, true, true, true, true, true, true, true, true, true, true, true, true, true, true, true, false] rfl rfl (one_of HT_.out (by kernel_rfl)) (by decide) (fun K hK => ?_)
     have hs53 : w52.cell? ⟨gb372, 0, none⟩ = some (.int .i64 0) := (bkC BK372.out 0).trans rfl
     have hfs53 := bkF BK372.out 0
     have hns53_0 := NB363_372.out
     have hns53_1 := NB364_372.out
     have hns53_2 := NB365_372.out
     have hns53_4 := NB373_372.out
     have hms53_0 := NB372_363.out
     have hms53_1 := NB372_364.out
     have hms53_2 := NB372_365.out
     have hms53_4 := NB372_373.out
     have hs54 : w52.cell? ⟨gb372, 1, none⟩ = some (.int .i64 0) := (bkC BK372.out 1).trans rfl
     have hfs54 := bkF BK372.out 1
     have hns54_0 := NB363_372.out
     have hns54_1 := NB364_372.out
     have hns54_2 := NB365_372.out
     have hns54_4 := NB373_372.out
     have hms54_0 := NB372_363.out
     have hms54_1 := NB372_364.out
     have hms54_2 := NB372_365.out
     have hms54_4 := NB372_373.out
     refine skip_ (w1 := ?_) (by rfl) rfl ?_ ?_
     rotate_left
     ·go_simp
      rfl
     refine hK.out _ _ ⟨((cell_far (p := ⟨gb372, _, none⟩) NB363_372.out _).trans (((cell_far (p := ⟨gb372, _, none⟩) NB363_372.out _).trans (hHeld.1)))), ((cell_far (p := ⟨gb372, _, none⟩) NB363_372.out _).trans (((cell_far (p := ⟨gb372, _, none⟩) NB363_372.out _).trans (hHeld.2.1)))), ((cell_far (p := ⟨gb372, _, none⟩) NB364_372.out _).trans (((cell_far (p := ⟨gb372, _, none⟩) NB364_372.out _).trans (hHeld.2.2.1)))), ((cell_far (p := ⟨gb372, _, none⟩) NB364_372.out _).trans (((cell_far (p := ⟨gb372, _, none⟩) NB364_372.out _).trans (hHeld.2.2.2))))⟩ (fun hHeld => ?_)
     clear hK K
     refine one_ (i := 17) (N := none) #[true, true, true, true, true, true, true, true, true, true, true, true, true, true, true, true, true, true] rfl rfl (one_of HT_.out (by kernel_rfl)) (by decide) (fun K hK => ?_)
     have hs55 : w52.cell? ⟨gb373, 0, none⟩ = some (.int .i64 0) := (bkC BK373.out 0).trans rfl
     have hfs55 := bkF BK373.out 0
     have hns55_0 := NB363_373.out
     have hns55_1 := NB364_373.out
     have hns55_2 := NB365_373.out
     have hns55_3 := NB372_373.out
     have hms55_0 := NB373_363.out
     have hms55_1 := NB373_364.out
     have hms55_2 := NB373_365.out
     have hms55_3 := NB373_372.out
     have hs56 : w52.cell? ⟨gb373, 1, none⟩ = some (.int .i64 0) := (bkC BK373.out 1).trans rfl
     have hfs56 := bkF BK373.out 1
     have hns56_0 := NB363_373.out
     have hns56_1 := NB364_373.out
     have hns56_2 := NB365_373.out
     have hns56_3 := NB372_373.out
     have hms56_0 := NB373_363.out
     have hms56_1 := NB373_364.out
     have hms56_2 := NB373_365.out
     have hms56_3 := NB373_372.out
     refine skip_ (w1 := ?_) (by rfl) rfl ?_ ?_
     rotate_left
     ·go_simp
      rfl
     refine hK.out _ _ ⟨((cell_far (p := ⟨gb373, _, none⟩) NB363_373.out _).trans (((cell_far (p := ⟨gb373, _, none⟩) NB363_373.out _).trans (hHeld.1)))), ((cell_far (p := ⟨gb373, _, none⟩) NB363_373.out _).trans (((cell_far (p := ⟨gb373, _, none⟩) NB363_373.out _).trans (hHeld.2.1)))), ((cell_far (p := ⟨gb373, _, none⟩) NB364_373.out _).trans (((cell_far (p := ⟨gb373, _, none⟩) NB364_373.out _).trans (hHeld.2.2.1)))), ((cell_far (p := ⟨gb373, _, none⟩) NB364_373.out _).trans (((cell_far (p := ⟨gb373, _, none⟩) NB364_373.out _).trans (hHeld.2.2.2))))⟩ (fun hHeld => ?_)
     clear hK K
     refine done_ (done_of HT_.out (by kernel_rfl)) ?_
     have hnb57 := NB363_364.out
     have hnc57 := NB364_363.out
     have hnb58 := NB363_365.out
     have hnc58 := NB365_363.out
     have hnb59 := NB363_372.out
     have hnc59 := NB372_363.out
     have hnb60 := NB363_373.out
     have hnc60 := NB373_363.out
     have hcz61_0 : w52.cell? ⟨gb363, 0, none⟩ = some (.int .i64 a0_0) := (bkC BK363.out 0).trans rfl
     have hcz61_1 : w52.cell? ⟨gb363, 1, none⟩ = some (.int .i64 a0_1) := (bkC BK363.out 1).trans rfl
     have hfz61_0 := bkF BK363.out 0
     have hfz61_1 := bkF BK363.out 1
     have hnb62 := NB364_365.out
     have hnc62 := NB365_364.out
     have hnb63 := NB364_372.out
     have hnc63 := NB372_364.out
     have hnb64 := NB364_373.out
     have hnc64 := NB373_364.out
     have hcz65_0 : w52.cell? ⟨gb364, 0, none⟩ = some (.int .i64 a1_0) := (bkC BK364.out 0).trans rfl
     have hcz65_1 : w52.cell? ⟨gb364, 1, none⟩ = some (.int .i64 a1_1) := (bkC BK364.out 1).trans rfl
     have hfz65_0 := bkF BK364.out 0
     have hfz65_1 := bkF BK364.out 1
     go_upto_region 11 with (first | ((with_reducible refine gate_dst (N := 11) rfl ?_); refine box_event ?hg (N := 11) ?hd (cs := #[.int .i64 0, .int .i64 0]) (t := 28) ?hr ?_; (case hd => rfl); (case hg => rfl); (case hr => first | (go_simp; done) | (go_simp; rfl)); intro gb374 hg w66 hbox hb; have n0_ := Aside0.mk (Kd.R_below (Kd.R_elderB (by (with_reducible repeat (first | apply Kd.R_alloc | apply Kd.R_drewN | apply Kd.R_drew)); exact (Kd.R_mono (Kd.R_mono (Kd.R_far (p := ⟨gb373, 1, none⟩) (Kd.R_far (p := ⟨gb373, 0, none⟩) (Kd.R_far (p := ⟨gb372, 1, none⟩) (Kd.R_far (p := ⟨gb372, 0, none⟩) (Kd.R_mono (Kd.R_mono HO_21.out (fun k_ hk => (⟨hk, hk.2.2.1⟩ : _ ∧ k_ ≠ gb372))) (fun k_ hk => (⟨hk, hk.1.2.2.2⟩ : _ ∧ k_ ≠ gb373))) (fun _ hk => hk.1.2) (.int .i64 (wrap64 (2 * a0_0)))) (fun _ hk => hk.1.2) (.int .i64 (wrap64 (2 * a0_1)))) (fun _ hk => hk.2) (.int .i64 (wrap64 (2 * a1_0)))) (fun _ hk => hk.2) (.int .i64 (wrap64 (2 * a1_1)))) (fun _ h_ => h_.1)) (fun _ h_ => h_.1))) gb374 (Nat.le_of_eq hg.symm)) hb); have n1_ := Aside0.mk (bkB (g := gb363) (o := .cells #[.int .i64 a0_0, .int .i64 a0_1] 28 (0, 0)) (by (with_reducible repeat (first | refine bkN ?_ _ | refine bkD ?_ | refine bkA ?_ _)); refine blk_far ?_ NB363_373.out _; (with_reducible repeat (first | refine bkN ?_ _ | refine bkD ?_ | refine bkA ?_ _)); refine blk_far ?_ NB363_373.out _; (with_reducible repeat (first | refine bkN ?_ _ | refine bkD ?_ | refine bkA ?_ _)); refine blk_far ?_ NB363_372.out _; (with_reducible repeat (first | refine bkN ?_ _ | refine bkD ?_ | refine bkA ?_ _)); refine blk_far ?_ NB363_372.out _; (with_reducible repeat (first | refine bkN ?_ _ | refine bkD ?_ | refine bkA ?_ _)); exact BK363.out) hb); have n2_ := Aside0.mk (bkB (g := gb364) (o := .cells #[.int .i64 a1_0, .int .i64 a1_1] 28 (0, 0)) (by (with_reducible repeat (first | refine bkN ?_ _ | refine bkD ?_ | refine bkA ?_ _)); refine blk_far ?_ NB364_373.out _; (with_reducible repeat (first | refine bkN ?_ _ | refine bkD ?_ | refine bkA ?_ _)); refine blk_far ?_ NB364_373.out _; (with_reducible repeat (first | refine bkN ?_ _ | refine bkD ?_ | refine bkA ?_ _)); refine blk_far ?_ NB364_372.out _; (with_reducible repeat (first | refine bkN ?_ _ | refine bkD ?_ | refine bkA ?_ _)); refine blk_far ?_ NB364_372.out _; (with_reducible repeat (first | refine bkN ?_ _ | refine bkD ?_ | refine bkA ?_ _)); exact BK364.out) hb); have n3_ := Aside0.mk (bkB (g := gb365) (o := .cells #[.int .i64 a2_0, .int .i64 a2_1, .int .i64 a2_2, .int .i64 a2_3, .int .i64 a2_4] 47 (0, 0)) (by (with_reducible repeat (first | refine bkN ?_ _ | refine bkD ?_ | refine bkA ?_ _)); refine blk_far ?_ NB365_373.out _; (with_reducible repeat (first | refine bkN ?_ _ | refine bkD ?_ | refine bkA ?_ _)); refine blk_far ?_ NB365_373.out _; (with_reducible repeat (first | refine bkN ?_ _ | refine bkD ?_ | refine bkA ?_ _)); refine blk_far ?_ NB365_372.out _; (with_reducible repeat (first | refine bkN ?_ _ | refine bkD ?_ | refine bkA ?_ _)); refine blk_far ?_ NB365_372.out _; (with_reducible repeat (first | refine bkN ?_ _ | refine bkD ?_ | refine bkA ?_ _)); exact BK365.out) hb); have n4_ := Aside0.mk (bkB (g := gb372) (o := .cells #[.int .i64 (wrap64 (2 * a0_0)), .int .i64 (wrap64 (2 * a0_1))] 28 (0, 0)) (by (with_reducible repeat (first | refine bkN ?_ _ | refine bkD ?_ | refine bkA ?_ _)); refine blk_far ?_ NB372_373.out _; (with_reducible repeat (first | refine bkN ?_ _ | refine bkD ?_ | refine bkA ?_ _)); refine blk_far ?_ NB372_373.out _; (with_reducible repeat (first | refine bkN ?_ _ | refine bkD ?_ | refine bkA ?_ _)); refine blk_put (cs := #[.int .i64 (wrap64 (2 * a0_0)), .int .i64 0]) ?_ 1 _ rfl; (with_reducible repeat (first | refine bkN ?_ _ | refine bkD ?_ | refine bkA ?_ _)); refine blk_put (cs := #[.int .i64 0, .int .i64 0]) ?_ 0 _ rfl; (with_reducible repeat (first | refine bkN ?_ _ | refine bkD ?_ | refine bkA ?_ _)); exact BK372.out) hb); have n5_ := Aside0.mk (bkB (g := gb373) (o := .cells #[.int .i64 (wrap64 (2 * a1_0)), .int .i64 (wrap64 (2 * a1_1))] 28 (0, 0)) (by (with_reducible repeat (first | refine bkN ?_ _ | refine bkD ?_ | refine bkA ?_ _)); refine blk_put (cs := #[.int .i64 (wrap64 (2 * a1_0)), .int .i64 0]) ?_ 1 _ rfl; (with_reducible repeat (first | refine bkN ?_ _ | refine bkD ?_ | refine bkA ?_ _)); refine blk_put (cs := #[.int .i64 0, .int .i64 0]) ?_ 0 _ rfl; (with_reducible repeat (first | refine bkN ?_ _ | refine bkD ?_ | refine bkA ?_ _)); refine blk_far ?_ NB373_372.out _; (with_reducible repeat (first | refine bkN ?_ _ | refine bkD ?_ | refine bkA ?_ _)); refine blk_far ?_ NB373_372.out _; (with_reducible repeat (first | refine bkN ?_ _ | refine bkD ?_ | refine bkA ?_ _)); exact BK373.out) hb); have n6_ := Aside0.mk (below_step (by repeat (first | (with_reducible first | exact HB.out | apply blA | apply blN | apply blD | refine blS ?_ GE363.out | refine blS ?_ GE364.out | refine blS ?_ GE365.out | refine blS ?_ GE372.out | refine blS ?_ GE373.out) | exact HB.out)) hb); have n7_ := Aside0.mk (hbox); have n8_ := Aside0.mk ((by rw [hg]; exact (below_size (by repeat (first | (with_reducible first | exact HB.out | apply blA | apply blN | apply blD | refine blS ?_ GE363.out | refine blS ?_ GE364.out | refine blS ?_ GE365.out | refine blS ?_ GE372.out | refine blS ?_ GE373.out) | exact HB.out))) : w.heap.size ≤ gb374)); have n9_ := Aside0.mk ((by rw [hg]; exact (below_size (by repeat (first | (with_reducible first | exact HB.out | apply blA | apply blN | apply blD | refine blS ?_ GE363.out | refine blS ?_ GE364.out | refine blS ?_ GE365.out | refine blS ?_ GE372.out | refine blS ?_ GE373.out) | exact HB.out))) : w.heap.size ≤ gb374)); have n10_ := Aside0.mk ((by rw [hg]; exact Nat.ne_of_lt (blk_lt (g := gb363) (o := .cells #[.int .i64 a0_0, .int .i64 a0_1] 28 (0, 0)) (by (with_reducible repeat (first | refine bkN ?_ _ | refine bkD ?_ | refine bkA ?_ _)); refine blk_far ?_ NB363_373.out _; (with_reducible repeat (first | refine bkN ?_ _ | refine bkD ?_ | refine bkA ?_ _)); refine blk_far ?_ NB363_373.out _; (with_reducible repeat (first | refine bkN ?_ _ | refine bkD ?_ | refine bkA ?_ _)); refine blk_far ?_ NB363_372.out _; (with_reducible repeat (first | refine bkN ?_ _ | refine bkD ?_ | refine bkA ?_ _)); refine blk_far ?_ NB363_372.out _; (with_reducible repeat (first | refine bkN ?_ _ | refine bkD ?_ | refine bkA ?_ _)); exact BK363.out)) : gb363 ≠ gb374)); have n11_ := Aside0.mk ((by rw [hg]; exact Nat.ne_of_gt (blk_lt (g := gb363) (o := .cells #[.int .i64 a0_0, .int .i64 a0_1] 28 (0, 0)) (by (with_reducible repeat (first | refine bkN ?_ _ | refine bkD ?_ | refine bkA ?_ _)); refine blk_far ?_ NB363_373.out _; (with_reducible repeat (first | refine bkN ?_ _ | refine bkD ?_ | refine bkA ?_ _)); refine blk_far ?_ NB363_373.out _; (with_reducible repeat (first | refine bkN ?_ _ | refine bkD ?_ | refine bkA ?_ _)); refine blk_far ?_ NB363_372.out _; (with_reducible repeat (first | refine bkN ?_ _ | refine bkD ?_ | refine bkA ?_ _)); refine blk_far ?_ NB363_372.out _; (with_reducible repeat (first | refine bkN ?_ _ | refine bkD ?_ | refine bkA ?_ _)); exact BK363.out)) : gb374 ≠ gb363)); have n12_ := Aside0.mk ((by rw [hg]; exact Nat.ne_of_lt (blk_lt (g := gb364) (o := .cells #[.int .i64 a1_0, .int .i64 a1_1] 28 (0, 0)) (by (with_reducible repeat (first | refine bkN ?_ _ | refine bkD ?_ | refine bkA ?_ _)); refine blk_far ?_ NB364_373.out _; (with_reducible repeat (first | refine bkN ?_ _ | refine bkD ?_ | refine bkA ?_ _)); refine blk_far ?_ NB364_373.out _; (with_reducible repeat (first | refine bkN ?_ _ | refine bkD ?_ | refine bkA ?_ _)); refine blk_far ?_ NB364_372.out _; (with_reducible repeat (first | refine bkN ?_ _ | refine bkD ?_ | refine bkA ?_ _)); refine blk_far ?_ NB364_372.out _; (with_reducible repeat (first | refine bkN ?_ _ | refine bkD ?_ | refine bkA ?_ _)); exact BK364.out)) : gb364 ≠ gb374)); have n13_ := Aside0.mk ((by rw [hg]; exact Nat.ne_of_gt (blk_lt (g := gb364) (o := .cells #[.int .i64 a1_0, .int .i64 a1_1] 28 (0, 0)) (by (with_reducible repeat (first | refine bkN ?_ _ | refine bkD ?_ | refine bkA ?_ _)); refine blk_far ?_ NB364_373.out _; (with_reducible repeat (first | refine bkN ?_ _ | refine bkD ?_ | refine bkA ?_ _)); refine blk_far ?_ NB364_373.out _; (with_reducible repeat (first | refine bkN ?_ _ | refine bkD ?_ | refine bkA ?_ _)); refine blk_far ?_ NB364_372.out _; (with_reducible repeat (first | refine bkN ?_ _ | refine bkD ?_ | refine bkA ?_ _)); refine blk_far ?_ NB364_372.out _; (with_reducible repeat (first | refine bkN ?_ _ | refine bkD ?_ | refine bkA ?_ _)); exact BK364.out)) : gb374 ≠ gb364)); have n14_ := Aside0.mk ((by rw [hg]; exact Nat.ne_of_lt (blk_lt (g := gb365) (o := .cells #[.int .i64 a2_0, .int .i64 a2_1, .int .i64 a2_2, .int .i64 a2_3, .int .i64 a2_4] 47 (0, 0)) (by (with_reducible repeat (first | refine bkN ?_ _ | refine bkD ?_ | refine bkA ?_ _)); refine blk_far ?_ NB365_373.out _; (with_reducible repeat (first | refine bkN ?_ _ | refine bkD ?_ | refine bkA ?_ _)); refine blk_far ?_ NB365_373.out _; (with_reducible repeat (first | refine bkN ?_ _ | refine bkD ?_ | refine bkA ?_ _)); refine blk_far ?_ NB365_372.out _; (with_reducible repeat (first | refine bkN ?_ _ | refine bkD ?_ | refine bkA ?_ _)); refine blk_far ?_ NB365_372.out _; (with_reducible repeat (first | refine bkN ?_ _ | refine bkD ?_ | refine bkA ?_ _)); exact BK365.out)) : gb365 ≠ gb374)); have n15_ := Aside0.mk ((by rw [hg]; exact Nat.ne_of_gt (blk_lt (g := gb365) (o := .cells #[.int .i64 a2_0, .int .i64 a2_1, .int .i64 a2_2, .int .i64 a2_3, .int .i64 a2_4] 47 (0, 0)) (by (with_reducible repeat (first | refine bkN ?_ _ | refine bkD ?_ | refine bkA ?_ _)); refine blk_far ?_ NB365_373.out _; (with_reducible repeat (first | refine bkN ?_ _ | refine bkD ?_ | refine bkA ?_ _)); refine blk_far ?_ NB365_373.out _; (with_reducible repeat (first | refine bkN ?_ _ | refine bkD ?_ | refine bkA ?_ _)); refine blk_far ?_ NB365_372.out _; (with_reducible repeat (first | refine bkN ?_ _ | refine bkD ?_ | refine bkA ?_ _)); refine blk_far ?_ NB365_372.out _; (with_reducible repeat (first | refine bkN ?_ _ | refine bkD ?_ | refine bkA ?_ _)); exact BK365.out)) : gb374 ≠ gb365)); have n16_ := Aside0.mk ((by rw [hg]; exact Nat.ne_of_lt (blk_lt (g := gb372) (o := .cells #[.int .i64 (wrap64 (2 * a0_0)), .int .i64 (wrap64 (2 * a0_1))] 28 (0, 0)) (by (with_reducible repeat (first | refine bkN ?_ _ | refine bkD ?_ | refine bkA ?_ _)); refine blk_far ?_ NB372_373.out _; (with_reducible repeat (first | refine bkN ?_ _ | refine bkD ?_ | refine bkA ?_ _)); refine blk_far ?_ NB372_373.out _; (with_reducible repeat (first | refine bkN ?_ _ | refine bkD ?_ | refine bkA ?_ _)); refine blk_put (cs := #[.int .i64 (wrap64 (2 * a0_0)), .int .i64 0]) ?_ 1 _ rfl; (with_reducible repeat (first | refine bkN ?_ _ | refine bkD ?_ | refine bkA ?_ _)); refine blk_put (cs := #[.int .i64 0, .int .i64 0]) ?_ 0 _ rfl; (with_reducible repeat (first | refine bkN ?_ _ | refine bkD ?_ | refine bkA ?_ _)); exact BK372.out)) : gb372 ≠ gb374)); have n17_ := Aside0.mk ((by rw [hg]; exact Nat.ne_of_gt (blk_lt (g := gb372) (o := .cells #[.int .i64 (wrap64 (2 * a0_0)), .int .i64 (wrap64 (2 * a0_1))] 28 (0, 0)) (by (with_reducible repeat (first | refine bkN ?_ _ | refine bkD ?_ | refine bkA ?_ _)); refine blk_far ?_ NB372_373.out _; (with_reducible repeat (first | refine bkN ?_ _ | refine bkD ?_ | refine bkA ?_ _)); refine blk_far ?_ NB372_373.out _; (with_reducible repeat (first | refine bkN ?_ _ | refine bkD ?_ | refine bkA ?_ _)); refine blk_put (cs := #[.int .i64 (wrap64 (2 * a0_0)), .int .i64 0]) ?_ 1 _ rfl; (with_reducible repeat (first | refine bkN ?_ _ | refine bkD ?_ | refine bkA ?_ _)); refine blk_put (cs := #[.int .i64 0, .int .i64 0]) ?_ 0 _ rfl; (with_reducible repeat (first | refine bkN ?_ _ | refine bkD ?_ | refine bkA ?_ _)); exact BK372.out)) : gb374 ≠ gb372)); have n18_ := Aside0.mk ((by rw [hg]; exact Nat.ne_of_lt (blk_lt (g := gb373) (o := .cells #[.int .i64 (wrap64 (2 * a1_0)), .int .i64 (wrap64 (2 * a1_1))] 28 (0, 0)) (by (with_reducible repeat (first | refine bkN ?_ _ | refine bkD ?_ | refine bkA ?_ _)); refine blk_put (cs := #[.int .i64 (wrap64 (2 * a1_0)), .int .i64 0]) ?_ 1 _ rfl; (with_reducible repeat (first | refine bkN ?_ _ | refine bkD ?_ | refine bkA ?_ _)); refine blk_put (cs := #[.int .i64 0, .int .i64 0]) ?_ 0 _ rfl; (with_reducible repeat (first | refine bkN ?_ _ | refine bkD ?_ | refine bkA ?_ _)); refine blk_far ?_ NB373_372.out _; (with_reducible repeat (first | refine bkN ?_ _ | refine bkD ?_ | refine bkA ?_ _)); refine blk_far ?_ NB373_372.out _; (with_reducible repeat (first | refine bkN ?_ _ | refine bkD ?_ | refine bkA ?_ _)); exact BK373.out)) : gb373 ≠ gb374)); have n19_ := Aside0.mk ((by rw [hg]; exact Nat.ne_of_gt (blk_lt (g := gb373) (o := .cells #[.int .i64 (wrap64 (2 * a1_0)), .int .i64 (wrap64 (2 * a1_1))] 28 (0, 0)) (by (with_reducible repeat (first | refine bkN ?_ _ | refine bkD ?_ | refine bkA ?_ _)); refine blk_put (cs := #[.int .i64 (wrap64 (2 * a1_0)), .int .i64 0]) ?_ 1 _ rfl; (with_reducible repeat (first | refine bkN ?_ _ | refine bkD ?_ | refine bkA ?_ _)); refine blk_put (cs := #[.int .i64 0, .int .i64 0]) ?_ 0 _ rfl; (with_reducible repeat (first | refine bkN ?_ _ | refine bkD ?_ | refine bkA ?_ _)); refine blk_far ?_ NB373_372.out _; (with_reducible repeat (first | refine bkN ?_ _ | refine bkD ?_ | refine bkA ?_ _)); refine blk_far ?_ NB373_372.out _; (with_reducible repeat (first | refine bkN ?_ _ | refine bkD ?_ | refine bkA ?_ _)); exact BK373.out)) : gb374 ≠ gb373)); clear HO_21; clear BK363; clear BK364; clear BK365; clear BK372; clear BK373; clear HB; have HO_21 := n0_; have BK363 := n1_; have BK364 := n2_; have BK365 := n3_; have BK372 := n4_; have BK373 := n5_; have HB := n6_; have BK374 := n7_; have GW374 := n8_; have GE374 := n9_; have NB363_374 := n10_; have NB374_363 := n11_; have NB364_374 := n12_; have NB374_364 := n13_; have NB365_374 := n14_; have NB374_365 := n15_; have NB372_374 := n16_; have NB374_372 := n17_; have NB373_374 := n18_; have NB374_373 := n19_; clear n0_ n1_ n2_ n3_ n4_ n5_ n6_ n7_ n8_ n9_ n10_ n11_ n12_ n13_ n14_ n15_ n16_ n17_ n18_ n19_; clear hb hbox hg; have hnb67 := NB374_363.out; have hnc67 := NB363_374.out; have hnb68 := NB374_364.out; have hnc68 := NB364_374.out; have hnb69 := NB374_365.out; have hnc69 := NB365_374.out; have hnb70 := NB374_372.out; have hnc70 := NB372_374.out; have hnb71 := NB374_373.out; have hnc71 := NB373_374.out; have hcz72_0 : w66.cell? ⟨gb374, 0, none⟩ = some (.int .i64 0) := (bkC BK374.out 0).trans rfl; have hcz72_1 : w66.cell? ⟨gb374, 1, none⟩ = some (.int .i64 0) := (bkC BK374.out 1).trans rfl; have hfz72_0 := bkF BK374.out 0; have hfz72_1 := bkF BK374.out 1))
     (try simp only [Act.put, List.setIfInBounds_toArray, List.set_cons_zero, List.set_cons_succ])
     go_cut [108] (fun v108 wc => ∃ (kq : Nat) (x108_47 : Bool), v108 = .bool x108_47 ∧ Aside0 (hopmeshlaw05_GeometryCrossings.j2 kq x108_47 a0_0 a0_1 a1_0 a1_1 a2_0 a2_1 a2_2 a2_3 a2_4 = some r) ∧ Aside0 (kq ≤ k1) ∧ Aside0 (wc.heap[gb363]? = some (.cells #[.int .i64 a0_0, .int .i64 a0_1] 28 (0, 0))) ∧ Aside0 (wc.heap[gb364]? = some (.cells #[.int .i64 a1_0, .int .i64 a1_1] 28 (0, 0))) ∧ Aside0 (wc.heap[gb365]? = some (.cells #[.int .i64 a2_0, .int .i64 a2_1, .int .i64 a2_2, .int .i64 a2_3, .int .i64 a2_4] 47 (0, 0))) ∧ Aside0 (wc.heap[gb372]? = some (.cells #[.int .i64 (wrap64 (2 * a0_0)), .int .i64 (wrap64 (2 * a0_1))] 28 (0, 0))) ∧ Aside0 (wc.heap[gb373]? = some (.cells #[.int .i64 (wrap64 (2 * a1_0)), .int .i64 (wrap64 (2 * a1_1))] 28 (0, 0))) ∧ Aside0 (wc.heap[gb374]? = some (.cells #[.int .i64 (wrap64 (a0_0 + a1_0)), .int .i64 (wrap64 (a0_1 + a1_1))] 28 (0, 0))) ∧ Aside0 (Below w.heap.size w wc))
     case first => as_aux_lemma =>
      have H := HC48.out
      clear HC48
      replace H := Option.bind_eq_some_iff.mp H
      obtain ⟨t375, A730, H⟩ := H
      replace H : (if t375 = true then ((geometry_Crosses.f k1 (wrap64 (2 * a0_0)) (wrap64 (2 * a0_1)) (wrap64 (2 * a1_0)) (wrap64 (2 * a1_1)) a2_2 a2_3 (wrap64 (a0_0 + a1_0)) (wrap64 (a0_1 + a1_1)) 0).bind fun t376 => (if t376 = true then ((geometry_Crosses.f k1 a0_0 a0_1 a1_0 a1_1 a0_0 a0_1 a2_0 a2_1 0).bind fun t377 => (if t377 = true then ((geometry_Crosses.f k1 a0_0 a0_1 a1_0 a1_1 a2_2 a2_3 a1_0 a1_1 0).bind fun t378 => (hopmeshlaw05_GeometryCrossings.j2 k1 (!t378) a0_0 a0_1 a1_0 a1_1 a2_0 a2_1 a2_2 a2_3 a2_4)) else (hopmeshlaw05_GeometryCrossings.j2 k1 true a0_0 a0_1 a1_0 a1_1 a2_0 a2_1 a2_2 a2_3 a2_4))) else (hopmeshlaw05_GeometryCrossings.j2 k1 true a0_0 a0_1 a1_0 a1_1 a2_0 a2_1 a2_2 a2_3 a2_4))) else (hopmeshlaw05_GeometryCrossings.j2 k1 true a0_0 a0_1 a1_0 a1_1 a2_0 a2_1 a2_2 a2_3 a2_4)) = some r := H
      have A73 := Aside0.mk A730
      clear A730
      by_cases c74 : t375 = true
      rotate_left
      ·replace c74 := Bool.eq_false_iff.mpr c74
       subst c74
       have H1 : (hopmeshlaw05_GeometryCrossings.j2 k1 true a0_0 a0_1 a1_0 a1_1 a2_0 a2_1 a2_2 a2_3 a2_4) = some r := by rw [if_neg (show ¬ (false = true) by decide)] at H; exact H
       clear H
       have H := H1
       clear H1
       have H' := Aside0.mk H
       clear H
       have hnb166 := NB372_363.out
       have hnc166 := NB363_372.out
       have hnb167 := NB372_364.out
       have hnc167 := NB364_372.out
       have hnb168 := NB372_365.out
       have hnc168 := NB365_372.out
       have hnb169 := NB372_373.out
       have hnc169 := NB373_372.out
       have hnb170 := NB372_374.out
       have hnc170 := NB374_372.out
       have hcz171_0 : w66.cell? ⟨gb372, 0, none⟩ = some (.int .i64 (wrap64 (2 * a0_0))) := (bkC BK372.out 0).trans rfl
       have hcz171_1 : w66.cell? ⟨gb372, 1, none⟩ = some (.int .i64 (wrap64 (2 * a0_1))) := (bkC BK372.out 1).trans rfl
       have hfz171_0 := bkF BK372.out 0
       have hfz171_1 := bkF BK372.out 1
       have hnb172 := NB373_363.out
       have hnc172 := NB363_373.out
       have hnb173 := NB373_364.out
       have hnc173 := NB364_373.out
       have hnb174 := NB373_365.out
       have hnc174 := NB365_373.out
       have hnb175 := NB373_374.out
       have hnc175 := NB374_373.out
       have hcz176_0 : w66.cell? ⟨gb373, 0, none⟩ = some (.int .i64 (wrap64 (2 * a1_0))) := (bkC BK373.out 0).trans rfl
       have hcz176_1 : w66.cell? ⟨gb373, 1, none⟩ = some (.int .i64 (wrap64 (2 * a1_1))) := (bkC BK373.out 1).trans rfl
       have hfz176_0 := bkF BK373.out 0
       have hfz176_1 := bkF BK373.out 1
       have hnb177 := NB374_363.out
       have hnc177 := NB363_374.out
       have hnb178 := NB374_364.out
       have hnc178 := NB364_374.out
       have hnb179 := NB374_365.out
       have hnc179 := NB365_374.out
       have hcz180_0 : w66.cell? ⟨gb374, 0, none⟩ = some (.int .i64 0) := (bkC BK374.out 0).trans rfl
       have hcz180_1 : w66.cell? ⟨gb374, 1, none⟩ = some (.int .i64 0) := (bkC BK374.out 1).trans rfl
       have hfz180_0 := bkF BK374.out 0
       have hfz180_1 := bkF BK374.out 1
       have hnb181 := NB365_363.out
       have hnc181 := NB363_365.out
       have hnb182 := NB365_364.out
       have hnc182 := NB364_365.out
       have hcz183_0 : w66.cell? ⟨gb365, 0, none⟩ = some (.int .i64 a2_0) := (bkC BK365.out 0).trans rfl
       have hcz183_1 : w66.cell? ⟨gb365, 1, none⟩ = some (.int .i64 a2_1) := (bkC BK365.out 1).trans rfl
       have hcz183_2 : w66.cell? ⟨gb365, 2, none⟩ = some (.int .i64 a2_2) := (bkC BK365.out 2).trans rfl
       have hcz183_3 : w66.cell? ⟨gb365, 3, none⟩ = some (.int .i64 a2_3) := (bkC BK365.out 3).trans rfl
       have hcz183_4 : w66.cell? ⟨gb365, 4, none⟩ = some (.int .i64 a2_4) := (bkC BK365.out 4).trans rfl
       have hfz183_0 := bkF BK365.out 0
       have hfz183_1 := bkF BK365.out 1
       have hfz183_2 := bkF BK365.out 2
       have hfz183_3 := bkF BK365.out 3
       have hfz183_4 := bkF BK365.out 4
       go_wp2_with (first | ((with_reducible refine gate_callee (f := 27) rfl ?_); refine goesL_ (some 77) rfl rfl Try.func27 (by kernel_rfl) rfl #[.agg #[.int .i64 (wrap64 (2 * a0_0)), .int .i64 (wrap64 (2 * a0_1))], .agg #[.int .i64 (wrap64 (2 * a1_0)), .int .i64 (wrap64 (2 * a1_1))], .agg #[.int .i64 (wrap64 (a0_0 + a1_0)), .int .i64 (wrap64 (a0_1 + a1_1)), .int .i64 a2_0, .int .i64 a2_1, .int .i64 0]] rfl (by (try simp only [List.map_toArray, List.map_cons, List.map_nil]); first | done | rfl | (simp only [List.length_drop, List.length_take]; rfl)) ?_; (with_reducible refine (geometry_Crosses.calls k1 (wrap64 (2 * a0_0)) (wrap64 (2 * a0_1)) (wrap64 (2 * a1_0)) (wrap64 (2 * a1_1)) (wrap64 (a0_0 + a1_0)) (wrap64 (a0_1 + a1_1)) a2_0 a2_1 0 false _ A73.out).mono ?_); rintro e w184 ⟨rfl, hb⟩; refine ⟨_, rfl, ?_⟩; have n0_ := Aside0.mk (Kd.R_below (by (with_reducible repeat (first | apply Kd.R_alloc | apply Kd.R_drewN | apply Kd.R_drew)); exact (Kd.R_mono (Kd.R_far (p := ⟨gb374, 1, none⟩) (Kd.R_far (p := ⟨gb374, 0, none⟩) (Kd.R_mono HO_21.out (fun k_ hk => (⟨hk, hk.2⟩ : _ ∧ k_ ≠ gb374))) (fun _ hk => hk.2) (.int .i64 (wrap64 (a0_0 + a1_0)))) (fun _ hk => hk.2) (.int .i64 (wrap64 (a0_1 + a1_1)))) (fun _ h_ => h_.1))) hb); have n1_ := Aside0.mk (bkB (g := gb363) (o := .cells #[.int .i64 a0_0, .int .i64 a0_1] 28 (0, 0)) (by (with_reducible repeat (first | refine bkN ?_ _ | refine bkD ?_ | refine bkA ?_ _)); refine blk_far ?_ NB363_374.out _; (with_reducible repeat (first | refine bkN ?_ _ | refine bkD ?_ | refine bkA ?_ _)); refine blk_far ?_ NB363_374.out _; (with_reducible repeat (first | refine bkN ?_ _ | refine bkD ?_ | refine bkA ?_ _)); exact BK363.out) hb); have n2_ := Aside0.mk (bkB (g := gb364) (o := .cells #[.int .i64 a1_0, .int .i64 a1_1] 28 (0, 0)) (by (with_reducible repeat (first | refine bkN ?_ _ | refine bkD ?_ | refine bkA ?_ _)); refine blk_far ?_ NB364_374.out _; (with_reducible repeat (first | refine bkN ?_ _ | refine bkD ?_ | refine bkA ?_ _)); refine blk_far ?_ NB364_374.out _; (with_reducible repeat (first | refine bkN ?_ _ | refine bkD ?_ | refine bkA ?_ _)); exact BK364.out) hb); have n3_ := Aside0.mk (bkB (g := gb365) (o := .cells #[.int .i64 a2_0, .int .i64 a2_1, .int .i64 a2_2, .int .i64 a2_3, .int .i64 a2_4] 47 (0, 0)) (by (with_reducible repeat (first | refine bkN ?_ _ | refine bkD ?_ | refine bkA ?_ _)); refine blk_far ?_ NB365_374.out _; (with_reducible repeat (first | refine bkN ?_ _ | refine bkD ?_ | refine bkA ?_ _)); refine blk_far ?_ NB365_374.out _; (with_reducible repeat (first | refine bkN ?_ _ | refine bkD ?_ | refine bkA ?_ _)); exact BK365.out) hb); have n4_ := Aside0.mk (bkB (g := gb372) (o := .cells #[.int .i64 (wrap64 (2 * a0_0)), .int .i64 (wrap64 (2 * a0_1))] 28 (0, 0)) (by (with_reducible repeat (first | refine bkN ?_ _ | refine bkD ?_ | refine bkA ?_ _)); refine blk_far ?_ NB372_374.out _; (with_reducible repeat (first | refine bkN ?_ _ | refine bkD ?_ | refine bkA ?_ _)); refine blk_far ?_ NB372_374.out _; (with_reducible repeat (first | refine bkN ?_ _ | refine bkD ?_ | refine bkA ?_ _)); exact BK372.out) hb); have n5_ := Aside0.mk (bkB (g := gb373) (o := .cells #[.int .i64 (wrap64 (2 * a1_0)), .int .i64 (wrap64 (2 * a1_1))] 28 (0, 0)) (by (with_reducible repeat (first | refine bkN ?_ _ | refine bkD ?_ | refine bkA ?_ _)); refine blk_far ?_ NB373_374.out _; (with_reducible repeat (first | refine bkN ?_ _ | refine bkD ?_ | refine bkA ?_ _)); refine blk_far ?_ NB373_374.out _; (with_reducible repeat (first | refine bkN ?_ _ | refine bkD ?_ | refine bkA ?_ _)); exact BK373.out) hb); have n6_ := Aside0.mk (bkB (g := gb374) (o := .cells #[.int .i64 (wrap64 (a0_0 + a1_0)), .int .i64 (wrap64 (a0_1 + a1_1))] 28 (0, 0)) (by (with_reducible repeat (first | refine bkN ?_ _ | refine bkD ?_ | refine bkA ?_ _)); refine blk_put (cs := #[.int .i64 (wrap64 (a0_0 + a1_0)), .int .i64 0]) ?_ 1 _ rfl; (with_reducible repeat (first | refine bkN ?_ _ | refine bkD ?_ | refine bkA ?_ _)); refine blk_put (cs := #[.int .i64 0, .int .i64 0]) ?_ 0 _ rfl; (with_reducible repeat (first | refine bkN ?_ _ | refine bkD ?_ | refine bkA ?_ _)); exact BK374.out) hb); have n7_ := Aside0.mk (below_step (by repeat (first | (with_reducible first | exact HB.out | apply blA | apply blN | apply blD | refine blS ?_ GE363.out | refine blS ?_ GE364.out | refine blS ?_ GE365.out | refine blS ?_ GE372.out | refine blS ?_ GE373.out | refine blS ?_ GE374.out) | exact HB.out)) hb); clear HO_21; clear BK363; clear BK364; clear BK365; clear BK372; clear BK373; clear BK374; clear HB; have HO_21 := n0_; have BK363 := n1_; have BK364 := n2_; have BK365 := n3_; have BK372 := n4_; have BK373 := n5_; have BK374 := n6_; have HB := n7_; clear n0_ n1_ n2_ n3_ n4_ n5_ n6_ n7_; (try clear hb); (try clear hb2); (try clear hk); (try clear hi)))
       go_meet
       case rel => exact ⟨_, (true), (by first | rfl | (simp; done) | (simp [*]; done)), H', ⟨by have := HK1.out; first | omega | exact Nat.le_refl _⟩, ⟨by (with_reducible repeat (first | refine bkN ?_ _ | refine bkD ?_ | refine bkA ?_ _)); exact BK363.out⟩, ⟨by (with_reducible repeat (first | refine bkN ?_ _ | refine bkD ?_ | refine bkA ?_ _)); exact BK364.out⟩, ⟨by (with_reducible repeat (first | refine bkN ?_ _ | refine bkD ?_ | refine bkA ?_ _)); exact BK365.out⟩, ⟨by (with_reducible repeat (first | refine bkN ?_ _ | refine bkD ?_ | refine bkA ?_ _)); exact BK372.out⟩, ⟨by (with_reducible repeat (first | refine bkN ?_ _ | refine bkD ?_ | refine bkA ?_ _)); exact BK373.out⟩, ⟨by (with_reducible repeat (first | refine bkN ?_ _ | refine bkD ?_ | refine bkA ?_ _)); exact BK374.out⟩, ⟨by repeat (first | (with_reducible first | exact HB.out | apply blA | apply blN | apply blD | refine blS ?_ GE363.out | refine blS ?_ GE364.out | refine blS ?_ GE365.out | refine blS ?_ GE372.out | refine blS ?_ GE373.out | refine blS ?_ GE374.out) | exact HB.out)⟩⟩
      subst c74
      have H1 : ((geometry_Crosses.f k1 (wrap64 (2 * a0_0)) (wrap64 (2 * a0_1)) (wrap64 (2 * a1_0)) (wrap64 (2 * a1_1)) a2_2 a2_3 (wrap64 (a0_0 + a1_0)) (wrap64 (a0_1 + a1_1)) 0).bind fun t376 => (if t376 = true then ((geometry_Crosses.f k1 a0_0 a0_1 a1_0 a1_1 a0_0 a0_1 a2_0 a2_1 0).bind fun t377 => (if t377 = true then ((geometry_Crosses.f k1 a0_0 a0_1 a1_0 a1_1 a2_2 a2_3 a1_0 a1_1 0).bind fun t378 => (hopmeshlaw05_GeometryCrossings.j2 k1 (!t378) a0_0 a0_1 a1_0 a1_1 a2_0 a2_1 a2_2 a2_3 a2_4)) else (hopmeshlaw05_GeometryCrossings.j2 k1 true a0_0 a0_1 a1_0 a1_1 a2_0 a2_1 a2_2 a2_3 a2_4))) else (hopmeshlaw05_GeometryCrossings.j2 k1 true a0_0 a0_1 a1_0 a1_1 a2_0 a2_1 a2_2 a2_3 a2_4))) = some r := by rw [if_pos rfl] at H; exact H
      clear H
      have H := H1
      clear H1
      replace H := Option.bind_eq_some_iff.mp H
      obtain ⟨t376, A750, H⟩ := H
      replace H : (if t376 = true then ((geometry_Crosses.f k1 a0_0 a0_1 a1_0 a1_1 a0_0 a0_1 a2_0 a2_1 0).bind fun t377 => (if t377 = true then ((geometry_Crosses.f k1 a0_0 a0_1 a1_0 a1_1 a2_2 a2_3 a1_0 a1_1 0).bind fun t378 => (hopmeshlaw05_GeometryCrossings.j2 k1 (!t378) a0_0 a0_1 a1_0 a1_1 a2_0 a2_1 a2_2 a2_3 a2_4)) else (hopmeshlaw05_GeometryCrossings.j2 k1 true a0_0 a0_1 a1_0 a1_1 a2_0 a2_1 a2_2 a2_3 a2_4))) else (hopmeshlaw05_GeometryCrossings.j2 k1 true a0_0 a0_1 a1_0 a1_1 a2_0 a2_1 a2_2 a2_3 a2_4)) = some r := H
      have A75 := Aside0.mk A750
      clear A750
      by_cases c76 : t376 = true
      rotate_left
      ·replace c76 := Bool.eq_false_iff.mpr c76
       subst c76
       have H1 : (hopmeshlaw05_GeometryCrossings.j2 k1 true a0_0 a0_1 a1_0 a1_1 a2_0 a2_1 a2_2 a2_3 a2_4) = some r := by rw [if_neg (show ¬ (false = true) by decide)] at H; exact H
       clear H
       have H := H1
       clear H1
       have H' := Aside0.mk H
       clear H
       have hnb142 := NB372_363.out
       have hnc142 := NB363_372.out
       have hnb143 := NB372_364.out
       have hnc143 := NB364_372.out
       have hnb144 := NB372_365.out
       have hnc144 := NB365_372.out
       have hnb145 := NB372_373.out
       have hnc145 := NB373_372.out
       have hnb146 := NB372_374.out
       have hnc146 := NB374_372.out
       have hcz147_0 : w66.cell? ⟨gb372, 0, none⟩ = some (.int .i64 (wrap64 (2 * a0_0))) := (bkC BK372.out 0).trans rfl
       have hcz147_1 : w66.cell? ⟨gb372, 1, none⟩ = some (.int .i64 (wrap64 (2 * a0_1))) := (bkC BK372.out 1).trans rfl
       have hfz147_0 := bkF BK372.out 0
       have hfz147_1 := bkF BK372.out 1
       have hnb148 := NB373_363.out
       have hnc148 := NB363_373.out
       have hnb149 := NB373_364.out
       have hnc149 := NB364_373.out
       have hnb150 := NB373_365.out
       have hnc150 := NB365_373.out
       have hnb151 := NB373_374.out
       have hnc151 := NB374_373.out
       have hcz152_0 : w66.cell? ⟨gb373, 0, none⟩ = some (.int .i64 (wrap64 (2 * a1_0))) := (bkC BK373.out 0).trans rfl
       have hcz152_1 : w66.cell? ⟨gb373, 1, none⟩ = some (.int .i64 (wrap64 (2 * a1_1))) := (bkC BK373.out 1).trans rfl
       have hfz152_0 := bkF BK373.out 0
       have hfz152_1 := bkF BK373.out 1
       have hnb153 := NB374_363.out
       have hnc153 := NB363_374.out
       have hnb154 := NB374_364.out
       have hnc154 := NB364_374.out
       have hnb155 := NB374_365.out
       have hnc155 := NB365_374.out
       have hcz156_0 : w66.cell? ⟨gb374, 0, none⟩ = some (.int .i64 0) := (bkC BK374.out 0).trans rfl
       have hcz156_1 : w66.cell? ⟨gb374, 1, none⟩ = some (.int .i64 0) := (bkC BK374.out 1).trans rfl
       have hfz156_0 := bkF BK374.out 0
       have hfz156_1 := bkF BK374.out 1
       have hnb157 := NB365_363.out
       have hnc157 := NB363_365.out
       have hnb158 := NB365_364.out
       have hnc158 := NB364_365.out
       have hcz159_0 : w66.cell? ⟨gb365, 0, none⟩ = some (.int .i64 a2_0) := (bkC BK365.out 0).trans rfl
       have hcz159_1 : w66.cell? ⟨gb365, 1, none⟩ = some (.int .i64 a2_1) := (bkC BK365.out 1).trans rfl
       have hcz159_2 : w66.cell? ⟨gb365, 2, none⟩ = some (.int .i64 a2_2) := (bkC BK365.out 2).trans rfl
       have hcz159_3 : w66.cell? ⟨gb365, 3, none⟩ = some (.int .i64 a2_3) := (bkC BK365.out 3).trans rfl
       have hcz159_4 : w66.cell? ⟨gb365, 4, none⟩ = some (.int .i64 a2_4) := (bkC BK365.out 4).trans rfl
       have hfz159_0 := bkF BK365.out 0
       have hfz159_1 := bkF BK365.out 1
       have hfz159_2 := bkF BK365.out 2
       have hfz159_3 := bkF BK365.out 3
       have hfz159_4 := bkF BK365.out 4
       go_wp2_with (first | ((with_reducible refine gate_callee (f := 27) rfl ?_); refine goesL_ (some 77) rfl rfl Try.func27 (by kernel_rfl) rfl #[.agg #[.int .i64 (wrap64 (2 * a0_0)), .int .i64 (wrap64 (2 * a0_1))], .agg #[.int .i64 (wrap64 (2 * a1_0)), .int .i64 (wrap64 (2 * a1_1))], .agg #[.int .i64 (wrap64 (a0_0 + a1_0)), .int .i64 (wrap64 (a0_1 + a1_1)), .int .i64 a2_0, .int .i64 a2_1, .int .i64 0]] rfl (by (try simp only [List.map_toArray, List.map_cons, List.map_nil]); first | done | rfl | (simp only [List.length_drop, List.length_take]; rfl)) ?_; (with_reducible refine (geometry_Crosses.calls k1 (wrap64 (2 * a0_0)) (wrap64 (2 * a0_1)) (wrap64 (2 * a1_0)) (wrap64 (2 * a1_1)) (wrap64 (a0_0 + a1_0)) (wrap64 (a0_1 + a1_1)) a2_0 a2_1 0 true _ A73.out).mono ?_); rintro e w160 ⟨rfl, hb⟩; refine ⟨_, rfl, ?_⟩; have n0_ := Aside0.mk (Kd.R_below (by (with_reducible repeat (first | apply Kd.R_alloc | apply Kd.R_drewN | apply Kd.R_drew)); exact (Kd.R_mono (Kd.R_far (p := ⟨gb374, 1, none⟩) (Kd.R_far (p := ⟨gb374, 0, none⟩) (Kd.R_mono HO_21.out (fun k_ hk => (⟨hk, hk.2⟩ : _ ∧ k_ ≠ gb374))) (fun _ hk => hk.2) (.int .i64 (wrap64 (a0_0 + a1_0)))) (fun _ hk => hk.2) (.int .i64 (wrap64 (a0_1 + a1_1)))) (fun _ h_ => h_.1))) hb); have n1_ := Aside0.mk (bkB (g := gb363) (o := .cells #[.int .i64 a0_0, .int .i64 a0_1] 28 (0, 0)) (by (with_reducible repeat (first | refine bkN ?_ _ | refine bkD ?_ | refine bkA ?_ _)); refine blk_far ?_ NB363_374.out _; (with_reducible repeat (first | refine bkN ?_ _ | refine bkD ?_ | refine bkA ?_ _)); refine blk_far ?_ NB363_374.out _; (with_reducible repeat (first | refine bkN ?_ _ | refine bkD ?_ | refine bkA ?_ _)); exact BK363.out) hb); have n2_ := Aside0.mk (bkB (g := gb364) (o := .cells #[.int .i64 a1_0, .int .i64 a1_1] 28 (0, 0)) (by (with_reducible repeat (first | refine bkN ?_ _ | refine bkD ?_ | refine bkA ?_ _)); refine blk_far ?_ NB364_374.out _; (with_reducible repeat (first | refine bkN ?_ _ | refine bkD ?_ | refine bkA ?_ _)); refine blk_far ?_ NB364_374.out _; (with_reducible repeat (first | refine bkN ?_ _ | refine bkD ?_ | refine bkA ?_ _)); exact BK364.out) hb); have n3_ := Aside0.mk (bkB (g := gb365) (o := .cells #[.int .i64 a2_0, .int .i64 a2_1, .int .i64 a2_2, .int .i64 a2_3, .int .i64 a2_4] 47 (0, 0)) (by (with_reducible repeat (first | refine bkN ?_ _ | refine bkD ?_ | refine bkA ?_ _)); refine blk_far ?_ NB365_374.out _; (with_reducible repeat (first | refine bkN ?_ _ | refine bkD ?_ | refine bkA ?_ _)); refine blk_far ?_ NB365_374.out _; (with_reducible repeat (first | refine bkN ?_ _ | refine bkD ?_ | refine bkA ?_ _)); exact BK365.out) hb); have n4_ := Aside0.mk (bkB (g := gb372) (o := .cells #[.int .i64 (wrap64 (2 * a0_0)), .int .i64 (wrap64 (2 * a0_1))] 28 (0, 0)) (by (with_reducible repeat (first | refine bkN ?_ _ | refine bkD ?_ | refine bkA ?_ _)); refine blk_far ?_ NB372_374.out _; (with_reducible repeat (first | refine bkN ?_ _ | refine bkD ?_ | refine bkA ?_ _)); refine blk_far ?_ NB372_374.out _; (with_reducible repeat (first | refine bkN ?_ _ | refine bkD ?_ | refine bkA ?_ _)); exact BK372.out) hb); have n5_ := Aside0.mk (bkB (g := gb373) (o := .cells #[.int .i64 (wrap64 (2 * a1_0)), .int .i64 (wrap64 (2 * a1_1))] 28 (0, 0)) (by (with_reducible repeat (first | refine bkN ?_ _ | refine bkD ?_ | refine bkA ?_ _)); refine blk_far ?_ NB373_374.out _; (with_reducible repeat (first | refine bkN ?_ _ | refine bkD ?_ | refine bkA ?_ _)); refine blk_far ?_ NB373_374.out _; (with_reducible repeat (first | refine bkN ?_ _ | refine bkD ?_ | refine bkA ?_ _)); exact BK373.out) hb); have n6_ := Aside0.mk (bkB (g := gb374) (o := .cells #[.int .i64 (wrap64 (a0_0 + a1_0)), .int .i64 (wrap64 (a0_1 + a1_1))] 28 (0, 0)) (by (with_reducible repeat (first | refine bkN ?_ _ | refine bkD ?_ | refine bkA ?_ _)); refine blk_put (cs := #[.int .i64 (wrap64 (a0_0 + a1_0)), .int .i64 0]) ?_ 1 _ rfl; (with_reducible repeat (first | refine bkN ?_ _ | refine bkD ?_ | refine bkA ?_ _)); refine blk_put (cs := #[.int .i64 0, .int .i64 0]) ?_ 0 _ rfl; (with_reducible repeat (first | refine bkN ?_ _ | refine bkD ?_ | refine bkA ?_ _)); exact BK374.out) hb); have n7_ := Aside0.mk (below_step (by repeat (first | (with_reducible first | exact HB.out | apply blA | apply blN | apply blD | refine blS ?_ GE363.out | refine blS ?_ GE364.out | refine blS ?_ GE365.out | refine blS ?_ GE372.out | refine blS ?_ GE373.out | refine blS ?_ GE374.out) | exact HB.out)) hb); clear HO_21; clear BK363; clear BK364; clear BK365; clear BK372; clear BK373; clear BK374; clear HB; have HO_21 := n0_; have BK363 := n1_; have BK364 := n2_; have BK365 := n3_; have BK372 := n4_; have BK373 := n5_; have BK374 := n6_; have HB := n7_; clear n0_ n1_ n2_ n3_ n4_ n5_ n6_ n7_; (try clear hb); (try clear hb2); (try clear hk); (try clear hi); have hcz161_0 : w160.cell? ⟨gb372, 0, none⟩ = some (.int .i64 (wrap64 (2 * a0_0))) := (bkC BK372.out 0).trans rfl; have hcz161_1 : w160.cell? ⟨gb372, 1, none⟩ = some (.int .i64 (wrap64 (2 * a0_1))) := (bkC BK372.out 1).trans rfl; have hfz161_0 := bkF BK372.out 0; have hfz161_1 := bkF BK372.out 1; have hcz162_0 : w160.cell? ⟨gb373, 0, none⟩ = some (.int .i64 (wrap64 (2 * a1_0))) := (bkC BK373.out 0).trans rfl; have hcz162_1 : w160.cell? ⟨gb373, 1, none⟩ = some (.int .i64 (wrap64 (2 * a1_1))) := (bkC BK373.out 1).trans rfl; have hfz162_0 := bkF BK373.out 0; have hfz162_1 := bkF BK373.out 1; have hcz163_0 : w160.cell? ⟨gb365, 0, none⟩ = some (.int .i64 a2_0) := (bkC BK365.out 0).trans rfl; have hcz163_1 : w160.cell? ⟨gb365, 1, none⟩ = some (.int .i64 a2_1) := (bkC BK365.out 1).trans rfl; have hcz163_2 : w160.cell? ⟨gb365, 2, none⟩ = some (.int .i64 a2_2) := (bkC BK365.out 2).trans rfl; have hcz163_3 : w160.cell? ⟨gb365, 3, none⟩ = some (.int .i64 a2_3) := (bkC BK365.out 3).trans rfl; have hcz163_4 : w160.cell? ⟨gb365, 4, none⟩ = some (.int .i64 a2_4) := (bkC BK365.out 4).trans rfl; have hfz163_0 := bkF BK365.out 0; have hfz163_1 := bkF BK365.out 1; have hfz163_2 := bkF BK365.out 2; have hfz163_3 := bkF BK365.out 3; have hfz163_4 := bkF BK365.out 4; have hcz164_0 : w160.cell? ⟨gb374, 0, none⟩ = some (.int .i64 (wrap64 (a0_0 + a1_0))) := (bkC BK374.out 0).trans rfl; have hcz164_1 : w160.cell? ⟨gb374, 1, none⟩ = some (.int .i64 (wrap64 (a0_1 + a1_1))) := (bkC BK374.out 1).trans rfl; have hfz164_0 := bkF BK374.out 0; have hfz164_1 := bkF BK374.out 1) | (go_at_call 27; (with_reducible refine (geometry_Crosses.calls k1 (wrap64 (2 * a0_0)) (wrap64 (2 * a0_1)) (wrap64 (2 * a1_0)) (wrap64 (2 * a1_1)) a2_2 a2_3 (wrap64 (a0_0 + a1_0)) (wrap64 (a0_1 + a1_1)) 0 false _ A75.out).mono ?_); rintro e w165 ⟨rfl, hb⟩; have n0_ := Aside0.mk (Kd.R_below (by (with_reducible repeat (first | apply Kd.R_alloc | apply Kd.R_drewN | apply Kd.R_drew)); exact HO_21.out) hb); have n1_ := Aside0.mk (bkB (g := gb363) (o := .cells #[.int .i64 a0_0, .int .i64 a0_1] 28 (0, 0)) (by (with_reducible repeat (first | refine bkN ?_ _ | refine bkD ?_ | refine bkA ?_ _)); exact BK363.out) hb); have n2_ := Aside0.mk (bkB (g := gb364) (o := .cells #[.int .i64 a1_0, .int .i64 a1_1] 28 (0, 0)) (by (with_reducible repeat (first | refine bkN ?_ _ | refine bkD ?_ | refine bkA ?_ _)); exact BK364.out) hb); have n3_ := Aside0.mk (bkB (g := gb365) (o := .cells #[.int .i64 a2_0, .int .i64 a2_1, .int .i64 a2_2, .int .i64 a2_3, .int .i64 a2_4] 47 (0, 0)) (by (with_reducible repeat (first | refine bkN ?_ _ | refine bkD ?_ | refine bkA ?_ _)); exact BK365.out) hb); have n4_ := Aside0.mk (bkB (g := gb372) (o := .cells #[.int .i64 (wrap64 (2 * a0_0)), .int .i64 (wrap64 (2 * a0_1))] 28 (0, 0)) (by (with_reducible repeat (first | refine bkN ?_ _ | refine bkD ?_ | refine bkA ?_ _)); exact BK372.out) hb); have n5_ := Aside0.mk (bkB (g := gb373) (o := .cells #[.int .i64 (wrap64 (2 * a1_0)), .int .i64 (wrap64 (2 * a1_1))] 28 (0, 0)) (by (with_reducible repeat (first | refine bkN ?_ _ | refine bkD ?_ | refine bkA ?_ _)); exact BK373.out) hb); have n6_ := Aside0.mk (bkB (g := gb374) (o := .cells #[.int .i64 (wrap64 (a0_0 + a1_0)), .int .i64 (wrap64 (a0_1 + a1_1))] 28 (0, 0)) (by (with_reducible repeat (first | refine bkN ?_ _ | refine bkD ?_ | refine bkA ?_ _)); exact BK374.out) hb); have n7_ := Aside0.mk (below_step (by repeat (first | (with_reducible first | exact HB.out | apply blA | apply blN | apply blD | refine blS ?_ GE363.out | refine blS ?_ GE364.out | refine blS ?_ GE365.out | refine blS ?_ GE372.out | refine blS ?_ GE373.out | refine blS ?_ GE374.out) | exact HB.out)) hb); clear HO_21; clear BK363; clear BK364; clear BK365; clear BK372; clear BK373; clear BK374; clear HB; have HO_21 := n0_; have BK363 := n1_; have BK364 := n2_; have BK365 := n3_; have BK372 := n4_; have BK373 := n5_; have BK374 := n6_; have HB := n7_; clear n0_ n1_ n2_ n3_ n4_ n5_ n6_ n7_; (try clear hb); (try clear hb2); (try clear hk); (try clear hi)))
       go_meet
       case rel => exact ⟨_, (true), (by first | rfl | (simp; done) | (simp [*]; done)), H', ⟨by have := HK1.out; first | omega | exact Nat.le_refl _⟩, ⟨by (with_reducible repeat (first | refine bkN ?_ _ | refine bkD ?_ | refine bkA ?_ _)); exact BK363.out⟩, ⟨by (with_reducible repeat (first | refine bkN ?_ _ | refine bkD ?_ | refine bkA ?_ _)); exact BK364.out⟩, ⟨by (with_reducible repeat (first | refine bkN ?_ _ | refine bkD ?_ | refine bkA ?_ _)); exact BK365.out⟩, ⟨by (with_reducible repeat (first | refine bkN ?_ _ | refine bkD ?_ | refine bkA ?_ _)); exact BK372.out⟩, ⟨by (with_reducible repeat (first | refine bkN ?_ _ | refine bkD ?_ | refine bkA ?_ _)); exact BK373.out⟩, ⟨by (with_reducible repeat (first | refine bkN ?_ _ | refine bkD ?_ | refine bkA ?_ _)); exact BK374.out⟩, ⟨by repeat (first | (with_reducible first | exact HB.out | apply blA | apply blN | apply blD | refine blS ?_ GE363.out | refine blS ?_ GE364.out | refine blS ?_ GE365.out | refine blS ?_ GE372.out | refine blS ?_ GE373.out | refine blS ?_ GE374.out) | exact HB.out)⟩⟩
      as_aux_lemma =>
       subst c76
       have H1 : ((geometry_Crosses.f k1 a0_0 a0_1 a1_0 a1_1 a0_0 a0_1 a2_0 a2_1 0).bind fun t377 => (if t377 = true then ((geometry_Crosses.f k1 a0_0 a0_1 a1_0 a1_1 a2_2 a2_3 a1_0 a1_1 0).bind fun t378 => (hopmeshlaw05_GeometryCrossings.j2 k1 (!t378) a0_0 a0_1 a1_0 a1_1 a2_0 a2_1 a2_2 a2_3 a2_4)) else (hopmeshlaw05_GeometryCrossings.j2 k1 true a0_0 a0_1 a1_0 a1_1 a2_0 a2_1 a2_2 a2_3 a2_4))) = some r := by rw [if_pos rfl] at H; exact H
       clear H
       have H := H1
       clear H1
       replace H := Option.bind_eq_some_iff.mp H
       obtain ⟨t377, A770, H⟩ := H
       replace H : (if t377 = true then ((geometry_Crosses.f k1 a0_0 a0_1 a1_0 a1_1 a2_2 a2_3 a1_0 a1_1 0).bind fun t378 => (hopmeshlaw05_GeometryCrossings.j2 k1 (!t378) a0_0 a0_1 a1_0 a1_1 a2_0 a2_1 a2_2 a2_3 a2_4)) else (hopmeshlaw05_GeometryCrossings.j2 k1 true a0_0 a0_1 a1_0 a1_1 a2_0 a2_1 a2_2 a2_3 a2_4)) = some r := H
       have A77 := Aside0.mk A770
       clear A770
       by_cases c78 : t377 = true
       rotate_left
       ·replace c78 := Bool.eq_false_iff.mpr c78
        subst c78
        have H1 : (hopmeshlaw05_GeometryCrossings.j2 k1 true a0_0 a0_1 a1_0 a1_1 a2_0 a2_1 a2_2 a2_3 a2_4) = some r := by rw [if_neg (show ¬ (false = true) by decide)] at H; exact H
        clear H
        have H := H1
        clear H1
        have H' := Aside0.mk H
        clear H
        have hnb113 := NB372_363.out
        have hnc113 := NB363_372.out
        have hnb114 := NB372_364.out
        have hnc114 := NB364_372.out
        have hnb115 := NB372_365.out
        have hnc115 := NB365_372.out
        have hnb116 := NB372_373.out
        have hnc116 := NB373_372.out
        have hnb117 := NB372_374.out
        have hnc117 := NB374_372.out
        have hcz118_0 : w66.cell? ⟨gb372, 0, none⟩ = some (.int .i64 (wrap64 (2 * a0_0))) := (bkC BK372.out 0).trans rfl
        have hcz118_1 : w66.cell? ⟨gb372, 1, none⟩ = some (.int .i64 (wrap64 (2 * a0_1))) := (bkC BK372.out 1).trans rfl
        have hfz118_0 := bkF BK372.out 0
        have hfz118_1 := bkF BK372.out 1
        have hnb119 := NB373_363.out
        have hnc119 := NB363_373.out
        have hnb120 := NB373_364.out
        have hnc120 := NB364_373.out
        have hnb121 := NB373_365.out
        have hnc121 := NB365_373.out
        have hnb122 := NB373_374.out
        have hnc122 := NB374_373.out
        have hcz123_0 : w66.cell? ⟨gb373, 0, none⟩ = some (.int .i64 (wrap64 (2 * a1_0))) := (bkC BK373.out 0).trans rfl
        have hcz123_1 : w66.cell? ⟨gb373, 1, none⟩ = some (.int .i64 (wrap64 (2 * a1_1))) := (bkC BK373.out 1).trans rfl
        have hfz123_0 := bkF BK373.out 0
        have hfz123_1 := bkF BK373.out 1
        have hnb124 := NB374_363.out
        have hnc124 := NB363_374.out
        have hnb125 := NB374_364.out
        have hnc125 := NB364_374.out
        have hnb126 := NB374_365.out
        have hnc126 := NB365_374.out
        have hcz127_0 : w66.cell? ⟨gb374, 0, none⟩ = some (.int .i64 0) := (bkC BK374.out 0).trans rfl
        have hcz127_1 : w66.cell? ⟨gb374, 1, none⟩ = some (.int .i64 0) := (bkC BK374.out 1).trans rfl
        have hfz127_0 := bkF BK374.out 0
        have hfz127_1 := bkF BK374.out 1
        have hnb128 := NB365_363.out
        have hnc128 := NB363_365.out
        have hnb129 := NB365_364.out
        have hnc129 := NB364_365.out
        have hcz130_0 : w66.cell? ⟨gb365, 0, none⟩ = some (.int .i64 a2_0) := (bkC BK365.out 0).trans rfl
        have hcz130_1 : w66.cell? ⟨gb365, 1, none⟩ = some (.int .i64 a2_1) := (bkC BK365.out 1).trans rfl
        have hcz130_2 : w66.cell? ⟨gb365, 2, none⟩ = some (.int .i64 a2_2) := (bkC BK365.out 2).trans rfl
        have hcz130_3 : w66.cell? ⟨gb365, 3, none⟩ = some (.int .i64 a2_3) := (bkC BK365.out 3).trans rfl
        have hcz130_4 : w66.cell? ⟨gb365, 4, none⟩ = some (.int .i64 a2_4) := (bkC BK365.out 4).trans rfl
        have hfz130_0 := bkF BK365.out 0
        have hfz130_1 := bkF BK365.out 1
        have hfz130_2 := bkF BK365.out 2
        have hfz130_3 := bkF BK365.out 3
        have hfz130_4 := bkF BK365.out 4
        go_wp2_with (first | ((with_reducible refine gate_callee (f := 27) rfl ?_); refine goesL_ (some 77) rfl rfl Try.func27 (by kernel_rfl) rfl #[.agg #[.int .i64 (wrap64 (2 * a0_0)), .int .i64 (wrap64 (2 * a0_1))], .agg #[.int .i64 (wrap64 (2 * a1_0)), .int .i64 (wrap64 (2 * a1_1))], .agg #[.int .i64 (wrap64 (a0_0 + a1_0)), .int .i64 (wrap64 (a0_1 + a1_1)), .int .i64 a2_0, .int .i64 a2_1, .int .i64 0]] rfl (by (try simp only [List.map_toArray, List.map_cons, List.map_nil]); first | done | rfl | (simp only [List.length_drop, List.length_take]; rfl)) ?_; (with_reducible refine (geometry_Crosses.calls k1 (wrap64 (2 * a0_0)) (wrap64 (2 * a0_1)) (wrap64 (2 * a1_0)) (wrap64 (2 * a1_1)) (wrap64 (a0_0 + a1_0)) (wrap64 (a0_1 + a1_1)) a2_0 a2_1 0 true _ A73.out).mono ?_); rintro e w131 ⟨rfl, hb⟩; refine ⟨_, rfl, ?_⟩; have n0_ := Aside0.mk (Kd.R_below (by (with_reducible repeat (first | apply Kd.R_alloc | apply Kd.R_drewN | apply Kd.R_drew)); exact (Kd.R_mono (Kd.R_far (p := ⟨gb374, 1, none⟩) (Kd.R_far (p := ⟨gb374, 0, none⟩) (Kd.R_mono HO_21.out (fun k_ hk => (⟨hk, hk.2⟩ : _ ∧ k_ ≠ gb374))) (fun _ hk => hk.2) (.int .i64 (wrap64 (a0_0 + a1_0)))) (fun _ hk => hk.2) (.int .i64 (wrap64 (a0_1 + a1_1)))) (fun _ h_ => h_.1))) hb); have n1_ := Aside0.mk (bkB (g := gb363) (o := .cells #[.int .i64 a0_0, .int .i64 a0_1] 28 (0, 0)) (by (with_reducible repeat (first | refine bkN ?_ _ | refine bkD ?_ | refine bkA ?_ _)); refine blk_far ?_ NB363_374.out _; (with_reducible repeat (first | refine bkN ?_ _ | refine bkD ?_ | refine bkA ?_ _)); refine blk_far ?_ NB363_374.out _; (with_reducible repeat (first | refine bkN ?_ _ | refine bkD ?_ | refine bkA ?_ _)); exact BK363.out) hb); have n2_ := Aside0.mk (bkB (g := gb364) (o := .cells #[.int .i64 a1_0, .int .i64 a1_1] 28 (0, 0)) (by (with_reducible repeat (first | refine bkN ?_ _ | refine bkD ?_ | refine bkA ?_ _)); refine blk_far ?_ NB364_374.out _; (with_reducible repeat (first | refine bkN ?_ _ | refine bkD ?_ | refine bkA ?_ _)); refine blk_far ?_ NB364_374.out _; (with_reducible repeat (first | refine bkN ?_ _ | refine bkD ?_ | refine bkA ?_ _)); exact BK364.out) hb); have n3_ := Aside0.mk (bkB (g := gb365) (o := .cells #[.int .i64 a2_0, .int .i64 a2_1, .int .i64 a2_2, .int .i64 a2_3, .int .i64 a2_4] 47 (0, 0)) (by (with_reducible repeat (first | refine bkN ?_ _ | refine bkD ?_ | refine bkA ?_ _)); refine blk_far ?_ NB365_374.out _; (with_reducible repeat (first | refine bkN ?_ _ | refine bkD ?_ | refine bkA ?_ _)); refine blk_far ?_ NB365_374.out _; (with_reducible repeat (first | refine bkN ?_ _ | refine bkD ?_ | refine bkA ?_ _)); exact BK365.out) hb); have n4_ := Aside0.mk (bkB (g := gb372) (o := .cells #[.int .i64 (wrap64 (2 * a0_0)), .int .i64 (wrap64 (2 * a0_1))] 28 (0, 0)) (by (with_reducible repeat (first | refine bkN ?_ _ | refine bkD ?_ | refine bkA ?_ _)); refine blk_far ?_ NB372_374.out _; (with_reducible repeat (first | refine bkN ?_ _ | refine bkD ?_ | refine bkA ?_ _)); refine blk_far ?_ NB372_374.out _; (with_reducible repeat (first | refine bkN ?_ _ | refine bkD ?_ | refine bkA ?_ _)); exact BK372.out) hb); have n5_ := Aside0.mk (bkB (g := gb373) (o := .cells #[.int .i64 (wrap64 (2 * a1_0)), .int .i64 (wrap64 (2 * a1_1))] 28 (0, 0)) (by (with_reducible repeat (first | refine bkN ?_ _ | refine bkD ?_ | refine bkA ?_ _)); refine blk_far ?_ NB373_374.out _; (with_reducible repeat (first | refine bkN ?_ _ | refine bkD ?_ | refine bkA ?_ _)); refine blk_far ?_ NB373_374.out _; (with_reducible repeat (first | refine bkN ?_ _ | refine bkD ?_ | refine bkA ?_ _)); exact BK373.out) hb); have n6_ := Aside0.mk (bkB (g := gb374) (o := .cells #[.int .i64 (wrap64 (a0_0 + a1_0)), .int .i64 (wrap64 (a0_1 + a1_1))] 28 (0, 0)) (by (with_reducible repeat (first | refine bkN ?_ _ | refine bkD ?_ | refine bkA ?_ _)); refine blk_put (cs := #[.int .i64 (wrap64 (a0_0 + a1_0)), .int .i64 0]) ?_ 1 _ rfl; (with_reducible repeat (first | refine bkN ?_ _ | refine bkD ?_ | refine bkA ?_ _)); refine blk_put (cs := #[.int .i64 0, .int .i64 0]) ?_ 0 _ rfl; (with_reducible repeat (first | refine bkN ?_ _ | refine bkD ?_ | refine bkA ?_ _)); exact BK374.out) hb); have n7_ := Aside0.mk (below_step (by repeat (first | (with_reducible first | exact HB.out | apply blA | apply blN | apply blD | refine blS ?_ GE363.out | refine blS ?_ GE364.out | refine blS ?_ GE365.out | refine blS ?_ GE372.out | refine blS ?_ GE373.out | refine blS ?_ GE374.out) | exact HB.out)) hb); clear HO_21; clear BK363; clear BK364; clear BK365; clear BK372; clear BK373; clear BK374; clear HB; have HO_21 := n0_; have BK363 := n1_; have BK364 := n2_; have BK365 := n3_; have BK372 := n4_; have BK373 := n5_; have BK374 := n6_; have HB := n7_; clear n0_ n1_ n2_ n3_ n4_ n5_ n6_ n7_; (try clear hb); (try clear hb2); (try clear hk); (try clear hi); have hcz132_0 : w131.cell? ⟨gb372, 0, none⟩ = some (.int .i64 (wrap64 (2 * a0_0))) := (bkC BK372.out 0).trans rfl; have hcz132_1 : w131.cell? ⟨gb372, 1, none⟩ = some (.int .i64 (wrap64 (2 * a0_1))) := (bkC BK372.out 1).trans rfl; have hfz132_0 := bkF BK372.out 0; have hfz132_1 := bkF BK372.out 1; have hcz133_0 : w131.cell? ⟨gb373, 0, none⟩ = some (.int .i64 (wrap64 (2 * a1_0))) := (bkC BK373.out 0).trans rfl; have hcz133_1 : w131.cell? ⟨gb373, 1, none⟩ = some (.int .i64 (wrap64 (2 * a1_1))) := (bkC BK373.out 1).trans rfl; have hfz133_0 := bkF BK373.out 0; have hfz133_1 := bkF BK373.out 1; have hcz134_0 : w131.cell? ⟨gb365, 0, none⟩ = some (.int .i64 a2_0) := (bkC BK365.out 0).trans rfl; have hcz134_1 : w131.cell? ⟨gb365, 1, none⟩ = some (.int .i64 a2_1) := (bkC BK365.out 1).trans rfl; have hcz134_2 : w131.cell? ⟨gb365, 2, none⟩ = some (.int .i64 a2_2) := (bkC BK365.out 2).trans rfl; have hcz134_3 : w131.cell? ⟨gb365, 3, none⟩ = some (.int .i64 a2_3) := (bkC BK365.out 3).trans rfl; have hcz134_4 : w131.cell? ⟨gb365, 4, none⟩ = some (.int .i64 a2_4) := (bkC BK365.out 4).trans rfl; have hfz134_0 := bkF BK365.out 0; have hfz134_1 := bkF BK365.out 1; have hfz134_2 := bkF BK365.out 2; have hfz134_3 := bkF BK365.out 3; have hfz134_4 := bkF BK365.out 4; have hcz135_0 : w131.cell? ⟨gb374, 0, none⟩ = some (.int .i64 (wrap64 (a0_0 + a1_0))) := (bkC BK374.out 0).trans rfl; have hcz135_1 : w131.cell? ⟨gb374, 1, none⟩ = some (.int .i64 (wrap64 (a0_1 + a1_1))) := (bkC BK374.out 1).trans rfl; have hfz135_0 := bkF BK374.out 0; have hfz135_1 := bkF BK374.out 1) | (go_at_call 27; (with_reducible refine (geometry_Crosses.calls k1 (wrap64 (2 * a0_0)) (wrap64 (2 * a0_1)) (wrap64 (2 * a1_0)) (wrap64 (2 * a1_1)) a2_2 a2_3 (wrap64 (a0_0 + a1_0)) (wrap64 (a0_1 + a1_1)) 0 true _ A75.out).mono ?_); rintro e w136 ⟨rfl, hb⟩; have n0_ := Aside0.mk (Kd.R_below (by (with_reducible repeat (first | apply Kd.R_alloc | apply Kd.R_drewN | apply Kd.R_drew)); exact HO_21.out) hb); have n1_ := Aside0.mk (bkB (g := gb363) (o := .cells #[.int .i64 a0_0, .int .i64 a0_1] 28 (0, 0)) (by (with_reducible repeat (first | refine bkN ?_ _ | refine bkD ?_ | refine bkA ?_ _)); exact BK363.out) hb); have n2_ := Aside0.mk (bkB (g := gb364) (o := .cells #[.int .i64 a1_0, .int .i64 a1_1] 28 (0, 0)) (by (with_reducible repeat (first | refine bkN ?_ _ | refine bkD ?_ | refine bkA ?_ _)); exact BK364.out) hb); have n3_ := Aside0.mk (bkB (g := gb365) (o := .cells #[.int .i64 a2_0, .int .i64 a2_1, .int .i64 a2_2, .int .i64 a2_3, .int .i64 a2_4] 47 (0, 0)) (by (with_reducible repeat (first | refine bkN ?_ _ | refine bkD ?_ | refine bkA ?_ _)); exact BK365.out) hb); have n4_ := Aside0.mk (bkB (g := gb372) (o := .cells #[.int .i64 (wrap64 (2 * a0_0)), .int .i64 (wrap64 (2 * a0_1))] 28 (0, 0)) (by (with_reducible repeat (first | refine bkN ?_ _ | refine bkD ?_ | refine bkA ?_ _)); exact BK372.out) hb); have n5_ := Aside0.mk (bkB (g := gb373) (o := .cells #[.int .i64 (wrap64 (2 * a1_0)), .int .i64 (wrap64 (2 * a1_1))] 28 (0, 0)) (by (with_reducible repeat (first | refine bkN ?_ _ | refine bkD ?_ | refine bkA ?_ _)); exact BK373.out) hb); have n6_ := Aside0.mk (bkB (g := gb374) (o := .cells #[.int .i64 (wrap64 (a0_0 + a1_0)), .int .i64 (wrap64 (a0_1 + a1_1))] 28 (0, 0)) (by (with_reducible repeat (first | refine bkN ?_ _ | refine bkD ?_ | refine bkA ?_ _)); exact BK374.out) hb); have n7_ := Aside0.mk (below_step (by repeat (first | (with_reducible first | exact HB.out | apply blA | apply blN | apply blD | refine blS ?_ GE363.out | refine blS ?_ GE364.out | refine blS ?_ GE365.out | refine blS ?_ GE372.out | refine blS ?_ GE373.out | refine blS ?_ GE374.out) | exact HB.out)) hb); clear HO_21; clear BK363; clear BK364; clear BK365; clear BK372; clear BK373; clear BK374; clear HB; have HO_21 := n0_; have BK363 := n1_; have BK364 := n2_; have BK365 := n3_; have BK372 := n4_; have BK373 := n5_; have BK374 := n6_; have HB := n7_; clear n0_ n1_ n2_ n3_ n4_ n5_ n6_ n7_; (try clear hb); (try clear hb2); (try clear hk); (try clear hi); have hnb137 := NB363_364.out; have hnc137 := NB364_363.out; have hcz138_0 : w136.cell? ⟨gb363, 0, none⟩ = some (.int .i64 a0_0) := (bkC BK363.out 0).trans rfl; have hcz138_1 : w136.cell? ⟨gb363, 1, none⟩ = some (.int .i64 a0_1) := (bkC BK363.out 1).trans rfl; have hfz138_0 := bkF BK363.out 0; have hfz138_1 := bkF BK363.out 1; have hcz139_0 : w136.cell? ⟨gb364, 0, none⟩ = some (.int .i64 a1_0) := (bkC BK364.out 0).trans rfl; have hcz139_1 : w136.cell? ⟨gb364, 1, none⟩ = some (.int .i64 a1_1) := (bkC BK364.out 1).trans rfl; have hfz139_0 := bkF BK364.out 0; have hfz139_1 := bkF BK364.out 1; have hcz140_0 : w136.cell? ⟨gb365, 0, none⟩ = some (.int .i64 a2_0) := (bkC BK365.out 0).trans rfl; have hcz140_1 : w136.cell? ⟨gb365, 1, none⟩ = some (.int .i64 a2_1) := (bkC BK365.out 1).trans rfl; have hcz140_2 : w136.cell? ⟨gb365, 2, none⟩ = some (.int .i64 a2_2) := (bkC BK365.out 2).trans rfl; have hcz140_3 : w136.cell? ⟨gb365, 3, none⟩ = some (.int .i64 a2_3) := (bkC BK365.out 3).trans rfl; have hcz140_4 : w136.cell? ⟨gb365, 4, none⟩ = some (.int .i64 a2_4) := (bkC BK365.out 4).trans rfl; have hfz140_0 := bkF BK365.out 0; have hfz140_1 := bkF BK365.out 1; have hfz140_2 := bkF BK365.out 2; have hfz140_3 := bkF BK365.out 3; have hfz140_4 := bkF BK365.out 4) | (go_at_call 27; (with_reducible refine (geometry_Crosses.calls k1 a0_0 a0_1 a1_0 a1_1 a0_0 a0_1 a2_0 a2_1 0 false _ A77.out).mono ?_); rintro e w141 ⟨rfl, hb⟩; have n0_ := Aside0.mk (Kd.R_below (by (with_reducible repeat (first | apply Kd.R_alloc | apply Kd.R_drewN | apply Kd.R_drew)); exact HO_21.out) hb); have n1_ := Aside0.mk (bkB (g := gb363) (o := .cells #[.int .i64 a0_0, .int .i64 a0_1] 28 (0, 0)) (by (with_reducible repeat (first | refine bkN ?_ _ | refine bkD ?_ | refine bkA ?_ _)); exact BK363.out) hb); have n2_ := Aside0.mk (bkB (g := gb364) (o := .cells #[.int .i64 a1_0, .int .i64 a1_1] 28 (0, 0)) (by (with_reducible repeat (first | refine bkN ?_ _ | refine bkD ?_ | refine bkA ?_ _)); exact BK364.out) hb); have n3_ := Aside0.mk (bkB (g := gb365) (o := .cells #[.int .i64 a2_0, .int .i64 a2_1, .int .i64 a2_2, .int .i64 a2_3, .int .i64 a2_4] 47 (0, 0)) (by (with_reducible repeat (first | refine bkN ?_ _ | refine bkD ?_ | refine bkA ?_ _)); exact BK365.out) hb); have n4_ := Aside0.mk (bkB (g := gb372) (o := .cells #[.int .i64 (wrap64 (2 * a0_0)), .int .i64 (wrap64 (2 * a0_1))] 28 (0, 0)) (by (with_reducible repeat (first | refine bkN ?_ _ | refine bkD ?_ | refine bkA ?_ _)); exact BK372.out) hb); have n5_ := Aside0.mk (bkB (g := gb373) (o := .cells #[.int .i64 (wrap64 (2 * a1_0)), .int .i64 (wrap64 (2 * a1_1))] 28 (0, 0)) (by (with_reducible repeat (first | refine bkN ?_ _ | refine bkD ?_ | refine bkA ?_ _)); exact BK373.out) hb); have n6_ := Aside0.mk (bkB (g := gb374) (o := .cells #[.int .i64 (wrap64 (a0_0 + a1_0)), .int .i64 (wrap64 (a0_1 + a1_1))] 28 (0, 0)) (by (with_reducible repeat (first | refine bkN ?_ _ | refine bkD ?_ | refine bkA ?_ _)); exact BK374.out) hb); have n7_ := Aside0.mk (below_step (by repeat (first | (with_reducible first | exact HB.out | apply blA | apply blN | apply blD | refine blS ?_ GE363.out | refine blS ?_ GE364.out | refine blS ?_ GE365.out | refine blS ?_ GE372.out | refine blS ?_ GE373.out | refine blS ?_ GE374.out) | exact HB.out)) hb); clear HO_21; clear BK363; clear BK364; clear BK365; clear BK372; clear BK373; clear BK374; clear HB; have HO_21 := n0_; have BK363 := n1_; have BK364 := n2_; have BK365 := n3_; have BK372 := n4_; have BK373 := n5_; have BK374 := n6_; have HB := n7_; clear n0_ n1_ n2_ n3_ n4_ n5_ n6_ n7_; (try clear hb); (try clear hb2); (try clear hk); (try clear hi)))
        go_meet
        case rel => exact ⟨_, (true), (by first | rfl | (simp; done) | (simp [*]; done)), H', ⟨by have := HK1.out; first | omega | exact Nat.le_refl _⟩, ⟨by (with_reducible repeat (first | refine bkN ?_ _ | refine bkD ?_ | refine bkA ?_ _)); exact BK363.out⟩, ⟨by (with_reducible repeat (first | refine bkN ?_ _ | refine bkD ?_ | refine bkA ?_ _)); exact BK364.out⟩, ⟨by (with_reducible repeat (first | refine bkN ?_ _ | refine bkD ?_ | refine bkA ?_ _)); exact BK365.out⟩, ⟨by (with_reducible repeat (first | refine bkN ?_ _ | refine bkD ?_ | refine bkA ?_ _)); exact BK372.out⟩, ⟨by (with_reducible repeat (first | refine bkN ?_ _ | refine bkD ?_ | refine bkA ?_ _)); exact BK373.out⟩, ⟨by (with_reducible repeat (first | refine bkN ?_ _ | refine bkD ?_ | refine bkA ?_ _)); exact BK374.out⟩, ⟨by repeat (first | (with_reducible first | exact HB.out | apply blA | apply blN | apply blD | refine blS ?_ GE363.out | refine blS ?_ GE364.out | refine blS ?_ GE365.out | refine blS ?_ GE372.out | refine blS ?_ GE373.out | refine blS ?_ GE374.out) | exact HB.out)⟩⟩
       subst c78
       have H1 : ((geometry_Crosses.f k1 a0_0 a0_1 a1_0 a1_1 a2_2 a2_3 a1_0 a1_1 0).bind fun t378 => (hopmeshlaw05_GeometryCrossings.j2 k1 (!t378) a0_0 a0_1 a1_0 a1_1 a2_0 a2_1 a2_2 a2_3 a2_4)) = some r := by rw [if_pos rfl] at H; exact H
       clear H
       have H := H1
       clear H1
       replace H := Option.bind_eq_some_iff.mp H
       obtain ⟨t378, A790, H⟩ := H
       replace H : (hopmeshlaw05_GeometryCrossings.j2 k1 (!t378) a0_0 a0_1 a1_0 a1_1 a2_0 a2_1 a2_2 a2_3 a2_4) = some r := H
       have A79 := Aside0.mk A790
       clear A790
       have H' := Aside0.mk H
       clear H
       have hnb80 := NB372_363.out
       have hnc80 := NB363_372.out
       have hnb81 := NB372_364.out
       have hnc81 := NB364_372.out
       have hnb82 := NB372_365.out
       have hnc82 := NB365_372.out
       have hnb83 := NB372_373.out
       have hnc83 := NB373_372.out
       have hnb84 := NB372_374.out
       have hnc84 := NB374_372.out
       have hcz85_0 : w66.cell? ⟨gb372, 0, none⟩ = some (.int .i64 (wrap64 (2 * a0_0))) := (bkC BK372.out 0).trans rfl
       have hcz85_1 : w66.cell? ⟨gb372, 1, none⟩ = some (.int .i64 (wrap64 (2 * a0_1))) := (bkC BK372.out 1).trans rfl
       have hfz85_0 := bkF BK372.out 0
       have hfz85_1 := bkF BK372.out 1
       have hnb86 := NB373_363.out
       have hnc86 := NB363_373.out
       have hnb87 := NB373_364.out
       have hnc87 := NB364_373.out
       have hnb88 := NB373_365.out
       have hnc88 := NB365_373.out
       have hnb89 := NB373_374.out
       have hnc89 := NB374_373.out
       have hcz90_0 : w66.cell? ⟨gb373, 0, none⟩ = some (.int .i64 (wrap64 (2 * a1_0))) := (bkC BK373.out 0).trans rfl
       have hcz90_1 : w66.cell? ⟨gb373, 1, none⟩ = some (.int .i64 (wrap64 (2 * a1_1))) := (bkC BK373.out 1).trans rfl
       have hfz90_0 := bkF BK373.out 0
       have hfz90_1 := bkF BK373.out 1
       have hnb91 := NB374_363.out
       have hnc91 := NB363_374.out
       have hnb92 := NB374_364.out
       have hnc92 := NB364_374.out
       have hnb93 := NB374_365.out
       have hnc93 := NB365_374.out
       have hcz94_0 : w66.cell? ⟨gb374, 0, none⟩ = some (.int .i64 0) := (bkC BK374.out 0).trans rfl
       have hcz94_1 : w66.cell? ⟨gb374, 1, none⟩ = some (.int .i64 0) := (bkC BK374.out 1).trans rfl
       have hfz94_0 := bkF BK374.out 0
       have hfz94_1 := bkF BK374.out 1
       have hnb95 := NB365_363.out
       have hnc95 := NB363_365.out
       have hnb96 := NB365_364.out
       have hnc96 := NB364_365.out
       have hcz97_0 : w66.cell? ⟨gb365, 0, none⟩ = some (.int .i64 a2_0) := (bkC BK365.out 0).trans rfl
       have hcz97_1 : w66.cell? ⟨gb365, 1, none⟩ = some (.int .i64 a2_1) := (bkC BK365.out 1).trans rfl
       have hcz97_2 : w66.cell? ⟨gb365, 2, none⟩ = some (.int .i64 a2_2) := (bkC BK365.out 2).trans rfl
       have hcz97_3 : w66.cell? ⟨gb365, 3, none⟩ = some (.int .i64 a2_3) := (bkC BK365.out 3).trans rfl
       have hcz97_4 : w66.cell? ⟨gb365, 4, none⟩ = some (.int .i64 a2_4) := (bkC BK365.out 4).trans rfl
       have hfz97_0 := bkF BK365.out 0
       have hfz97_1 := bkF BK365.out 1
       have hfz97_2 := bkF BK365.out 2
       have hfz97_3 := bkF BK365.out 3
       have hfz97_4 := bkF BK365.out 4
       go_wp2_with (first | ((with_reducible refine gate_callee (f := 27) rfl ?_); refine goesL_ (some 77) rfl rfl Try.func27 (by kernel_rfl) rfl #[.agg #[.int .i64 (wrap64 (2 * a0_0)), .int .i64 (wrap64 (2 * a0_1))], .agg #[.int .i64 (wrap64 (2 * a1_0)), .int .i64 (wrap64 (2 * a1_1))], .agg #[.int .i64 (wrap64 (a0_0 + a1_0)), .int .i64 (wrap64 (a0_1 + a1_1)), .int .i64 a2_0, .int .i64 a2_1, .int .i64 0]] rfl (by (try simp only [List.map_toArray, List.map_cons, List.map_nil]); first | done | rfl | (simp only [List.length_drop, List.length_take]; rfl)) ?_; (with_reducible refine (geometry_Crosses.calls k1 (wrap64 (2 * a0_0)) (wrap64 (2 * a0_1)) (wrap64 (2 * a1_0)) (wrap64 (2 * a1_1)) (wrap64 (a0_0 + a1_0)) (wrap64 (a0_1 + a1_1)) a2_0 a2_1 0 true _ A73.out).mono ?_); rintro e w98 ⟨rfl, hb⟩; refine ⟨_, rfl, ?_⟩; have n0_ := Aside0.mk (Kd.R_below (by (with_reducible repeat (first | apply Kd.R_alloc | apply Kd.R_drewN | apply Kd.R_drew)); exact (Kd.R_mono (Kd.R_far (p := ⟨gb374, 1, none⟩) (Kd.R_far (p := ⟨gb374, 0, none⟩) (Kd.R_mono HO_21.out (fun k_ hk => (⟨hk, hk.2⟩ : _ ∧ k_ ≠ gb374))) (fun _ hk => hk.2) (.int .i64 (wrap64 (a0_0 + a1_0)))) (fun _ hk => hk.2) (.int .i64 (wrap64 (a0_1 + a1_1)))) (fun _ h_ => h_.1))) hb); have n1_ := Aside0.mk (bkB (g := gb363) (o := .cells #[.int .i64 a0_0, .int .i64 a0_1] 28 (0, 0)) (by (with_reducible repeat (first | refine bkN ?_ _ | refine bkD ?_ | refine bkA ?_ _)); refine blk_far ?_ NB363_374.out _; (with_reducible repeat (first | refine bkN ?_ _ | refine bkD ?_ | refine bkA ?_ _)); refine blk_far ?_ NB363_374.out _; (with_reducible repeat (first | refine bkN ?_ _ | refine bkD ?_ | refine bkA ?_ _)); exact BK363.out) hb); have n2_ := Aside0.mk (bkB (g := gb364) (o := .cells #[.int .i64 a1_0, .int .i64 a1_1] 28 (0, 0)) (by (with_reducible repeat (first | refine bkN ?_ _ | refine bkD ?_ | refine bkA ?_ _)); refine blk_far ?_ NB364_374.out _; (with_reducible repeat (first | refine bkN ?_ _ | refine bkD ?_ | refine bkA ?_ _)); refine blk_far ?_ NB364_374.out _; (with_reducible repeat (first | refine bkN ?_ _ | refine bkD ?_ | refine bkA ?_ _)); exact BK364.out) hb); have n3_ := Aside0.mk (bkB (g := gb365) (o := .cells #[.int .i64 a2_0, .int .i64 a2_1, .int .i64 a2_2, .int .i64 a2_3, .int .i64 a2_4] 47 (0, 0)) (by (with_reducible repeat (first | refine bkN ?_ _ | refine bkD ?_ | refine bkA ?_ _)); refine blk_far ?_ NB365_374.out _; (with_reducible repeat (first | refine bkN ?_ _ | refine bkD ?_ | refine bkA ?_ _)); refine blk_far ?_ NB365_374.out _; (with_reducible repeat (first | refine bkN ?_ _ | refine bkD ?_ | refine bkA ?_ _)); exact BK365.out) hb); have n4_ := Aside0.mk (bkB (g := gb372) (o := .cells #[.int .i64 (wrap64 (2 * a0_0)), .int .i64 (wrap64 (2 * a0_1))] 28 (0, 0)) (by (with_reducible repeat (first | refine bkN ?_ _ | refine bkD ?_ | refine bkA ?_ _)); refine blk_far ?_ NB372_374.out _; (with_reducible repeat (first | refine bkN ?_ _ | refine bkD ?_ | refine bkA ?_ _)); refine blk_far ?_ NB372_374.out _; (with_reducible repeat (first | refine bkN ?_ _ | refine bkD ?_ | refine bkA ?_ _)); exact BK372.out) hb); have n5_ := Aside0.mk (bkB (g := gb373) (o := .cells #[.int .i64 (wrap64 (2 * a1_0)), .int .i64 (wrap64 (2 * a1_1))] 28 (0, 0)) (by (with_reducible repeat (first | refine bkN ?_ _ | refine bkD ?_ | refine bkA ?_ _)); refine blk_far ?_ NB373_374.out _; (with_reducible repeat (first | refine bkN ?_ _ | refine bkD ?_ | refine bkA ?_ _)); refine blk_far ?_ NB373_374.out _; (with_reducible repeat (first | refine bkN ?_ _ | refine bkD ?_ | refine bkA ?_ _)); exact BK373.out) hb); have n6_ := Aside0.mk (bkB (g := gb374) (o := .cells #[.int .i64 (wrap64 (a0_0 + a1_0)), .int .i64 (wrap64 (a0_1 + a1_1))] 28 (0, 0)) (by (with_reducible repeat (first | refine bkN ?_ _ | refine bkD ?_ | refine bkA ?_ _)); refine blk_put (cs := #[.int .i64 (wrap64 (a0_0 + a1_0)), .int .i64 0]) ?_ 1 _ rfl; (with_reducible repeat (first | refine bkN ?_ _ | refine bkD ?_ | refine bkA ?_ _)); refine blk_put (cs := #[.int .i64 0, .int .i64 0]) ?_ 0 _ rfl; (with_reducible repeat (first | refine bkN ?_ _ | refine bkD ?_ | refine bkA ?_ _)); exact BK374.out) hb); have n7_ := Aside0.mk (below_step (by repeat (first | (with_reducible first | exact HB.out | apply blA | apply blN | apply blD | refine blS ?_ GE363.out | refine blS ?_ GE364.out | refine blS ?_ GE365.out | refine blS ?_ GE372.out | refine blS ?_ GE373.out | refine blS ?_ GE374.out) | exact HB.out)) hb); clear HO_21; clear BK363; clear BK364; clear BK365; clear BK372; clear BK373; clear BK374; clear HB; have HO_21 := n0_; have BK363 := n1_; have BK364 := n2_; have BK365 := n3_; have BK372 := n4_; have BK373 := n5_; have BK374 := n6_; have HB := n7_; clear n0_ n1_ n2_ n3_ n4_ n5_ n6_ n7_; (try clear hb); (try clear hb2); (try clear hk); (try clear hi); have hcz99_0 : w98.cell? ⟨gb372, 0, none⟩ = some (.int .i64 (wrap64 (2 * a0_0))) := (bkC BK372.out 0).trans rfl; have hcz99_1 : w98.cell? ⟨gb372, 1, none⟩ = some (.int .i64 (wrap64 (2 * a0_1))) := (bkC BK372.out 1).trans rfl; have hfz99_0 := bkF BK372.out 0; have hfz99_1 := bkF BK372.out 1; have hcz100_0 : w98.cell? ⟨gb373, 0, none⟩ = some (.int .i64 (wrap64 (2 * a1_0))) := (bkC BK373.out 0).trans rfl; have hcz100_1 : w98.cell? ⟨gb373, 1, none⟩ = some (.int .i64 (wrap64 (2 * a1_1))) := (bkC BK373.out 1).trans rfl; have hfz100_0 := bkF BK373.out 0; have hfz100_1 := bkF BK373.out 1; have hcz101_0 : w98.cell? ⟨gb365, 0, none⟩ = some (.int .i64 a2_0) := (bkC BK365.out 0).trans rfl; have hcz101_1 : w98.cell? ⟨gb365, 1, none⟩ = some (.int .i64 a2_1) := (bkC BK365.out 1).trans rfl; have hcz101_2 : w98.cell? ⟨gb365, 2, none⟩ = some (.int .i64 a2_2) := (bkC BK365.out 2).trans rfl; have hcz101_3 : w98.cell? ⟨gb365, 3, none⟩ = some (.int .i64 a2_3) := (bkC BK365.out 3).trans rfl; have hcz101_4 : w98.cell? ⟨gb365, 4, none⟩ = some (.int .i64 a2_4) := (bkC BK365.out 4).trans rfl; have hfz101_0 := bkF BK365.out 0; have hfz101_1 := bkF BK365.out 1; have hfz101_2 := bkF BK365.out 2; have hfz101_3 := bkF BK365.out 3; have hfz101_4 := bkF BK365.out 4; have hcz102_0 : w98.cell? ⟨gb374, 0, none⟩ = some (.int .i64 (wrap64 (a0_0 + a1_0))) := (bkC BK374.out 0).trans rfl; have hcz102_1 : w98.cell? ⟨gb374, 1, none⟩ = some (.int .i64 (wrap64 (a0_1 + a1_1))) := (bkC BK374.out 1).trans rfl; have hfz102_0 := bkF BK374.out 0; have hfz102_1 := bkF BK374.out 1) | (go_at_call 27; (with_reducible refine (geometry_Crosses.calls k1 (wrap64 (2 * a0_0)) (wrap64 (2 * a0_1)) (wrap64 (2 * a1_0)) (wrap64 (2 * a1_1)) a2_2 a2_3 (wrap64 (a0_0 + a1_0)) (wrap64 (a0_1 + a1_1)) 0 true _ A75.out).mono ?_); rintro e w103 ⟨rfl, hb⟩; have n0_ := Aside0.mk (Kd.R_below (by (with_reducible repeat (first | apply Kd.R_alloc | apply Kd.R_drewN | apply Kd.R_drew)); exact HO_21.out) hb); have n1_ := Aside0.mk (bkB (g := gb363) (o := .cells #[.int .i64 a0_0, .int .i64 a0_1] 28 (0, 0)) (by (with_reducible repeat (first | refine bkN ?_ _ | refine bkD ?_ | refine bkA ?_ _)); exact BK363.out) hb); have n2_ := Aside0.mk (bkB (g := gb364) (o := .cells #[.int .i64 a1_0, .int .i64 a1_1] 28 (0, 0)) (by (with_reducible repeat (first | refine bkN ?_ _ | refine bkD ?_ | refine bkA ?_ _)); exact BK364.out) hb); have n3_ := Aside0.mk (bkB (g := gb365) (o := .cells #[.int .i64 a2_0, .int .i64 a2_1, .int .i64 a2_2, .int .i64 a2_3, .int .i64 a2_4] 47 (0, 0)) (by (with_reducible repeat (first | refine bkN ?_ _ | refine bkD ?_ | refine bkA ?_ _)); exact BK365.out) hb); have n4_ := Aside0.mk (bkB (g := gb372) (o := .cells #[.int .i64 (wrap64 (2 * a0_0)), .int .i64 (wrap64 (2 * a0_1))] 28 (0, 0)) (by (with_reducible repeat (first | refine bkN ?_ _ | refine bkD ?_ | refine bkA ?_ _)); exact BK372.out) hb); have n5_ := Aside0.mk (bkB (g := gb373) (o := .cells #[.int .i64 (wrap64 (2 * a1_0)), .int .i64 (wrap64 (2 * a1_1))] 28 (0, 0)) (by (with_reducible repeat (first | refine bkN ?_ _ | refine bkD ?_ | refine bkA ?_ _)); exact BK373.out) hb); have n6_ := Aside0.mk (bkB (g := gb374) (o := .cells #[.int .i64 (wrap64 (a0_0 + a1_0)), .int .i64 (wrap64 (a0_1 + a1_1))] 28 (0, 0)) (by (with_reducible repeat (first | refine bkN ?_ _ | refine bkD ?_ | refine bkA ?_ _)); exact BK374.out) hb); have n7_ := Aside0.mk (below_step (by repeat (first | (with_reducible first | exact HB.out | apply blA | apply blN | apply blD | refine blS ?_ GE363.out | refine blS ?_ GE364.out | refine blS ?_ GE365.out | refine blS ?_ GE372.out | refine blS ?_ GE373.out | refine blS ?_ GE374.out) | exact HB.out)) hb); clear HO_21; clear BK363; clear BK364; clear BK365; clear BK372; clear BK373; clear BK374; clear HB; have HO_21 := n0_; have BK363 := n1_; have BK364 := n2_; have BK365 := n3_; have BK372 := n4_; have BK373 := n5_; have BK374 := n6_; have HB := n7_; clear n0_ n1_ n2_ n3_ n4_ n5_ n6_ n7_; (try clear hb); (try clear hb2); (try clear hk); (try clear hi); have hnb104 := NB363_364.out; have hnc104 := NB364_363.out; have hcz105_0 : w103.cell? ⟨gb363, 0, none⟩ = some (.int .i64 a0_0) := (bkC BK363.out 0).trans rfl; have hcz105_1 : w103.cell? ⟨gb363, 1, none⟩ = some (.int .i64 a0_1) := (bkC BK363.out 1).trans rfl; have hfz105_0 := bkF BK363.out 0; have hfz105_1 := bkF BK363.out 1; have hcz106_0 : w103.cell? ⟨gb364, 0, none⟩ = some (.int .i64 a1_0) := (bkC BK364.out 0).trans rfl; have hcz106_1 : w103.cell? ⟨gb364, 1, none⟩ = some (.int .i64 a1_1) := (bkC BK364.out 1).trans rfl; have hfz106_0 := bkF BK364.out 0; have hfz106_1 := bkF BK364.out 1; have hcz107_0 : w103.cell? ⟨gb365, 0, none⟩ = some (.int .i64 a2_0) := (bkC BK365.out 0).trans rfl; have hcz107_1 : w103.cell? ⟨gb365, 1, none⟩ = some (.int .i64 a2_1) := (bkC BK365.out 1).trans rfl; have hcz107_2 : w103.cell? ⟨gb365, 2, none⟩ = some (.int .i64 a2_2) := (bkC BK365.out 2).trans rfl; have hcz107_3 : w103.cell? ⟨gb365, 3, none⟩ = some (.int .i64 a2_3) := (bkC BK365.out 3).trans rfl; have hcz107_4 : w103.cell? ⟨gb365, 4, none⟩ = some (.int .i64 a2_4) := (bkC BK365.out 4).trans rfl; have hfz107_0 := bkF BK365.out 0; have hfz107_1 := bkF BK365.out 1; have hfz107_2 := bkF BK365.out 2; have hfz107_3 := bkF BK365.out 3; have hfz107_4 := bkF BK365.out 4) | (go_at_call 27; (with_reducible refine (geometry_Crosses.calls k1 a0_0 a0_1 a1_0 a1_1 a0_0 a0_1 a2_0 a2_1 0 true _ A77.out).mono ?_); rintro e w108 ⟨rfl, hb⟩; have n0_ := Aside0.mk (Kd.R_below (by (with_reducible repeat (first | apply Kd.R_alloc | apply Kd.R_drewN | apply Kd.R_drew)); exact HO_21.out) hb); have n1_ := Aside0.mk (bkB (g := gb363) (o := .cells #[.int .i64 a0_0, .int .i64 a0_1] 28 (0, 0)) (by (with_reducible repeat (first | refine bkN ?_ _ | refine bkD ?_ | refine bkA ?_ _)); exact BK363.out) hb); have n2_ := Aside0.mk (bkB (g := gb364) (o := .cells #[.int .i64 a1_0, .int .i64 a1_1] 28 (0, 0)) (by (with_reducible repeat (first | refine bkN ?_ _ | refine bkD ?_ | refine bkA ?_ _)); exact BK364.out) hb); have n3_ := Aside0.mk (bkB (g := gb365) (o := .cells #[.int .i64 a2_0, .int .i64 a2_1, .int .i64 a2_2, .int .i64 a2_3, .int .i64 a2_4] 47 (0, 0)) (by (with_reducible repeat (first | refine bkN ?_ _ | refine bkD ?_ | refine bkA ?_ _)); exact BK365.out) hb); have n4_ := Aside0.mk (bkB (g := gb372) (o := .cells #[.int .i64 (wrap64 (2 * a0_0)), .int .i64 (wrap64 (2 * a0_1))] 28 (0, 0)) (by (with_reducible repeat (first | refine bkN ?_ _ | refine bkD ?_ | refine bkA ?_ _)); exact BK372.out) hb); have n5_ := Aside0.mk (bkB (g := gb373) (o := .cells #[.int .i64 (wrap64 (2 * a1_0)), .int .i64 (wrap64 (2 * a1_1))] 28 (0, 0)) (by (with_reducible repeat (first | refine bkN ?_ _ | refine bkD ?_ | refine bkA ?_ _)); exact BK373.out) hb); have n6_ := Aside0.mk (bkB (g := gb374) (o := .cells #[.int .i64 (wrap64 (a0_0 + a1_0)), .int .i64 (wrap64 (a0_1 + a1_1))] 28 (0, 0)) (by (with_reducible repeat (first | refine bkN ?_ _ | refine bkD ?_ | refine bkA ?_ _)); exact BK374.out) hb); have n7_ := Aside0.mk (below_step (by repeat (first | (with_reducible first | exact HB.out | apply blA | apply blN | apply blD | refine blS ?_ GE363.out | refine blS ?_ GE364.out | refine blS ?_ GE365.out | refine blS ?_ GE372.out | refine blS ?_ GE373.out | refine blS ?_ GE374.out) | exact HB.out)) hb); clear HO_21; clear BK363; clear BK364; clear BK365; clear BK372; clear BK373; clear BK374; clear HB; have HO_21 := n0_; have BK363 := n1_; have BK364 := n2_; have BK365 := n3_; have BK372 := n4_; have BK373 := n5_; have BK374 := n6_; have HB := n7_; clear n0_ n1_ n2_ n3_ n4_ n5_ n6_ n7_; (try clear hb); (try clear hb2); (try clear hk); (try clear hi); have hcz109_0 : w108.cell? ⟨gb363, 0, none⟩ = some (.int .i64 a0_0) := (bkC BK363.out 0).trans rfl; have hcz109_1 : w108.cell? ⟨gb363, 1, none⟩ = some (.int .i64 a0_1) := (bkC BK363.out 1).trans rfl; have hfz109_0 := bkF BK363.out 0; have hfz109_1 := bkF BK363.out 1; have hcz110_0 : w108.cell? ⟨gb364, 0, none⟩ = some (.int .i64 a1_0) := (bkC BK364.out 0).trans rfl; have hcz110_1 : w108.cell? ⟨gb364, 1, none⟩ = some (.int .i64 a1_1) := (bkC BK364.out 1).trans rfl; have hfz110_0 := bkF BK364.out 0; have hfz110_1 := bkF BK364.out 1; have hcz111_0 : w108.cell? ⟨gb365, 0, none⟩ = some (.int .i64 a2_0) := (bkC BK365.out 0).trans rfl; have hcz111_1 : w108.cell? ⟨gb365, 1, none⟩ = some (.int .i64 a2_1) := (bkC BK365.out 1).trans rfl; have hcz111_2 : w108.cell? ⟨gb365, 2, none⟩ = some (.int .i64 a2_2) := (bkC BK365.out 2).trans rfl; have hcz111_3 : w108.cell? ⟨gb365, 3, none⟩ = some (.int .i64 a2_3) := (bkC BK365.out 3).trans rfl; have hcz111_4 : w108.cell? ⟨gb365, 4, none⟩ = some (.int .i64 a2_4) := (bkC BK365.out 4).trans rfl; have hfz111_0 := bkF BK365.out 0; have hfz111_1 := bkF BK365.out 1; have hfz111_2 := bkF BK365.out 2; have hfz111_3 := bkF BK365.out 3; have hfz111_4 := bkF BK365.out 4) | (go_at_call 27; (with_reducible refine (geometry_Crosses.calls k1 a0_0 a0_1 a1_0 a1_1 a2_2 a2_3 a1_0 a1_1 0 t378 _ A79.out).mono ?_); rintro e w112 ⟨rfl, hb⟩; have n0_ := Aside0.mk (Kd.R_below (by (with_reducible repeat (first | apply Kd.R_alloc | apply Kd.R_drewN | apply Kd.R_drew)); exact HO_21.out) hb); have n1_ := Aside0.mk (bkB (g := gb363) (o := .cells #[.int .i64 a0_0, .int .i64 a0_1] 28 (0, 0)) (by (with_reducible repeat (first | refine bkN ?_ _ | refine bkD ?_ | refine bkA ?_ _)); exact BK363.out) hb); have n2_ := Aside0.mk (bkB (g := gb364) (o := .cells #[.int .i64 a1_0, .int .i64 a1_1] 28 (0, 0)) (by (with_reducible repeat (first | refine bkN ?_ _ | refine bkD ?_ | refine bkA ?_ _)); exact BK364.out) hb); have n3_ := Aside0.mk (bkB (g := gb365) (o := .cells #[.int .i64 a2_0, .int .i64 a2_1, .int .i64 a2_2, .int .i64 a2_3, .int .i64 a2_4] 47 (0, 0)) (by (with_reducible repeat (first | refine bkN ?_ _ | refine bkD ?_ | refine bkA ?_ _)); exact BK365.out) hb); have n4_ := Aside0.mk (bkB (g := gb372) (o := .cells #[.int .i64 (wrap64 (2 * a0_0)), .int .i64 (wrap64 (2 * a0_1))] 28 (0, 0)) (by (with_reducible repeat (first | refine bkN ?_ _ | refine bkD ?_ | refine bkA ?_ _)); exact BK372.out) hb); have n5_ := Aside0.mk (bkB (g := gb373) (o := .cells #[.int .i64 (wrap64 (2 * a1_0)), .int .i64 (wrap64 (2 * a1_1))] 28 (0, 0)) (by (with_reducible repeat (first | refine bkN ?_ _ | refine bkD ?_ | refine bkA ?_ _)); exact BK373.out) hb); have n6_ := Aside0.mk (bkB (g := gb374) (o := .cells #[.int .i64 (wrap64 (a0_0 + a1_0)), .int .i64 (wrap64 (a0_1 + a1_1))] 28 (0, 0)) (by (with_reducible repeat (first | refine bkN ?_ _ | refine bkD ?_ | refine bkA ?_ _)); exact BK374.out) hb); have n7_ := Aside0.mk (below_step (by repeat (first | (with_reducible first | exact HB.out | apply blA | apply blN | apply blD | refine blS ?_ GE363.out | refine blS ?_ GE364.out | refine blS ?_ GE365.out | refine blS ?_ GE372.out | refine blS ?_ GE373.out | refine blS ?_ GE374.out) | exact HB.out)) hb); clear HO_21; clear BK363; clear BK364; clear BK365; clear BK372; clear BK373; clear BK374; clear HB; have HO_21 := n0_; have BK363 := n1_; have BK364 := n2_; have BK365 := n3_; have BK372 := n4_; have BK373 := n5_; have BK374 := n6_; have HB := n7_; clear n0_ n1_ n2_ n3_ n4_ n5_ n6_ n7_; (try clear hb); (try clear hb2); (try clear hk); (try clear hi)))
       go_meet
       case rel => exact ⟨_, (!t378), (by first | rfl | (simp; done) | (simp [*]; done)), H', ⟨by have := HK1.out; first | omega | exact Nat.le_refl _⟩, ⟨by (with_reducible repeat (first | refine bkN ?_ _ | refine bkD ?_ | refine bkA ?_ _)); exact BK363.out⟩, ⟨by (with_reducible repeat (first | refine bkN ?_ _ | refine bkD ?_ | refine bkA ?_ _)); exact BK364.out⟩, ⟨by (with_reducible repeat (first | refine bkN ?_ _ | refine bkD ?_ | refine bkA ?_ _)); exact BK365.out⟩, ⟨by (with_reducible repeat (first | refine bkN ?_ _ | refine bkD ?_ | refine bkA ?_ _)); exact BK372.out⟩, ⟨by (with_reducible repeat (first | refine bkN ?_ _ | refine bkD ?_ | refine bkA ?_ _)); exact BK373.out⟩, ⟨by (with_reducible repeat (first | refine bkN ?_ _ | refine bkD ?_ | refine bkA ?_ _)); exact BK374.out⟩, ⟨by repeat (first | (with_reducible first | exact HB.out | apply blA | apply blN | apply blD | refine blS ?_ GE363.out | refine blS ?_ GE364.out | refine blS ?_ GE365.out | refine blS ?_ GE372.out | refine blS ?_ GE373.out | refine blS ?_ GE374.out) | exact HB.out)⟩⟩
     case rest => as_aux_lemma =>
      clear HC48
      try clear c1
      try clear c2
      try clear p2
      try clear c5
      try clear c6
      try clear p6
      try clear c7
      try clear c8
      try clear c9
      try clear c10
      try clear c11
      try clear c12
      try clear c13
      try clear c14
      try clear c15
      try clear c16
      try clear c17
      try clear c18
      try clear c27
      try clear c57
      try clear c58
      try clear c59
      try clear c60
      try clear c62
      try clear c63
      try clear c64
      try clear p64
      try clear c67
      try clear c68
      try clear c69
      try clear c70
      try clear c71
      try clear c74
      try clear c76
      try clear c78
      try clear c80
      try clear c81
      try clear c82
      try clear c83
      try clear c84
      try clear c86
      try clear c87
      try clear c88
      try clear c89
      try clear c91
      try clear c92
      try clear c93
      try clear c95
      try clear c96
      try clear c104
      try clear c113
      try clear c114
      try clear c115
      try clear c116
      try clear c117
      try clear c119
      try clear c120
      try clear c121
      try clear c122
      try clear c124
      try clear c125
      try clear c126
      try clear c128
      try clear c129
      try clear c137
      try clear c142
      try clear c143
      try clear c144
      try clear c145
      try clear c146
      try clear c148
      try clear c149
      try clear c150
      try clear c151
      try clear c153
      try clear c154
      try clear c155
      try clear c157
      try clear c158
      try clear c166
      try clear c167
      try clear c168
      try clear c169
      try clear c170
      try clear c172
      try clear c173
      try clear c174
      try clear c175
      try clear c177
      try clear c178
      try clear c179
      try clear c181
      try clear c182
      try clear hcz100_0
      try clear hcz100_1
      try clear hcz101_0
      try clear hcz101_1
      try clear hcz101_2
      try clear hcz101_3
      try clear hcz101_4
      try clear hcz102_0
      try clear hcz102_1
      try clear hcz105_0
      try clear hcz105_1
      try clear hcz106_0
      try clear hcz106_1
      try clear hcz107_0
      try clear hcz107_1
      try clear hcz107_2
      try clear hcz107_3
      try clear hcz107_4
      try clear hcz109_0
      try clear hcz109_1
      try clear hcz110_0
      try clear hcz110_1
      try clear hcz111_0
      try clear hcz111_1
      try clear hcz111_2
      try clear hcz111_3
      try clear hcz111_4
      try clear hcz118_0
      try clear hcz118_1
      try clear hcz123_0
      try clear hcz123_1
      try clear hcz127_0
      try clear hcz127_1
      try clear hcz130_0
      try clear hcz130_1
      try clear hcz130_2
      try clear hcz130_3
      try clear hcz130_4
      try clear hcz132_0
      try clear hcz132_1
      try clear hcz133_0
      try clear hcz133_1
      try clear hcz134_0
      try clear hcz134_1
      try clear hcz134_2
      try clear hcz134_3
      try clear hcz134_4
      try clear hcz135_0
      try clear hcz135_1
      try clear hcz138_0
      try clear hcz138_1
      try clear hcz139_0
      try clear hcz139_1
      try clear hcz140_0
      try clear hcz140_1
      try clear hcz140_2
      try clear hcz140_3
      try clear hcz140_4
      try clear hcz147_0
      try clear hcz147_1
      try clear hcz152_0
      try clear hcz152_1
      try clear hcz156_0
      try clear hcz156_1
      try clear hcz159_0
      try clear hcz159_1
      try clear hcz159_2
      try clear hcz159_3
      try clear hcz159_4
      try clear hcz161_0
      try clear hcz161_1
      try clear hcz162_0
      try clear hcz162_1
      try clear hcz163_0
      try clear hcz163_1
      try clear hcz163_2
      try clear hcz163_3
      try clear hcz163_4
      try clear hcz164_0
      try clear hcz164_1
      try clear hcz171_0
      try clear hcz171_1
      try clear hcz176_0
      try clear hcz176_1
      try clear hcz180_0
      try clear hcz180_1
      try clear hcz183_0
      try clear hcz183_1
      try clear hcz183_2
      try clear hcz183_3
      try clear hcz183_4
      try clear hcz61_0
      try clear hcz61_1
      try clear hcz65_0
      try clear hcz65_1
      try clear hcz72_0
      try clear hcz72_1
      try clear hcz85_0
      try clear hcz85_1
      try clear hcz90_0
      try clear hcz90_1
      try clear hcz94_0
      try clear hcz94_1
      try clear hcz97_0
      try clear hcz97_1
      try clear hcz97_2
      try clear hcz97_3
      try clear hcz97_4
      try clear hcz99_0
      try clear hcz99_1
      try clear hfz100_0
      try clear hfz100_1
      try clear hfz101_0
      try clear hfz101_1
      try clear hfz101_2
      try clear hfz101_3
      try clear hfz101_4
      try clear hfz102_0
      try clear hfz102_1
      try clear hfz105_0
      try clear hfz105_1
      try clear hfz106_0
      try clear hfz106_1
      try clear hfz107_0
      try clear hfz107_1
      try clear hfz107_2
      try clear hfz107_3
      try clear hfz107_4
      try clear hfz109_0
      try clear hfz109_1
      try clear hfz110_0
      try clear hfz110_1
      try clear hfz111_0
      try clear hfz111_1
      try clear hfz111_2
      try clear hfz111_3
      try clear hfz111_4
      try clear hfz118_0
      try clear hfz118_1
      try clear hfz123_0
      try clear hfz123_1
      try clear hfz127_0
      try clear hfz127_1
      try clear hfz130_0
      try clear hfz130_1
      try clear hfz130_2
      try clear hfz130_3
      try clear hfz130_4
      try clear hfz132_0
      try clear hfz132_1
      try clear hfz133_0
      try clear hfz133_1
      try clear hfz134_0
      try clear hfz134_1
      try clear hfz134_2
      try clear hfz134_3
      try clear hfz134_4
      try clear hfz135_0
      try clear hfz135_1
      try clear hfz138_0
      try clear hfz138_1
      try clear hfz139_0
      try clear hfz139_1
      try clear hfz140_0
      try clear hfz140_1
      try clear hfz140_2
      try clear hfz140_3
      try clear hfz140_4
      try clear hfz147_0
      try clear hfz147_1
      try clear hfz152_0
      try clear hfz152_1
      try clear hfz156_0
      try clear hfz156_1
      try clear hfz159_0
      try clear hfz159_1
      try clear hfz159_2
      try clear hfz159_3
      try clear hfz159_4
      try clear hfz161_0
      try clear hfz161_1
      try clear hfz162_0
      try clear hfz162_1
      try clear hfz163_0
      try clear hfz163_1
      try clear hfz163_2
      try clear hfz163_3
      try clear hfz163_4
      try clear hfz164_0
      try clear hfz164_1
      try clear hfz171_0
      try clear hfz171_1
      try clear hfz176_0
      try clear hfz176_1
      try clear hfz180_0
      try clear hfz180_1
      try clear hfz183_0
      try clear hfz183_1
      try clear hfz183_2
      try clear hfz183_3
      try clear hfz183_4
      try clear hfz61_0
      try clear hfz61_1
      try clear hfz65_0
      try clear hfz65_1
      try clear hfz72_0
      try clear hfz72_1
      try clear hfz85_0
      try clear hfz85_1
      try clear hfz90_0
      try clear hfz90_1
      try clear hfz94_0
      try clear hfz94_1
      try clear hfz97_0
      try clear hfz97_1
      try clear hfz97_2
      try clear hfz97_3
      try clear hfz97_4
      try clear hfz99_0
      try clear hfz99_1
      obtain ⟨kq, x108_47, rfl, HA, HJ47, BK363, BK364, BK365, BK372, BK373, BK374, HB⟩ := hcut
      cases kq with
      | zero => exact absurd HA.out (by simp [hopmeshlaw05_GeometryCrossings.j2])
      | succ kj47 =>
       have H := HA.out
       clear HA
       simp only [hopmeshlaw05_GeometryCrossings.j2] at H
       by_cases c185 : x108_47 = true
       ·subst c185
        have H1 : (some false) = some r := by rw [if_pos rfl] at H; exact H
        clear H
        have H := H1
        clear H1
        exact absurd (H.trans (congrArg some HRT.out)) (by simp)
       replace c185 := Bool.eq_false_iff.mpr c185
       subst c185
       have H1 : (if (mx a0_0 a1_0) < (mn a2_0 a2_2) then ((geometry_Crosses.f kj47 a0_0 a0_1 a1_0 a1_1 a2_0 a2_1 a2_2 a2_3 a2_4).bind fun t379 => (some (!t379))) else (if (mx a2_0 a2_2) < (mn a0_0 a1_0) then ((geometry_Crosses.f kj47 a0_0 a0_1 a1_0 a1_1 a2_0 a2_1 a2_2 a2_3 a2_4).bind fun t380 => (some (!t380))) else (if (mx a0_1 a1_1) < (mn a2_1 a2_3) then ((geometry_Crosses.f kj47 a0_0 a0_1 a1_0 a1_1 a2_0 a2_1 a2_2 a2_3 a2_4).bind fun t381 => (some (!t381))) else (if ((mx a2_1 a2_3) < (mn a0_1 a1_1)) then ((geometry_Crosses.f kj47 a0_0 a0_1 a1_0 a1_1 a2_0 a2_1 a2_2 a2_3 a2_4).bind fun t382 => (some (!t382))) else (some true))))) = some r := by rw [if_neg (show ¬ (false = true) by decide)] at H; exact H
       clear H
       have H := H1
       clear H1
       obtain ⟨ji186, hji186⟩ : ∃ j_ : Int, (mx a0_0 a1_0) = j_ := ⟨_, rfl⟩
       replace H : (if (ji186) < (mn a2_0 a2_2) then ((geometry_Crosses.f kj47 a0_0 a0_1 a1_0 a1_1 a2_0 a2_1 a2_2 a2_3 a2_4).bind fun t379 => (some (!t379))) else (if (mx a2_0 a2_2) < (mn a0_0 a1_0) then ((geometry_Crosses.f kj47 a0_0 a0_1 a1_0 a1_1 a2_0 a2_1 a2_2 a2_3 a2_4).bind fun t380 => (some (!t380))) else (if (mx a0_1 a1_1) < (mn a2_1 a2_3) then ((geometry_Crosses.f kj47 a0_0 a0_1 a1_0 a1_1 a2_0 a2_1 a2_2 a2_3 a2_4).bind fun t381 => (some (!t381))) else (if ((mx a2_1 a2_3) < (mn a0_1 a1_1)) then ((geometry_Crosses.f kj47 a0_0 a0_1 a1_0 a1_1 a2_0 a2_1 a2_2 a2_3 a2_4).bind fun t382 => (some (!t382))) else (some true))))) = some r := by first | (rw [hji186] at H; exact H) | (simp only [hji186] at H ⊢; exact H)
       have hji186_ : (if a0_0 < a1_0 then a1_0 else a0_0) = ji186 := hji186
       obtain ⟨ji187, hji187⟩ : ∃ j_ : Int, (mn a2_0 a2_2) = j_ := ⟨_, rfl⟩
       replace H : (if (ji186) < (ji187) then ((geometry_Crosses.f kj47 a0_0 a0_1 a1_0 a1_1 a2_0 a2_1 a2_2 a2_3 a2_4).bind fun t379 => (some (!t379))) else (if (mx a2_0 a2_2) < (mn a0_0 a1_0) then ((geometry_Crosses.f kj47 a0_0 a0_1 a1_0 a1_1 a2_0 a2_1 a2_2 a2_3 a2_4).bind fun t380 => (some (!t380))) else (if (mx a0_1 a1_1) < (mn a2_1 a2_3) then ((geometry_Crosses.f kj47 a0_0 a0_1 a1_0 a1_1 a2_0 a2_1 a2_2 a2_3 a2_4).bind fun t381 => (some (!t381))) else (if ((mx a2_1 a2_3) < (mn a0_1 a1_1)) then ((geometry_Crosses.f kj47 a0_0 a0_1 a1_0 a1_1 a2_0 a2_1 a2_2 a2_3 a2_4).bind fun t382 => (some (!t382))) else (some true))))) = some r := by first | (rw [hji187] at H; exact H) | (simp only [hji187] at H ⊢; exact H)
       have hji187_ : (if a2_2 < a2_0 then a2_2 else a2_0) = ji187 := hji187
       by_cases c188 : (ji186) < (ji187)
       ·rw [if_pos c188] at H
        have c188b0 : decide ((ji186) < (ji187)) = true := decide_eq_true c188
        clear c188
        replace H := Option.bind_eq_some_iff.mp H
        obtain ⟨t379, A1890, H⟩ := H
        replace H : (some (!t379)) = some r := H
        have A189 := Aside0.mk A1890
        clear A1890
        obtain rfl := Option.some.inj H
        have hnb190 := NB363_364.out
        have hnc190 := NB364_363.out
        have hnb191 := NB363_365.out
        have hnc191 := NB365_363.out
        have hnb192 := NB363_372.out
        have hnc192 := NB372_363.out
        have hnb193 := NB363_373.out
        have hnc193 := NB373_363.out
        have hnb194 := NB363_374.out
        have hnc194 := NB374_363.out
        have hcz195_0 : wc.cell? ⟨gb363, 0, none⟩ = some (.int .i64 a0_0) := (bkC BK363.out 0).trans rfl
        have hcz195_1 : wc.cell? ⟨gb363, 1, none⟩ = some (.int .i64 a0_1) := (bkC BK363.out 1).trans rfl
        have hfz195_0 := bkF BK363.out 0
        have hfz195_1 := bkF BK363.out 1
        have hnb196 := NB364_365.out
        have hnc196 := NB365_364.out
        have hnb197 := NB364_372.out
        have hnc197 := NB372_364.out
        have hnb198 := NB364_373.out
        have hnc198 := NB373_364.out
        have hnb199 := NB364_374.out
        have hnc199 := NB374_364.out
        have hcz200_0 : wc.cell? ⟨gb364, 0, none⟩ = some (.int .i64 a1_0) := (bkC BK364.out 0).trans rfl
        have hcz200_1 : wc.cell? ⟨gb364, 1, none⟩ = some (.int .i64 a1_1) := (bkC BK364.out 1).trans rfl
        have hfz200_0 := bkF BK364.out 0
        have hfz200_1 := bkF BK364.out 1
        have hnb201 := NB365_372.out
        have hnc201 := NB372_365.out
        have hnb202 := NB365_373.out
        have hnc202 := NB373_365.out
        have hnb203 := NB365_374.out
        have hnc203 := NB374_365.out
        have hcz204_0 : wc.cell? ⟨gb365, 0, none⟩ = some (.int .i64 a2_0) := (bkC BK365.out 0).trans rfl
        have hcz204_1 : wc.cell? ⟨gb365, 1, none⟩ = some (.int .i64 a2_1) := (bkC BK365.out 1).trans rfl
        have hcz204_2 : wc.cell? ⟨gb365, 2, none⟩ = some (.int .i64 a2_2) := (bkC BK365.out 2).trans rfl
        have hcz204_3 : wc.cell? ⟨gb365, 3, none⟩ = some (.int .i64 a2_3) := (bkC BK365.out 3).trans rfl
        have hcz204_4 : wc.cell? ⟨gb365, 4, none⟩ = some (.int .i64 a2_4) := (bkC BK365.out 4).trans rfl
        have hfz204_0 := bkF BK365.out 0
        have hfz204_1 := bkF BK365.out 1
        have hfz204_2 := bkF BK365.out 2
        have hfz204_3 := bkF BK365.out 3
        have hfz204_4 := bkF BK365.out 4
        go_wp2_with (first | (go_at_call 27; (with_reducible refine (geometry_Crosses.calls kj47 a0_0 a0_1 a1_0 a1_1 a2_0 a2_1 a2_2 a2_3 a2_4 t379 _ A189.out).mono ?_); rintro e w205 ⟨rfl, hb⟩; have n0_ := Aside0.mk (bkB (g := gb363) (o := .cells #[.int .i64 a0_0, .int .i64 a0_1] 28 (0, 0)) (by (with_reducible repeat (first | refine bkN ?_ _ | refine bkD ?_ | refine bkA ?_ _)); exact BK363.out) hb); have n1_ := Aside0.mk (bkB (g := gb364) (o := .cells #[.int .i64 a1_0, .int .i64 a1_1] 28 (0, 0)) (by (with_reducible repeat (first | refine bkN ?_ _ | refine bkD ?_ | refine bkA ?_ _)); exact BK364.out) hb); have n2_ := Aside0.mk (bkB (g := gb365) (o := .cells #[.int .i64 a2_0, .int .i64 a2_1, .int .i64 a2_2, .int .i64 a2_3, .int .i64 a2_4] 47 (0, 0)) (by (with_reducible repeat (first | refine bkN ?_ _ | refine bkD ?_ | refine bkA ?_ _)); exact BK365.out) hb); have n3_ := Aside0.mk (bkB (g := gb372) (o := .cells #[.int .i64 (wrap64 (2 * a0_0)), .int .i64 (wrap64 (2 * a0_1))] 28 (0, 0)) (by (with_reducible repeat (first | refine bkN ?_ _ | refine bkD ?_ | refine bkA ?_ _)); exact BK372.out) hb); have n4_ := Aside0.mk (bkB (g := gb373) (o := .cells #[.int .i64 (wrap64 (2 * a1_0)), .int .i64 (wrap64 (2 * a1_1))] 28 (0, 0)) (by (with_reducible repeat (first | refine bkN ?_ _ | refine bkD ?_ | refine bkA ?_ _)); exact BK373.out) hb); have n5_ := Aside0.mk (bkB (g := gb374) (o := .cells #[.int .i64 (wrap64 (a0_0 + a1_0)), .int .i64 (wrap64 (a0_1 + a1_1))] 28 (0, 0)) (by (with_reducible repeat (first | refine bkN ?_ _ | refine bkD ?_ | refine bkA ?_ _)); exact BK374.out) hb); have n6_ := Aside0.mk (below_step (by repeat (first | (with_reducible first | exact HB.out | apply blA | apply blN | apply blD | refine blS ?_ GE363.out | refine blS ?_ GE364.out | refine blS ?_ GE365.out | refine blS ?_ GE372.out | refine blS ?_ GE373.out | refine blS ?_ GE374.out) | exact HB.out)) hb); clear BK363; clear BK364; clear BK365; clear BK372; clear BK373; clear BK374; clear HB; have BK363 := n0_; have BK364 := n1_; have BK365 := n2_; have BK372 := n3_; have BK373 := n4_; have BK374 := n5_; have HB := n6_; clear n0_ n1_ n2_ n3_ n4_ n5_ n6_; (try clear hb); (try clear hb2); (try clear hk); (try clear hi)))
        go_ret
        exact ⟨by first | rfl | (simp [errW_none, errW_some] <;> rfl) | (simp only [← hji186, ← hji187]; first | rfl | (simp [errW_none, errW_some] <;> rfl)) | (simp [*, errW_none, errW_some] <;> rfl), by repeat (first | (with_reducible first | exact HB.out | apply blA | apply blN | apply blD | refine blS ?_ GE363.out | refine blS ?_ GE364.out | refine blS ?_ GE365.out | refine blS ?_ GE372.out | refine blS ?_ GE373.out | refine blS ?_ GE374.out) | exact HB.out)⟩
       rw [if_neg c188] at H
       have c188b0 : decide ((ji186) < (ji187)) = false := decide_eq_false c188
       clear c188
       obtain ⟨ji206, hji206⟩ : ∃ j_ : Int, (mx a2_0 a2_2) = j_ := ⟨_, rfl⟩
       replace H : (if (ji206) < (mn a0_0 a1_0) then ((geometry_Crosses.f kj47 a0_0 a0_1 a1_0 a1_1 a2_0 a2_1 a2_2 a2_3 a2_4).bind fun t380 => (some (!t380))) else (if (mx a0_1 a1_1) < (mn a2_1 a2_3) then ((geometry_Crosses.f kj47 a0_0 a0_1 a1_0 a1_1 a2_0 a2_1 a2_2 a2_3 a2_4).bind fun t381 => (some (!t381))) else (if ((mx a2_1 a2_3) < (mn a0_1 a1_1)) then ((geometry_Crosses.f kj47 a0_0 a0_1 a1_0 a1_1 a2_0 a2_1 a2_2 a2_3 a2_4).bind fun t382 => (some (!t382))) else (some true)))) = some r := by first | (rw [hji206] at H; exact H) | (simp only [hji206] at H ⊢; exact H)
       have hji206_ : (if a2_0 < a2_2 then a2_2 else a2_0) = ji206 := hji206
       obtain ⟨ji207, hji207⟩ : ∃ j_ : Int, (mn a0_0 a1_0) = j_ := ⟨_, rfl⟩
       replace H : (if (ji206) < (ji207) then ((geometry_Crosses.f kj47 a0_0 a0_1 a1_0 a1_1 a2_0 a2_1 a2_2 a2_3 a2_4).bind fun t380 => (some (!t380))) else (if (mx a0_1 a1_1) < (mn a2_1 a2_3) then ((geometry_Crosses.f kj47 a0_0 a0_1 a1_0 a1_1 a2_0 a2_1 a2_2 a2_3 a2_4).bind fun t381 => (some (!t381))) else (if ((mx a2_1 a2_3) < (mn a0_1 a1_1)) then ((geometry_Crosses.f kj47 a0_0 a0_1 a1_0 a1_1 a2_0 a2_1 a2_2 a2_3 a2_4).bind fun t382 => (some (!t382))) else (some true)))) = some r := by first | (rw [hji207] at H; exact H) | (simp only [hji207] at H ⊢; exact H)
       have hji207_ : (if a1_0 < a0_0 then a1_0 else a0_0) = ji207 := hji207
       by_cases c208 : (ji206) < (ji207)
       ·rw [if_pos c208] at H
        have c208b0 : decide ((ji206) < (ji207)) = true := decide_eq_true c208
        clear c208
        replace H := Option.bind_eq_some_iff.mp H
        obtain ⟨t380, A2090, H⟩ := H
        replace H : (some (!t380)) = some r := H
        have A209 := Aside0.mk A2090
        clear A2090
        obtain rfl := Option.some.inj H
        have hnb210 := NB363_364.out
        have hnc210 := NB364_363.out
        have hnb211 := NB363_365.out
        have hnc211 := NB365_363.out
        have hnb212 := NB363_372.out
        have hnc212 := NB372_363.out
        have hnb213 := NB363_373.out
        have hnc213 := NB373_363.out
        have hnb214 := NB363_374.out
        have hnc214 := NB374_363.out
        have hcz215_0 : wc.cell? ⟨gb363, 0, none⟩ = some (.int .i64 a0_0) := (bkC BK363.out 0).trans rfl
        have hcz215_1 : wc.cell? ⟨gb363, 1, none⟩ = some (.int .i64 a0_1) := (bkC BK363.out 1).trans rfl
        have hfz215_0 := bkF BK363.out 0
        have hfz215_1 := bkF BK363.out 1
        have hnb216 := NB364_365.out
        have hnc216 := NB365_364.out
        have hnb217 := NB364_372.out
        have hnc217 := NB372_364.out
        have hnb218 := NB364_373.out
        have hnc218 := NB373_364.out
        have hnb219 := NB364_374.out
        have hnc219 := NB374_364.out
        have hcz220_0 : wc.cell? ⟨gb364, 0, none⟩ = some (.int .i64 a1_0) := (bkC BK364.out 0).trans rfl
        have hcz220_1 : wc.cell? ⟨gb364, 1, none⟩ = some (.int .i64 a1_1) := (bkC BK364.out 1).trans rfl
        have hfz220_0 := bkF BK364.out 0
        have hfz220_1 := bkF BK364.out 1
        have hnb221 := NB365_372.out
        have hnc221 := NB372_365.out
        have hnb222 := NB365_373.out
        have hnc222 := NB373_365.out
        have hnb223 := NB365_374.out
        have hnc223 := NB374_365.out
        have hcz224_0 : wc.cell? ⟨gb365, 0, none⟩ = some (.int .i64 a2_0) := (bkC BK365.out 0).trans rfl
        have hcz224_1 : wc.cell? ⟨gb365, 1, none⟩ = some (.int .i64 a2_1) := (bkC BK365.out 1).trans rfl
        have hcz224_2 : wc.cell? ⟨gb365, 2, none⟩ = some (.int .i64 a2_2) := (bkC BK365.out 2).trans rfl
        have hcz224_3 : wc.cell? ⟨gb365, 3, none⟩ = some (.int .i64 a2_3) := (bkC BK365.out 3).trans rfl
        have hcz224_4 : wc.cell? ⟨gb365, 4, none⟩ = some (.int .i64 a2_4) := (bkC BK365.out 4).trans rfl
        have hfz224_0 := bkF BK365.out 0
        have hfz224_1 := bkF BK365.out 1
        have hfz224_2 := bkF BK365.out 2
        have hfz224_3 := bkF BK365.out 3
        have hfz224_4 := bkF BK365.out 4
        go_wp2_with (first | (go_at_call 27; (with_reducible refine (geometry_Crosses.calls kj47 a0_0 a0_1 a1_0 a1_1 a2_0 a2_1 a2_2 a2_3 a2_4 t380 _ A209.out).mono ?_); rintro e w225 ⟨rfl, hb⟩; have n0_ := Aside0.mk (bkB (g := gb363) (o := .cells #[.int .i64 a0_0, .int .i64 a0_1] 28 (0, 0)) (by (with_reducible repeat (first | refine bkN ?_ _ | refine bkD ?_ | refine bkA ?_ _)); exact BK363.out) hb); have n1_ := Aside0.mk (bkB (g := gb364) (o := .cells #[.int .i64 a1_0, .int .i64 a1_1] 28 (0, 0)) (by (with_reducible repeat (first | refine bkN ?_ _ | refine bkD ?_ | refine bkA ?_ _)); exact BK364.out) hb); have n2_ := Aside0.mk (bkB (g := gb365) (o := .cells #[.int .i64 a2_0, .int .i64 a2_1, .int .i64 a2_2, .int .i64 a2_3, .int .i64 a2_4] 47 (0, 0)) (by (with_reducible repeat (first | refine bkN ?_ _ | refine bkD ?_ | refine bkA ?_ _)); exact BK365.out) hb); have n3_ := Aside0.mk (bkB (g := gb372) (o := .cells #[.int .i64 (wrap64 (2 * a0_0)), .int .i64 (wrap64 (2 * a0_1))] 28 (0, 0)) (by (with_reducible repeat (first | refine bkN ?_ _ | refine bkD ?_ | refine bkA ?_ _)); exact BK372.out) hb); have n4_ := Aside0.mk (bkB (g := gb373) (o := .cells #[.int .i64 (wrap64 (2 * a1_0)), .int .i64 (wrap64 (2 * a1_1))] 28 (0, 0)) (by (with_reducible repeat (first | refine bkN ?_ _ | refine bkD ?_ | refine bkA ?_ _)); exact BK373.out) hb); have n5_ := Aside0.mk (bkB (g := gb374) (o := .cells #[.int .i64 (wrap64 (a0_0 + a1_0)), .int .i64 (wrap64 (a0_1 + a1_1))] 28 (0, 0)) (by (with_reducible repeat (first | refine bkN ?_ _ | refine bkD ?_ | refine bkA ?_ _)); exact BK374.out) hb); have n6_ := Aside0.mk (below_step (by repeat (first | (with_reducible first | exact HB.out | apply blA | apply blN | apply blD | refine blS ?_ GE363.out | refine blS ?_ GE364.out | refine blS ?_ GE365.out | refine blS ?_ GE372.out | refine blS ?_ GE373.out | refine blS ?_ GE374.out) | exact HB.out)) hb); clear BK363; clear BK364; clear BK365; clear BK372; clear BK373; clear BK374; clear HB; have BK363 := n0_; have BK364 := n1_; have BK365 := n2_; have BK372 := n3_; have BK373 := n4_; have BK374 := n5_; have HB := n6_; clear n0_ n1_ n2_ n3_ n4_ n5_ n6_; (try clear hb); (try clear hb2); (try clear hk); (try clear hi)))
        go_ret
        exact ⟨by first | rfl | (simp [errW_none, errW_some] <;> rfl) | (simp only [← hji186, ← hji187, ← hji206, ← hji207]; first | rfl | (simp [errW_none, errW_some] <;> rfl)) | (simp [*, errW_none, errW_some] <;> rfl), by repeat (first | (with_reducible first | exact HB.out | apply blA | apply blN | apply blD | refine blS ?_ GE363.out | refine blS ?_ GE364.out | refine blS ?_ GE365.out | refine blS ?_ GE372.out | refine blS ?_ GE373.out | refine blS ?_ GE374.out) | exact HB.out)⟩
       as_aux_lemma =>
        rw [if_neg c208] at H
        have c208b0 : decide ((ji206) < (ji207)) = false := decide_eq_false c208
        clear c208
        obtain ⟨ji226, hji226⟩ : ∃ j_ : Int, (mx a0_1 a1_1) = j_ := ⟨_, rfl⟩
        replace H : (if (ji226) < (mn a2_1 a2_3) then ((geometry_Crosses.f kj47 a0_0 a0_1 a1_0 a1_1 a2_0 a2_1 a2_2 a2_3 a2_4).bind fun t381 => (some (!t381))) else (if ((mx a2_1 a2_3) < (mn a0_1 a1_1)) then ((geometry_Crosses.f kj47 a0_0 a0_1 a1_0 a1_1 a2_0 a2_1 a2_2 a2_3 a2_4).bind fun t382 => (some (!t382))) else (some true))) = some r := by first | (rw [hji226] at H; exact H) | (simp only [hji226] at H ⊢; exact H)
        have hji226_ : (if a0_1 < a1_1 then a1_1 else a0_1) = ji226 := hji226
        obtain ⟨ji227, hji227⟩ : ∃ j_ : Int, (mn a2_1 a2_3) = j_ := ⟨_, rfl⟩
        replace H : (if (ji226) < (ji227) then ((geometry_Crosses.f kj47 a0_0 a0_1 a1_0 a1_1 a2_0 a2_1 a2_2 a2_3 a2_4).bind fun t381 => (some (!t381))) else (if ((mx a2_1 a2_3) < (mn a0_1 a1_1)) then ((geometry_Crosses.f kj47 a0_0 a0_1 a1_0 a1_1 a2_0 a2_1 a2_2 a2_3 a2_4).bind fun t382 => (some (!t382))) else (some true))) = some r := by first | (rw [hji227] at H; exact H) | (simp only [hji227] at H ⊢; exact H)
        have hji227_ : (if a2_3 < a2_1 then a2_3 else a2_1) = ji227 := hji227
        by_cases c228 : (ji226) < (ji227)
        ·rw [if_pos c228] at H
         have c228b0 : decide ((ji226) < (ji227)) = true := decide_eq_true c228
         clear c228
         replace H := Option.bind_eq_some_iff.mp H
         obtain ⟨t381, A2290, H⟩ := H
         replace H : (some (!t381)) = some r := H
         have A229 := Aside0.mk A2290
         clear A2290
         obtain rfl := Option.some.inj H
         have hnb230 := NB363_364.out
         have hnc230 := NB364_363.out
         have hnb231 := NB363_365.out
         have hnc231 := NB365_363.out
         have hnb232 := NB363_372.out
         have hnc232 := NB372_363.out
         have hnb233 := NB363_373.out
         have hnc233 := NB373_363.out
         have hnb234 := NB363_374.out
         have hnc234 := NB374_363.out
         have hcz235_0 : wc.cell? ⟨gb363, 0, none⟩ = some (.int .i64 a0_0) := (bkC BK363.out 0).trans rfl
         have hcz235_1 : wc.cell? ⟨gb363, 1, none⟩ = some (.int .i64 a0_1) := (bkC BK363.out 1).trans rfl
         have hfz235_0 := bkF BK363.out 0
         have hfz235_1 := bkF BK363.out 1
         have hnb236 := NB364_365.out
         have hnc236 := NB365_364.out
         have hnb237 := NB364_372.out
         have hnc237 := NB372_364.out
         have hnb238 := NB364_373.out
         have hnc238 := NB373_364.out
         have hnb239 := NB364_374.out
         have hnc239 := NB374_364.out
         have hcz240_0 : wc.cell? ⟨gb364, 0, none⟩ = some (.int .i64 a1_0) := (bkC BK364.out 0).trans rfl
         have hcz240_1 : wc.cell? ⟨gb364, 1, none⟩ = some (.int .i64 a1_1) := (bkC BK364.out 1).trans rfl
         have hfz240_0 := bkF BK364.out 0
         have hfz240_1 := bkF BK364.out 1
         have hnb241 := NB365_372.out
         have hnc241 := NB372_365.out
         have hnb242 := NB365_373.out
         have hnc242 := NB373_365.out
         have hnb243 := NB365_374.out
         have hnc243 := NB374_365.out
         have hcz244_0 : wc.cell? ⟨gb365, 0, none⟩ = some (.int .i64 a2_0) := (bkC BK365.out 0).trans rfl
         have hcz244_1 : wc.cell? ⟨gb365, 1, none⟩ = some (.int .i64 a2_1) := (bkC BK365.out 1).trans rfl
         have hcz244_2 : wc.cell? ⟨gb365, 2, none⟩ = some (.int .i64 a2_2) := (bkC BK365.out 2).trans rfl
         have hcz244_3 : wc.cell? ⟨gb365, 3, none⟩ = some (.int .i64 a2_3) := (bkC BK365.out 3).trans rfl
         have hcz244_4 : wc.cell? ⟨gb365, 4, none⟩ = some (.int .i64 a2_4) := (bkC BK365.out 4).trans rfl
         have hfz244_0 := bkF BK365.out 0
         have hfz244_1 := bkF BK365.out 1
         have hfz244_2 := bkF BK365.out 2
         have hfz244_3 := bkF BK365.out 3
         have hfz244_4 := bkF BK365.out 4
         go_wp2_with (first | (go_at_call 27; (with_reducible refine (geometry_Crosses.calls kj47 a0_0 a0_1 a1_0 a1_1 a2_0 a2_1 a2_2 a2_3 a2_4 t381 _ A229.out).mono ?_); rintro e w245 ⟨rfl, hb⟩; have n0_ := Aside0.mk (bkB (g := gb363) (o := .cells #[.int .i64 a0_0, .int .i64 a0_1] 28 (0, 0)) (by (with_reducible repeat (first | refine bkN ?_ _ | refine bkD ?_ | refine bkA ?_ _)); exact BK363.out) hb); have n1_ := Aside0.mk (bkB (g := gb364) (o := .cells #[.int .i64 a1_0, .int .i64 a1_1] 28 (0, 0)) (by (with_reducible repeat (first | refine bkN ?_ _ | refine bkD ?_ | refine bkA ?_ _)); exact BK364.out) hb); have n2_ := Aside0.mk (bkB (g := gb365) (o := .cells #[.int .i64 a2_0, .int .i64 a2_1, .int .i64 a2_2, .int .i64 a2_3, .int .i64 a2_4] 47 (0, 0)) (by (with_reducible repeat (first | refine bkN ?_ _ | refine bkD ?_ | refine bkA ?_ _)); exact BK365.out) hb); have n3_ := Aside0.mk (bkB (g := gb372) (o := .cells #[.int .i64 (wrap64 (2 * a0_0)), .int .i64 (wrap64 (2 * a0_1))] 28 (0, 0)) (by (with_reducible repeat (first | refine bkN ?_ _ | refine bkD ?_ | refine bkA ?_ _)); exact BK372.out) hb); have n4_ := Aside0.mk (bkB (g := gb373) (o := .cells #[.int .i64 (wrap64 (2 * a1_0)), .int .i64 (wrap64 (2 * a1_1))] 28 (0, 0)) (by (with_reducible repeat (first | refine bkN ?_ _ | refine bkD ?_ | refine bkA ?_ _)); exact BK373.out) hb); have n5_ := Aside0.mk (bkB (g := gb374) (o := .cells #[.int .i64 (wrap64 (a0_0 + a1_0)), .int .i64 (wrap64 (a0_1 + a1_1))] 28 (0, 0)) (by (with_reducible repeat (first | refine bkN ?_ _ | refine bkD ?_ | refine bkA ?_ _)); exact BK374.out) hb); have n6_ := Aside0.mk (below_step (by repeat (first | (with_reducible first | exact HB.out | apply blA | apply blN | apply blD | refine blS ?_ GE363.out | refine blS ?_ GE364.out | refine blS ?_ GE365.out | refine blS ?_ GE372.out | refine blS ?_ GE373.out | refine blS ?_ GE374.out) | exact HB.out)) hb); clear BK363; clear BK364; clear BK365; clear BK372; clear BK373; clear BK374; clear HB; have BK363 := n0_; have BK364 := n1_; have BK365 := n2_; have BK372 := n3_; have BK373 := n4_; have BK374 := n5_; have HB := n6_; clear n0_ n1_ n2_ n3_ n4_ n5_ n6_; (try clear hb); (try clear hb2); (try clear hk); (try clear hi)))
         go_ret
         exact ⟨by first | rfl | (simp [errW_none, errW_some] <;> rfl) | (simp only [← hji186, ← hji187, ← hji206, ← hji207, ← hji226, ← hji227]; first | rfl | (simp [errW_none, errW_some] <;> rfl)) | (simp [*, errW_none, errW_some] <;> rfl), by repeat (first | (with_reducible first | exact HB.out | apply blA | apply blN | apply blD | refine blS ?_ GE363.out | refine blS ?_ GE364.out | refine blS ?_ GE365.out | refine blS ?_ GE372.out | refine blS ?_ GE373.out | refine blS ?_ GE374.out) | exact HB.out)⟩
        rw [if_neg c228] at H
        have c228b0 : decide ((ji226) < (ji227)) = false := decide_eq_false c228
        clear c228
        obtain ⟨ji246, hji246⟩ : ∃ j_ : Int, (mx a2_1 a2_3) = j_ := ⟨_, rfl⟩
        replace H : (if ((ji246) < (mn a0_1 a1_1)) then ((geometry_Crosses.f kj47 a0_0 a0_1 a1_0 a1_1 a2_0 a2_1 a2_2 a2_3 a2_4).bind fun t382 => (some (!t382))) else (some true)) = some r := by first | (rw [hji246] at H; exact H) | (simp only [hji246] at H ⊢; exact H)
        have hji246_ : (if a2_1 < a2_3 then a2_3 else a2_1) = ji246 := hji246
        obtain ⟨ji247, hji247⟩ : ∃ j_ : Int, (mn a0_1 a1_1) = j_ := ⟨_, rfl⟩
        replace H : (if ((ji246) < (ji247)) then ((geometry_Crosses.f kj47 a0_0 a0_1 a1_0 a1_1 a2_0 a2_1 a2_2 a2_3 a2_4).bind fun t382 => (some (!t382))) else (some true)) = some r := by first | (rw [hji247] at H; exact H) | (simp only [hji247] at H ⊢; exact H)
        have hji247_ : (if a1_1 < a0_1 then a1_1 else a0_1) = ji247 := hji247
        by_cases c248 : ((ji246) < (ji247))
        rotate_left
        ·rw [if_neg c248] at H
         have c248b0 : decide ((ji246) < (ji247)) = false := decide_eq_false c248
         clear c248
         obtain rfl := Option.some.inj H
         have hnb266 := NB363_364.out
         have hnc266 := NB364_363.out
         have hnb267 := NB363_365.out
         have hnc267 := NB365_363.out
         have hnb268 := NB363_372.out
         have hnc268 := NB372_363.out
         have hnb269 := NB363_373.out
         have hnc269 := NB373_363.out
         have hnb270 := NB363_374.out
         have hnc270 := NB374_363.out
         have hcz271_0 : wc.cell? ⟨gb363, 0, none⟩ = some (.int .i64 a0_0) := (bkC BK363.out 0).trans rfl
         have hcz271_1 : wc.cell? ⟨gb363, 1, none⟩ = some (.int .i64 a0_1) := (bkC BK363.out 1).trans rfl
         have hfz271_0 := bkF BK363.out 0
         have hfz271_1 := bkF BK363.out 1
         have hnb272 := NB364_365.out
         have hnc272 := NB365_364.out
         have hnb273 := NB364_372.out
         have hnc273 := NB372_364.out
         have hnb274 := NB364_373.out
         have hnc274 := NB373_364.out
         have hnb275 := NB364_374.out
         have hnc275 := NB374_364.out
         have hcz276_0 : wc.cell? ⟨gb364, 0, none⟩ = some (.int .i64 a1_0) := (bkC BK364.out 0).trans rfl
         have hcz276_1 : wc.cell? ⟨gb364, 1, none⟩ = some (.int .i64 a1_1) := (bkC BK364.out 1).trans rfl
         have hfz276_0 := bkF BK364.out 0
         have hfz276_1 := bkF BK364.out 1
         have hnb277 := NB365_372.out
         have hnc277 := NB372_365.out
         have hnb278 := NB365_373.out
         have hnc278 := NB373_365.out
         have hnb279 := NB365_374.out
         have hnc279 := NB374_365.out
         have hcz280_0 : wc.cell? ⟨gb365, 0, none⟩ = some (.int .i64 a2_0) := (bkC BK365.out 0).trans rfl
         have hcz280_1 : wc.cell? ⟨gb365, 1, none⟩ = some (.int .i64 a2_1) := (bkC BK365.out 1).trans rfl
         have hcz280_2 : wc.cell? ⟨gb365, 2, none⟩ = some (.int .i64 a2_2) := (bkC BK365.out 2).trans rfl
         have hcz280_3 : wc.cell? ⟨gb365, 3, none⟩ = some (.int .i64 a2_3) := (bkC BK365.out 3).trans rfl
         have hcz280_4 : wc.cell? ⟨gb365, 4, none⟩ = some (.int .i64 a2_4) := (bkC BK365.out 4).trans rfl
         have hfz280_0 := bkF BK365.out 0
         have hfz280_1 := bkF BK365.out 1
         have hfz280_2 := bkF BK365.out 2
         have hfz280_3 := bkF BK365.out 3
         have hfz280_4 := bkF BK365.out 4
         go_wp2
         go_ret
         exact ⟨by first | rfl | (simp [errW_none, errW_some] <;> rfl) | (simp only [← hji186, ← hji187, ← hji206, ← hji207, ← hji226, ← hji227, ← hji246, ← hji247]; first | rfl | (simp [errW_none, errW_some] <;> rfl)) | (simp [*, errW_none, errW_some] <;> rfl), by repeat (first | (with_reducible first | exact HB.out | apply blA | apply blN | apply blD | refine blS ?_ GE363.out | refine blS ?_ GE364.out | refine blS ?_ GE365.out | refine blS ?_ GE372.out | refine blS ?_ GE373.out | refine blS ?_ GE374.out) | exact HB.out)⟩
        rw [if_pos c248] at H
        have c248b0 : decide ((ji246) < (ji247)) = true := decide_eq_true c248
        clear c248
        replace H := Option.bind_eq_some_iff.mp H
        obtain ⟨t382, A2490, H⟩ := H
        replace H : (some (!t382)) = some r := H
        have A249 := Aside0.mk A2490
        clear A2490
        obtain rfl := Option.some.inj H
        have hnb250 := NB363_364.out
        have hnc250 := NB364_363.out
        have hnb251 := NB363_365.out
        have hnc251 := NB365_363.out
        have hnb252 := NB363_372.out
        have hnc252 := NB372_363.out
        have hnb253 := NB363_373.out
        have hnc253 := NB373_363.out
        have hnb254 := NB363_374.out
        have hnc254 := NB374_363.out
        have hcz255_0 : wc.cell? ⟨gb363, 0, none⟩ = some (.int .i64 a0_0) := (bkC BK363.out 0).trans rfl
        have hcz255_1 : wc.cell? ⟨gb363, 1, none⟩ = some (.int .i64 a0_1) := (bkC BK363.out 1).trans rfl
        have hfz255_0 := bkF BK363.out 0
        have hfz255_1 := bkF BK363.out 1
        have hnb256 := NB364_365.out
        have hnc256 := NB365_364.out
        have hnb257 := NB364_372.out
        have hnc257 := NB372_364.out
        have hnb258 := NB364_373.out
        have hnc258 := NB373_364.out
        have hnb259 := NB364_374.out
        have hnc259 := NB374_364.out
        have hcz260_0 : wc.cell? ⟨gb364, 0, none⟩ = some (.int .i64 a1_0) := (bkC BK364.out 0).trans rfl
        have hcz260_1 : wc.cell? ⟨gb364, 1, none⟩ = some (.int .i64 a1_1) := (bkC BK364.out 1).trans rfl
        have hfz260_0 := bkF BK364.out 0
        have hfz260_1 := bkF BK364.out 1
        have hnb261 := NB365_372.out
        have hnc261 := NB372_365.out
        have hnb262 := NB365_373.out
        have hnc262 := NB373_365.out
        have hnb263 := NB365_374.out
        have hnc263 := NB374_365.out
        have hcz264_0 : wc.cell? ⟨gb365, 0, none⟩ = some (.int .i64 a2_0) := (bkC BK365.out 0).trans rfl
        have hcz264_1 : wc.cell? ⟨gb365, 1, none⟩ = some (.int .i64 a2_1) := (bkC BK365.out 1).trans rfl
        have hcz264_2 : wc.cell? ⟨gb365, 2, none⟩ = some (.int .i64 a2_2) := (bkC BK365.out 2).trans rfl
        have hcz264_3 : wc.cell? ⟨gb365, 3, none⟩ = some (.int .i64 a2_3) := (bkC BK365.out 3).trans rfl
        have hcz264_4 : wc.cell? ⟨gb365, 4, none⟩ = some (.int .i64 a2_4) := (bkC BK365.out 4).trans rfl
        have hfz264_0 := bkF BK365.out 0
        have hfz264_1 := bkF BK365.out 1
        have hfz264_2 := bkF BK365.out 2
        have hfz264_3 := bkF BK365.out 3
        have hfz264_4 := bkF BK365.out 4
        go_wp2_with (first | (go_at_call 27; (with_reducible refine (geometry_Crosses.calls kj47 a0_0 a0_1 a1_0 a1_1 a2_0 a2_1 a2_2 a2_3 a2_4 t382 _ A249.out).mono ?_); rintro e w265 ⟨rfl, hb⟩; have n0_ := Aside0.mk (bkB (g := gb363) (o := .cells #[.int .i64 a0_0, .int .i64 a0_1] 28 (0, 0)) (by (with_reducible repeat (first | refine bkN ?_ _ | refine bkD ?_ | refine bkA ?_ _)); exact BK363.out) hb); have n1_ := Aside0.mk (bkB (g := gb364) (o := .cells #[.int .i64 a1_0, .int .i64 a1_1] 28 (0, 0)) (by (with_reducible repeat (first | refine bkN ?_ _ | refine bkD ?_ | refine bkA ?_ _)); exact BK364.out) hb); have n2_ := Aside0.mk (bkB (g := gb365) (o := .cells #[.int .i64 a2_0, .int .i64 a2_1, .int .i64 a2_2, .int .i64 a2_3, .int .i64 a2_4] 47 (0, 0)) (by (with_reducible repeat (first | refine bkN ?_ _ | refine bkD ?_ | refine bkA ?_ _)); exact BK365.out) hb); have n3_ := Aside0.mk (bkB (g := gb372) (o := .cells #[.int .i64 (wrap64 (2 * a0_0)), .int .i64 (wrap64 (2 * a0_1))] 28 (0, 0)) (by (with_reducible repeat (first | refine bkN ?_ _ | refine bkD ?_ | refine bkA ?_ _)); exact BK372.out) hb); have n4_ := Aside0.mk (bkB (g := gb373) (o := .cells #[.int .i64 (wrap64 (2 * a1_0)), .int .i64 (wrap64 (2 * a1_1))] 28 (0, 0)) (by (with_reducible repeat (first | refine bkN ?_ _ | refine bkD ?_ | refine bkA ?_ _)); exact BK373.out) hb); have n5_ := Aside0.mk (bkB (g := gb374) (o := .cells #[.int .i64 (wrap64 (a0_0 + a1_0)), .int .i64 (wrap64 (a0_1 + a1_1))] 28 (0, 0)) (by (with_reducible repeat (first | refine bkN ?_ _ | refine bkD ?_ | refine bkA ?_ _)); exact BK374.out) hb); have n6_ := Aside0.mk (below_step (by repeat (first | (with_reducible first | exact HB.out | apply blA | apply blN | apply blD | refine blS ?_ GE363.out | refine blS ?_ GE364.out | refine blS ?_ GE365.out | refine blS ?_ GE372.out | refine blS ?_ GE373.out | refine blS ?_ GE374.out) | exact HB.out)) hb); clear BK363; clear BK364; clear BK365; clear BK372; clear BK373; clear BK374; clear HB; have BK363 := n0_; have BK364 := n1_; have BK365 := n2_; have BK372 := n3_; have BK373 := n4_; have BK374 := n5_; have HB := n6_; clear n0_ n1_ n2_ n3_ n4_ n5_ n6_; (try clear hb); (try clear hb2); (try clear hk); (try clear hi)))
        go_ret
        exact ⟨by first | rfl | (simp [errW_none, errW_some] <;> rfl) | (simp only [← hji186, ← hji187, ← hji206, ← hji207, ← hji226, ← hji227, ← hji246, ← hji247]; first | rfl | (simp [errW_none, errW_some] <;> rfl)) | (simp [*, errW_none, errW_some] <;> rfl), by repeat (first | (with_reducible first | exact HB.out | apply blA | apply blN | apply blD | refine blS ?_ GE363.out | refine blS ?_ GE364.out | refine blS ?_ GE365.out | refine blS ?_ GE372.out | refine blS ?_ GE373.out | refine blS ?_ GE374.out) | exact HB.out)⟩
end Go.Proofs.Ytcdgpnjlaicbcaa.PA
