-- Written by a program of this session (mkprint.py: the kit's print, changed) for this claim. Not trusted: Lean checks it.
import Derived.Test.YtcdgpnjlaicbcaaPAx0
import Derived.Test.YtcdgpnjlaicbcaaPAx6
import Derived.Test.YtcdgpnjlaicbcaaPAx11
import Derived.Test.YtcdgpnjlaicbcaaPAx30
import Derived.Test.YtcdgpnjlaicbcaaPAx38
import Derived.Test.YtcdgpnjlaicbcaaPAx43
import Derived.Test.YtcdgpnjlaicbcaaPAx47
namespace Go.Proofs.Ytcdgpnjlaicbcaa.PA
open Go.RowKit Go.Proofs.YtcdgpnjlaicbcaaW.PrintWords Go.Proofs.YtcdgpnjlaicbcaaW.PrintLast Go.Proofs.YtcdgpnjlaicbcaaW.PrintMore
attribute [local go_sem] max2_int min2_int max_two min_two max_three min_three max_four min_four   -- for this text's walks alone
-- thin
set_option linter.unusedVariables false
set_option linter.unusedSimpArgs false

/-! ### hopmeshlaw05_GeometryWalls: function 9 -/
set_option maxHeartbeats 8000000 in
set_option maxRecDepth 100000 in
theorem hopmeshlaw05_GeometryWalls.calls (k : Nat) (A0_0 : Option Addr) (c0_0 : Nat) (l0_0 : List (S28)) (A0_1 : Option Addr) (c0_1 : Nat) (l0_1 : List Int) (A0_2 : Option Addr) (c0_2 : Nat) (l0_2 : List (S47)) (a0_3 : Int) (a0_4 : Int) (a0_5 : Int) (a1_0 : Int) (a1_1 : Int) (a1_2 : Int) (a1_3 : Int) (a1_4 : Int) (a2_0 : Int) (a2_1 : Int) (a2_2 : Int) (a2_3 : Int) (a2_4 : Int) (a2_5 : Int) (a2_6 : Int) (r : Bool) (w : World) (hr0_0 : Kd.C k28 w A0_0 l0_0.length l0_0) (hc0_0 : l0_0.length ≤ c0_0) (hr0_1 : Kd.C (Kd.int .i64) w A0_1 l0_1.length l0_1) (hc0_1 : l0_1.length ≤ c0_1) (hr0_2 : Kd.C k47 w A0_2 l0_2.length l0_2) (hc0_2 : l0_2.length ≤ c0_2) (h : hopmeshlaw05_GeometryWalls.f k l0_0 l0_1 l0_2 a0_3 a0_4 a0_5 a1_0 a1_1 a1_2 a1_3 a1_4 a2_0 a2_1 a2_2 a2_3 a2_4 a2_5 a2_6 = some r) (hr_ : r = true) :
 Calls Try.prog 9 #[.agg #[.slice A0_0 l0_0.length c0_0, .slice A0_1 l0_1.length c0_1, .slice A0_2 l0_2.length c0_2, .int .i64 a0_3, .int .i64 a0_4, .int .i64 a0_5], .agg #[.int .i64 a1_0, .int .i64 a1_1, .int .i64 a1_2, .int .i64 a1_3, .int .i64 a1_4], .agg #[.int .i64 a2_0, .int .i64 a2_1, .int .i64 a2_2, .int .i64 a2_3, .int .i64 a2_4, .int .i64 a2_5, .int .i64 a2_6]] w fun e w' => e = .returned (.bool r) ∧ Below w.heap.size w w' := by
 have hu26 := Try.underlying26
 have hu47 := Try.underlying47
 have hu56 := Try.underlying56
 have hu28 := Try.underlying28
 have HRT := Aside0.mk hr_
 clear hr_
 have HR0_0 := Aside0.mk hr0_0
 have HC0_0 := Aside0.mk hc0_0
 clear hr0_0 hc0_0
 have HR0_1 := Aside0.mk hr0_1
 have HC0_1 := Aside0.mk hc0_1
 clear hr0_1 hc0_1
 have HR0_2 := Aside0.mk hr0_2
 have HC0_2 := Aside0.mk hc0_2
 clear hr0_2 hc0_2
 have HB := Aside0.mk (Below.refl w.heap.size w)
 have H : ((hopmeshlaw05_awake.f).bind fun t400 => (if t400 = true then ((hopmeshref05_Few.f l0_0 l0_1 l0_2 a0_3 a0_4 a0_5).bind fun t401 => (if t401 = true then (hopmeshlaw05_GeometryWalls.j0 k (decide ((l0_2.length : Int) > 31)) l0_0 l0_1 l0_2 a0_3 a0_4 a0_5 a1_0 a1_1 a1_2 a1_3 a1_4 a2_0 a2_1 a2_2 a2_3 a2_4 a2_5 a2_6) else (hopmeshlaw05_GeometryWalls.j0 k true l0_0 l0_1 l0_2 a0_3 a0_4 a0_5 a1_0 a1_1 a1_2 a1_3 a1_4 a2_0 a2_1 a2_2 a2_3 a2_4 a2_5 a2_6))) else (some false))) = some r := h
 clear h
 replace H := Option.bind_eq_some_iff.mp H
 obtain ⟨t400, A40, H⟩ := H
 replace H : (if t400 = true then ((hopmeshref05_Few.f l0_0 l0_1 l0_2 a0_3 a0_4 a0_5).bind fun t401 => (if t401 = true then (hopmeshlaw05_GeometryWalls.j0 k (decide ((l0_2.length : Int) > 31)) l0_0 l0_1 l0_2 a0_3 a0_4 a0_5 a1_0 a1_1 a1_2 a1_3 a1_4 a2_0 a2_1 a2_2 a2_3 a2_4 a2_5 a2_6) else (hopmeshlaw05_GeometryWalls.j0 k true l0_0 l0_1 l0_2 a0_3 a0_4 a0_5 a1_0 a1_1 a1_2 a1_3 a1_4 a2_0 a2_1 a2_2 a2_3 a2_4 a2_5 a2_6))) else (some false)) = some r := H
 have A4 := Aside0.mk A40
 clear A40
 by_cases c5 : t400 = true
 rotate_left
 ·replace c5 := Bool.eq_false_iff.mpr c5
  subst c5
  have H1 : (some false) = some r := by rw [if_neg (show ¬ (false = true) by decide)] at H; exact H
  clear H
  have H := H1
  clear H1
  exact absurd (H.trans (congrArg some HRT.out)) (by simp)

 subst c5
 have H1 : ((hopmeshref05_Few.f l0_0 l0_1 l0_2 a0_3 a0_4 a0_5).bind fun t401 => (if t401 = true then (hopmeshlaw05_GeometryWalls.j0 k (decide ((l0_2.length : Int) > 31)) l0_0 l0_1 l0_2 a0_3 a0_4 a0_5 a1_0 a1_1 a1_2 a1_3 a1_4 a2_0 a2_1 a2_2 a2_3 a2_4 a2_5 a2_6) else (hopmeshlaw05_GeometryWalls.j0 k true l0_0 l0_1 l0_2 a0_3 a0_4 a0_5 a1_0 a1_1 a1_2 a1_3 a1_4 a2_0 a2_1 a2_2 a2_3 a2_4 a2_5 a2_6))) = some r := by rw [if_pos rfl] at H; exact H
 clear H
 have H := H1
 clear H1
 have HC6 := Aside0.mk H
 clear H
 go_enter Try.func9, Try.ntmps9
 go_upto_region 3 with (first | ((with_reducible refine gate_dst (N := 3) rfl ?_); refine box_event ?hg (N := 3) ?hd (cs := #[.slice A0_0 l0_0.length c0_0, .slice A0_1 l0_1.length c0_1, .slice A0_2 l0_2.length c0_2, .int .i64 a0_3, .int .i64 a0_4, .int .i64 a0_5]) (t := 26) ?hr ?_; (case hd => rfl); (case hg => rfl); (case hr => first | (go_simp; done) | (go_simp; rfl)); intro gb397 hg w7 hbox hb; have n0_ := Aside0.mk (below_step (by repeat (first | (with_reducible first | exact HB.out | apply blA | apply blN | apply blD) | exact HB.out)) hb); have n1_ := Aside0.mk (hbox); have n2_ := Aside0.mk ((by rw [hg]; exact (below_size (by repeat (first | (with_reducible first | exact HB.out | apply blA | apply blN | apply blD) | exact HB.out))) : w.heap.size ≤ gb397)); have n3_ := Aside0.mk ((by rw [hg]; exact (below_size (by repeat (first | (with_reducible first | exact HB.out | apply blA | apply blN | apply blD) | exact HB.out))) : w.heap.size ≤ gb397)); clear HB; have HB := n0_; have BK397 := n1_; have GW397 := n2_; have GE397 := n3_; clear n0_ n1_ n2_ n3_; clear hb hbox hg) | ((with_reducible refine gate_dst (N := 4) rfl ?_); refine box_event ?hg (N := 4) ?hd (cs := #[.int .i64 a1_0, .int .i64 a1_1, .int .i64 a1_2, .int .i64 a1_3, .int .i64 a1_4]) (t := 47) ?hr ?_; (case hd => rfl); (case hg => rfl); (case hr => first | (go_simp; done) | (go_simp; rfl)); intro gb398 hg w8 hbox hb; have n0_ := Aside0.mk (bkB (g := gb397) (o := .cells #[.slice A0_0 l0_0.length c0_0, .slice A0_1 l0_1.length c0_1, .slice A0_2 l0_2.length c0_2, .int .i64 a0_3, .int .i64 a0_4, .int .i64 a0_5] 26 (0, 0)) (by (with_reducible repeat (first | refine bkN ?_ _ | refine bkD ?_ | refine bkA ?_ _)); exact BK397.out) hb); have n1_ := Aside0.mk (below_step (by repeat (first | (with_reducible first | exact HB.out | apply blA | apply blN | apply blD | refine blS ?_ GE397.out) | exact HB.out)) hb); have n2_ := Aside0.mk (hbox); have n3_ := Aside0.mk ((by rw [hg]; exact (below_size (by repeat (first | (with_reducible first | exact HB.out | apply blA | apply blN | apply blD | refine blS ?_ GE397.out) | exact HB.out))) : w.heap.size ≤ gb398)); have n4_ := Aside0.mk ((by rw [hg]; exact (below_size (by repeat (first | (with_reducible first | exact HB.out | apply blA | apply blN | apply blD | refine blS ?_ GE397.out) | exact HB.out))) : w.heap.size ≤ gb398)); have n5_ := Aside0.mk ((by rw [hg]; exact Nat.ne_of_lt (blk_lt (g := gb397) (o := .cells #[.slice A0_0 l0_0.length c0_0, .slice A0_1 l0_1.length c0_1, .slice A0_2 l0_2.length c0_2, .int .i64 a0_3, .int .i64 a0_4, .int .i64 a0_5] 26 (0, 0)) (by (with_reducible repeat (first | refine bkN ?_ _ | refine bkD ?_ | refine bkA ?_ _)); exact BK397.out)) : gb397 ≠ gb398)); have n6_ := Aside0.mk ((by rw [hg]; exact Nat.ne_of_gt (blk_lt (g := gb397) (o := .cells #[.slice A0_0 l0_0.length c0_0, .slice A0_1 l0_1.length c0_1, .slice A0_2 l0_2.length c0_2, .int .i64 a0_3, .int .i64 a0_4, .int .i64 a0_5] 26 (0, 0)) (by (with_reducible repeat (first | refine bkN ?_ _ | refine bkD ?_ | refine bkA ?_ _)); exact BK397.out)) : gb398 ≠ gb397)); clear BK397; clear HB; have BK397 := n0_; have HB := n1_; have BK398 := n2_; have GW398 := n3_; have GE398 := n4_; have NB397_398 := n5_; have NB398_397 := n6_; clear n0_ n1_ n2_ n3_ n4_ n5_ n6_; clear hb hbox hg) | ((with_reducible refine gate_dst (N := 5) rfl ?_); refine box_event ?hg (N := 5) ?hd (cs := #[.int .i64 a2_0, .int .i64 a2_1, .int .i64 a2_2, .int .i64 a2_3, .int .i64 a2_4, .int .i64 a2_5, .int .i64 a2_6]) (t := 56) ?hr ?_; (case hd => rfl); (case hg => rfl); (case hr => first | (go_simp; done) | (go_simp; rfl)); intro gb399 hg w9 hbox hb; have n0_ := Aside0.mk (bkB (g := gb397) (o := .cells #[.slice A0_0 l0_0.length c0_0, .slice A0_1 l0_1.length c0_1, .slice A0_2 l0_2.length c0_2, .int .i64 a0_3, .int .i64 a0_4, .int .i64 a0_5] 26 (0, 0)) (by (with_reducible repeat (first | refine bkN ?_ _ | refine bkD ?_ | refine bkA ?_ _)); exact BK397.out) hb); have n1_ := Aside0.mk (bkB (g := gb398) (o := .cells #[.int .i64 a1_0, .int .i64 a1_1, .int .i64 a1_2, .int .i64 a1_3, .int .i64 a1_4] 47 (0, 0)) (by (with_reducible repeat (first | refine bkN ?_ _ | refine bkD ?_ | refine bkA ?_ _)); exact BK398.out) hb); have n2_ := Aside0.mk (below_step (by repeat (first | (with_reducible first | exact HB.out | apply blA | apply blN | apply blD | refine blS ?_ GE397.out | refine blS ?_ GE398.out) | exact HB.out)) hb); have n3_ := Aside0.mk (hbox); have n4_ := Aside0.mk ((by rw [hg]; exact (below_size (by repeat (first | (with_reducible first | exact HB.out | apply blA | apply blN | apply blD | refine blS ?_ GE397.out | refine blS ?_ GE398.out) | exact HB.out))) : w.heap.size ≤ gb399)); have n5_ := Aside0.mk ((by rw [hg]; exact (below_size (by repeat (first | (with_reducible first | exact HB.out | apply blA | apply blN | apply blD | refine blS ?_ GE397.out | refine blS ?_ GE398.out) | exact HB.out))) : w.heap.size ≤ gb399)); have n6_ := Aside0.mk ((by rw [hg]; exact Nat.ne_of_lt (blk_lt (g := gb397) (o := .cells #[.slice A0_0 l0_0.length c0_0, .slice A0_1 l0_1.length c0_1, .slice A0_2 l0_2.length c0_2, .int .i64 a0_3, .int .i64 a0_4, .int .i64 a0_5] 26 (0, 0)) (by (with_reducible repeat (first | refine bkN ?_ _ | refine bkD ?_ | refine bkA ?_ _)); exact BK397.out)) : gb397 ≠ gb399)); have n7_ := Aside0.mk ((by rw [hg]; exact Nat.ne_of_gt (blk_lt (g := gb397) (o := .cells #[.slice A0_0 l0_0.length c0_0, .slice A0_1 l0_1.length c0_1, .slice A0_2 l0_2.length c0_2, .int .i64 a0_3, .int .i64 a0_4, .int .i64 a0_5] 26 (0, 0)) (by (with_reducible repeat (first | refine bkN ?_ _ | refine bkD ?_ | refine bkA ?_ _)); exact BK397.out)) : gb399 ≠ gb397)); have n8_ := Aside0.mk ((by rw [hg]; exact Nat.ne_of_lt (blk_lt (g := gb398) (o := .cells #[.int .i64 a1_0, .int .i64 a1_1, .int .i64 a1_2, .int .i64 a1_3, .int .i64 a1_4] 47 (0, 0)) (by (with_reducible repeat (first | refine bkN ?_ _ | refine bkD ?_ | refine bkA ?_ _)); exact BK398.out)) : gb398 ≠ gb399)); have n9_ := Aside0.mk ((by rw [hg]; exact Nat.ne_of_gt (blk_lt (g := gb398) (o := .cells #[.int .i64 a1_0, .int .i64 a1_1, .int .i64 a1_2, .int .i64 a1_3, .int .i64 a1_4] 47 (0, 0)) (by (with_reducible repeat (first | refine bkN ?_ _ | refine bkD ?_ | refine bkA ?_ _)); exact BK398.out)) : gb399 ≠ gb398)); clear BK397; clear BK398; clear HB; have BK397 := n0_; have BK398 := n1_; have HB := n2_; have BK399 := n3_; have GW399 := n4_; have GE399 := n5_; have NB397_399 := n6_; have NB399_397 := n7_; have NB398_399 := n8_; have NB399_398 := n9_; clear n0_ n1_ n2_ n3_ n4_ n5_ n6_ n7_ n8_ n9_; clear hb hbox hg) | ((with_reducible refine gate_callee (f := 11) rfl ?_); refine goesL_ (some 12) rfl rfl Try.func11 (by kernel_rfl) rfl #[] rfl (by (try simp only [List.map_toArray, List.map_cons, List.map_nil]); first | done | rfl | (simp only [List.length_drop, List.length_take]; rfl)) ?_; (with_reducible refine (hopmeshlaw05_awake.calls  true _ A4.out).mono ?_); rintro e w10 ⟨rfl, hb⟩; refine ⟨_, rfl, ?_⟩; have n0_ := Aside0.mk (bkB (g := gb397) (o := .cells #[.slice A0_0 l0_0.length c0_0, .slice A0_1 l0_1.length c0_1, .slice A0_2 l0_2.length c0_2, .int .i64 a0_3, .int .i64 a0_4, .int .i64 a0_5] 26 (0, 0)) (by (with_reducible repeat (first | refine bkN ?_ _ | refine bkD ?_ | refine bkA ?_ _)); exact BK397.out) hb); have n1_ := Aside0.mk (bkB (g := gb398) (o := .cells #[.int .i64 a1_0, .int .i64 a1_1, .int .i64 a1_2, .int .i64 a1_3, .int .i64 a1_4] 47 (0, 0)) (by (with_reducible repeat (first | refine bkN ?_ _ | refine bkD ?_ | refine bkA ?_ _)); exact BK398.out) hb); have n2_ := Aside0.mk (bkB (g := gb399) (o := .cells #[.int .i64 a2_0, .int .i64 a2_1, .int .i64 a2_2, .int .i64 a2_3, .int .i64 a2_4, .int .i64 a2_5, .int .i64 a2_6] 56 (0, 0)) (by (with_reducible repeat (first | refine bkN ?_ _ | refine bkD ?_ | refine bkA ?_ _)); exact BK399.out) hb); have n3_ := Aside0.mk (below_step (by repeat (first | (with_reducible first | exact HB.out | apply blA | apply blN | apply blD | refine blS ?_ GE397.out | refine blS ?_ GE398.out | refine blS ?_ GE399.out) | exact HB.out)) hb); clear BK397; clear BK398; clear BK399; clear HB; have BK397 := n0_; have BK398 := n1_; have BK399 := n2_; have HB := n3_; clear n0_ n1_ n2_ n3_; (try clear hb); (try clear hb2); (try clear hk); (try clear hi)))
 (try simp only [Act.put, List.setIfInBounds_toArray, List.set_cons_zero, List.set_cons_succ])
 go_cut [22] (fun v22 wc => ∃ (kq : Nat) (x22_5 : Bool), v22 = .bool x22_5 ∧ Aside0 (hopmeshlaw05_GeometryWalls.j0 kq x22_5 l0_0 l0_1 l0_2 a0_3 a0_4 a0_5 a1_0 a1_1 a1_2 a1_3 a1_4 a2_0 a2_1 a2_2 a2_3 a2_4 a2_5 a2_6 = some r) ∧ Aside0 (kq ≤ k) ∧ Aside0 (wc.heap[gb397]? = some (.cells #[(.slice A0_0 l0_0.length c0_0), (.slice A0_1 l0_1.length c0_1), (.slice A0_2 l0_2.length c0_2), .int .i64 a0_3, .int .i64 a0_4, .int .i64 a0_5] 26 (0, 0))) ∧ Aside0 (wc.heap[gb398]? = some (.cells #[.int .i64 a1_0, .int .i64 a1_1, .int .i64 a1_2, .int .i64 a1_3, .int .i64 a1_4] 47 (0, 0))) ∧ Aside0 (wc.heap[gb399]? = some (.cells #[.int .i64 a2_0, .int .i64 a2_1, .int .i64 a2_2, .int .i64 a2_3, .int .i64 a2_4, .int .i64 a2_5, .int .i64 a2_6] 56 (0, 0))) ∧ Aside0 (Below w.heap.size w wc))
 case first =>
  have H := HC6.out
  clear HC6
  replace H := Option.bind_eq_some_iff.mp H
  obtain ⟨t401, A110, H⟩ := H
  replace H : (if t401 = true then (hopmeshlaw05_GeometryWalls.j0 k (decide ((l0_2.length : Int) > 31)) l0_0 l0_1 l0_2 a0_3 a0_4 a0_5 a1_0 a1_1 a1_2 a1_3 a1_4 a2_0 a2_1 a2_2 a2_3 a2_4 a2_5 a2_6) else (hopmeshlaw05_GeometryWalls.j0 k true l0_0 l0_1 l0_2 a0_3 a0_4 a0_5 a1_0 a1_1 a1_2 a1_3 a1_4 a2_0 a2_1 a2_2 a2_3 a2_4 a2_5 a2_6)) = some r := H
  have A11 := Aside0.mk A110
  clear A110
  by_cases c12 : t401 = true
  rotate_left
  ·replace c12 := Bool.eq_false_iff.mpr c12
   subst c12
   have H1 : (hopmeshlaw05_GeometryWalls.j0 k true l0_0 l0_1 l0_2 a0_3 a0_4 a0_5 a1_0 a1_1 a1_2 a1_3 a1_4 a2_0 a2_1 a2_2 a2_3 a2_4 a2_5 a2_6) = some r := by rw [if_neg (show ¬ (false = true) by decide)] at H; exact H
   clear H
   have H := H1
   clear H1
   have H' := Aside0.mk H
   clear H
   have hnb18 := NB397_398.out
   have hnc18 := NB398_397.out
   have hnb19 := NB397_399.out
   have hnc19 := NB399_397.out
   have hcz20_0 : w10.cell? ⟨gb397, 0, none⟩ = some (.slice A0_0 l0_0.length c0_0) := (bkC BK397.out 0).trans rfl
   have hcz20_1 : w10.cell? ⟨gb397, 1, none⟩ = some (.slice A0_1 l0_1.length c0_1) := (bkC BK397.out 1).trans rfl
   have hcz20_2 : w10.cell? ⟨gb397, 2, none⟩ = some (.slice A0_2 l0_2.length c0_2) := (bkC BK397.out 2).trans rfl
   have hcz20_3 : w10.cell? ⟨gb397, 3, none⟩ = some (.int .i64 a0_3) := (bkC BK397.out 3).trans rfl
   have hcz20_4 : w10.cell? ⟨gb397, 4, none⟩ = some (.int .i64 a0_4) := (bkC BK397.out 4).trans rfl
   have hcz20_5 : w10.cell? ⟨gb397, 5, none⟩ = some (.int .i64 a0_5) := (bkC BK397.out 5).trans rfl
   have hfz20_0 := bkF BK397.out 0
   have hfz20_1 := bkF BK397.out 1
   have hfz20_2 := bkF BK397.out 2
   have hfz20_3 := bkF BK397.out 3
   have hfz20_4 := bkF BK397.out 4
   have hfz20_5 := bkF BK397.out 5
   go_wp2_with (first | ((with_reducible refine gate_callee (f := 12) rfl ?_); refine goesL_ (some 15) rfl rfl Try.func12 (by kernel_rfl) rfl #[.agg #[.slice A0_0 l0_0.length c0_0, .slice A0_1 l0_1.length c0_1, .slice A0_2 l0_2.length c0_2, .int .i64 a0_3, .int .i64 a0_4, .int .i64 a0_5]] rfl (by (try simp only [List.map_toArray, List.map_cons, List.map_nil]); first | done | rfl | (simp only [List.length_drop, List.length_take]; rfl)) ?_; (with_reducible refine (hopmeshref05_Few.calls _ _ l0_0 _ _ l0_1 _ _ l0_2 a0_3 a0_4 a0_5 false _ ?side1 ?side2 ?side3 ?side4 ?side5 ?side6 A11.out).mono ?_); (case side1 => repeat (first | exact (Kd.C_below HR0_0.out HB.out) | (with_reducible refine Kd.C_alloc ?_ _) | (with_reducible refine Kd.C_drewN ?_ _) | (with_reducible refine Kd.C_drew ?_))); (case side2 => exact HC0_0.out); (case side3 => repeat (first | exact (Kd.C_below HR0_1.out HB.out) | (with_reducible refine Kd.C_alloc ?_ _) | (with_reducible refine Kd.C_drewN ?_ _) | (with_reducible refine Kd.C_drew ?_))); (case side4 => exact HC0_1.out); (case side5 => repeat (first | exact (Kd.C_below HR0_2.out HB.out) | (with_reducible refine Kd.C_alloc ?_ _) | (with_reducible refine Kd.C_drewN ?_ _) | (with_reducible refine Kd.C_drew ?_))); (case side6 => exact HC0_2.out); rintro e w21 ⟨rfl, hb⟩; refine ⟨_, rfl, ?_⟩; have n0_ := Aside0.mk (bkB (g := gb397) (o := .cells #[.slice A0_0 l0_0.length c0_0, .slice A0_1 l0_1.length c0_1, .slice A0_2 l0_2.length c0_2, .int .i64 a0_3, .int .i64 a0_4, .int .i64 a0_5] 26 (0, 0)) (by (with_reducible repeat (first | refine bkN ?_ _ | refine bkD ?_ | refine bkA ?_ _)); exact BK397.out) hb); have n1_ := Aside0.mk (bkB (g := gb398) (o := .cells #[.int .i64 a1_0, .int .i64 a1_1, .int .i64 a1_2, .int .i64 a1_3, .int .i64 a1_4] 47 (0, 0)) (by (with_reducible repeat (first | refine bkN ?_ _ | refine bkD ?_ | refine bkA ?_ _)); exact BK398.out) hb); have n2_ := Aside0.mk (bkB (g := gb399) (o := .cells #[.int .i64 a2_0, .int .i64 a2_1, .int .i64 a2_2, .int .i64 a2_3, .int .i64 a2_4, .int .i64 a2_5, .int .i64 a2_6] 56 (0, 0)) (by (with_reducible repeat (first | refine bkN ?_ _ | refine bkD ?_ | refine bkA ?_ _)); exact BK399.out) hb); have n3_ := Aside0.mk (below_step (by repeat (first | (with_reducible first | exact HB.out | apply blA | apply blN | apply blD | refine blS ?_ GE397.out | refine blS ?_ GE398.out | refine blS ?_ GE399.out) | exact HB.out)) hb); clear BK397; clear BK398; clear BK399; clear HB; have BK397 := n0_; have BK398 := n1_; have BK399 := n2_; have HB := n3_; clear n0_ n1_ n2_ n3_; (try clear hb); (try clear hb2); (try clear hk); (try clear hi)))
   go_meet
   case rel => exact ⟨_, (true), (by first | rfl | (simp; done) | (simp [*]; done)), H', ⟨by first | omega | exact Nat.le_refl _⟩, ⟨by (with_reducible repeat (first | refine bkN ?_ _ | refine bkD ?_ | refine bkA ?_ _)); exact BK397.out⟩, ⟨by (with_reducible repeat (first | refine bkN ?_ _ | refine bkD ?_ | refine bkA ?_ _)); exact BK398.out⟩, ⟨by (with_reducible repeat (first | refine bkN ?_ _ | refine bkD ?_ | refine bkA ?_ _)); exact BK399.out⟩, ⟨by repeat (first | (with_reducible first | exact HB.out | apply blA | apply blN | apply blD | refine blS ?_ GE397.out | refine blS ?_ GE398.out | refine blS ?_ GE399.out) | exact HB.out)⟩⟩
  subst c12
  have H1 : (hopmeshlaw05_GeometryWalls.j0 k (decide ((l0_2.length : Int) > 31)) l0_0 l0_1 l0_2 a0_3 a0_4 a0_5 a1_0 a1_1 a1_2 a1_3 a1_4 a2_0 a2_1 a2_2 a2_3 a2_4 a2_5 a2_6) = some r := by rw [if_pos rfl] at H; exact H
  clear H
  have H := H1
  clear H1
  have H' := Aside0.mk H
  clear H
  have hnb13 := NB397_398.out
  have hnc13 := NB398_397.out
  have hnb14 := NB397_399.out
  have hnc14 := NB399_397.out
  have hcz15_0 : w10.cell? ⟨gb397, 0, none⟩ = some (.slice A0_0 l0_0.length c0_0) := (bkC BK397.out 0).trans rfl
  have hcz15_1 : w10.cell? ⟨gb397, 1, none⟩ = some (.slice A0_1 l0_1.length c0_1) := (bkC BK397.out 1).trans rfl
  have hcz15_2 : w10.cell? ⟨gb397, 2, none⟩ = some (.slice A0_2 l0_2.length c0_2) := (bkC BK397.out 2).trans rfl
  have hcz15_3 : w10.cell? ⟨gb397, 3, none⟩ = some (.int .i64 a0_3) := (bkC BK397.out 3).trans rfl
  have hcz15_4 : w10.cell? ⟨gb397, 4, none⟩ = some (.int .i64 a0_4) := (bkC BK397.out 4).trans rfl
  have hcz15_5 : w10.cell? ⟨gb397, 5, none⟩ = some (.int .i64 a0_5) := (bkC BK397.out 5).trans rfl
  have hfz15_0 := bkF BK397.out 0
  have hfz15_1 := bkF BK397.out 1
  have hfz15_2 := bkF BK397.out 2
  have hfz15_3 := bkF BK397.out 3
  have hfz15_4 := bkF BK397.out 4
  have hfz15_5 := bkF BK397.out 5
  go_wp2_with (first | ((with_reducible refine gate_callee (f := 12) rfl ?_); refine goesL_ (some 15) rfl rfl Try.func12 (by kernel_rfl) rfl #[.agg #[.slice A0_0 l0_0.length c0_0, .slice A0_1 l0_1.length c0_1, .slice A0_2 l0_2.length c0_2, .int .i64 a0_3, .int .i64 a0_4, .int .i64 a0_5]] rfl (by (try simp only [List.map_toArray, List.map_cons, List.map_nil]); first | done | rfl | (simp only [List.length_drop, List.length_take]; rfl)) ?_; (with_reducible refine (hopmeshref05_Few.calls _ _ l0_0 _ _ l0_1 _ _ l0_2 a0_3 a0_4 a0_5 true _ ?side1 ?side2 ?side3 ?side4 ?side5 ?side6 A11.out).mono ?_); (case side1 => repeat (first | exact (Kd.C_below HR0_0.out HB.out) | (with_reducible refine Kd.C_alloc ?_ _) | (with_reducible refine Kd.C_drewN ?_ _) | (with_reducible refine Kd.C_drew ?_))); (case side2 => exact HC0_0.out); (case side3 => repeat (first | exact (Kd.C_below HR0_1.out HB.out) | (with_reducible refine Kd.C_alloc ?_ _) | (with_reducible refine Kd.C_drewN ?_ _) | (with_reducible refine Kd.C_drew ?_))); (case side4 => exact HC0_1.out); (case side5 => repeat (first | exact (Kd.C_below HR0_2.out HB.out) | (with_reducible refine Kd.C_alloc ?_ _) | (with_reducible refine Kd.C_drewN ?_ _) | (with_reducible refine Kd.C_drew ?_))); (case side6 => exact HC0_2.out); rintro e w16 ⟨rfl, hb⟩; refine ⟨_, rfl, ?_⟩; have n0_ := Aside0.mk (bkB (g := gb397) (o := .cells #[.slice A0_0 l0_0.length c0_0, .slice A0_1 l0_1.length c0_1, .slice A0_2 l0_2.length c0_2, .int .i64 a0_3, .int .i64 a0_4, .int .i64 a0_5] 26 (0, 0)) (by (with_reducible repeat (first | refine bkN ?_ _ | refine bkD ?_ | refine bkA ?_ _)); exact BK397.out) hb); have n1_ := Aside0.mk (bkB (g := gb398) (o := .cells #[.int .i64 a1_0, .int .i64 a1_1, .int .i64 a1_2, .int .i64 a1_3, .int .i64 a1_4] 47 (0, 0)) (by (with_reducible repeat (first | refine bkN ?_ _ | refine bkD ?_ | refine bkA ?_ _)); exact BK398.out) hb); have n2_ := Aside0.mk (bkB (g := gb399) (o := .cells #[.int .i64 a2_0, .int .i64 a2_1, .int .i64 a2_2, .int .i64 a2_3, .int .i64 a2_4, .int .i64 a2_5, .int .i64 a2_6] 56 (0, 0)) (by (with_reducible repeat (first | refine bkN ?_ _ | refine bkD ?_ | refine bkA ?_ _)); exact BK399.out) hb); have n3_ := Aside0.mk (below_step (by repeat (first | (with_reducible first | exact HB.out | apply blA | apply blN | apply blD | refine blS ?_ GE397.out | refine blS ?_ GE398.out | refine blS ?_ GE399.out) | exact HB.out)) hb); clear BK397; clear BK398; clear BK399; clear HB; have BK397 := n0_; have BK398 := n1_; have BK399 := n2_; have HB := n3_; clear n0_ n1_ n2_ n3_; (try clear hb); (try clear hb2); (try clear hk); (try clear hi); have hcz17_0 : w16.cell? ⟨gb397, 0, none⟩ = some (.slice A0_0 l0_0.length c0_0) := (bkC BK397.out 0).trans rfl; have hcz17_1 : w16.cell? ⟨gb397, 1, none⟩ = some (.slice A0_1 l0_1.length c0_1) := (bkC BK397.out 1).trans rfl; have hcz17_2 : w16.cell? ⟨gb397, 2, none⟩ = some (.slice A0_2 l0_2.length c0_2) := (bkC BK397.out 2).trans rfl; have hcz17_3 : w16.cell? ⟨gb397, 3, none⟩ = some (.int .i64 a0_3) := (bkC BK397.out 3).trans rfl; have hcz17_4 : w16.cell? ⟨gb397, 4, none⟩ = some (.int .i64 a0_4) := (bkC BK397.out 4).trans rfl; have hcz17_5 : w16.cell? ⟨gb397, 5, none⟩ = some (.int .i64 a0_5) := (bkC BK397.out 5).trans rfl; have hfz17_0 := bkF BK397.out 0; have hfz17_1 := bkF BK397.out 1; have hfz17_2 := bkF BK397.out 2; have hfz17_3 := bkF BK397.out 3; have hfz17_4 := bkF BK397.out 4; have hfz17_5 := bkF BK397.out 5))
  go_meet
  case rel => exact ⟨_, (decide ((l0_2.length : Int) > 31)), (by first | rfl | (simp; done) | (simp [*]; done)), H', ⟨by first | omega | exact Nat.le_refl _⟩, ⟨by (with_reducible repeat (first | refine bkN ?_ _ | refine bkD ?_ | refine bkA ?_ _)); exact BK397.out⟩, ⟨by (with_reducible repeat (first | refine bkN ?_ _ | refine bkD ?_ | refine bkA ?_ _)); exact BK398.out⟩, ⟨by (with_reducible repeat (first | refine bkN ?_ _ | refine bkD ?_ | refine bkA ?_ _)); exact BK399.out⟩, ⟨by repeat (first | (with_reducible first | exact HB.out | apply blA | apply blN | apply blD | refine blS ?_ GE397.out | refine blS ?_ GE398.out | refine blS ?_ GE399.out) | exact HB.out)⟩⟩
 case rest =>
  clear HC6
  try clear c1
  try clear p2
  try clear c5
  try clear c9
  try clear c11
  try clear c12
  try clear c13
  try clear c14
  try clear c18
  try clear c19
  try clear hcz15_0
  try clear hcz15_1
  try clear hcz15_2
  try clear hcz15_3
  try clear hcz15_4
  try clear hcz15_5
  try clear hcz17_0
  try clear hcz17_1
  try clear hcz17_2
  try clear hcz17_3
  try clear hcz17_4
  try clear hcz17_5
  try clear hcz20_0
  try clear hcz20_1
  try clear hcz20_2
  try clear hcz20_3
  try clear hcz20_4
  try clear hcz20_5
  try clear hfz15_0
  try clear hfz15_1
  try clear hfz15_2
  try clear hfz15_3
  try clear hfz15_4
  try clear hfz15_5
  try clear hfz17_0
  try clear hfz17_1
  try clear hfz17_2
  try clear hfz17_3
  try clear hfz17_4
  try clear hfz17_5
  try clear hfz20_0
  try clear hfz20_1
  try clear hfz20_2
  try clear hfz20_3
  try clear hfz20_4
  try clear hfz20_5
  obtain ⟨kq, x22_5, rfl, HA, HJ5, BK397, BK398, BK399, HB⟩ := hcut
  cases kq with
  | zero => exact absurd HA.out (by simp [hopmeshlaw05_GeometryWalls.j0])
  | succ kj5 =>
   have H := HA.out
   clear HA
   simp only [hopmeshlaw05_GeometryWalls.j0] at H
   by_cases c22 : x22_5 = true
   ·subst c22
    have H1 : (some true) = some r := by rw [if_pos rfl] at H; exact H
    clear H
    have H := H1
    clear H1
    obtain rfl := Option.some.inj H
    go_wp2
    go_ret
    exact ⟨by first | rfl | (simp [errW_none, errW_some] <;> rfl) | (simp [*, errW_none, errW_some] <;> rfl), by repeat (first | (with_reducible first | exact HB.out | apply blA | apply blN | apply blD | refine blS ?_ GE397.out | refine blS ?_ GE398.out | refine blS ?_ GE399.out) | exact HB.out)⟩
   replace c22 := Bool.eq_false_iff.mpr c22
   subst c22
   have H1 : ((geometry_At.f kj5 l0_0 l0_1 l0_2 a0_3 a0_4 a0_5 a2_0 a2_1 a2_4 a2_2 a2_3).bind fun bt402 => (if bt402.2 = 0 then (if bt402.1 < 0 then (hopmeshlaw05_GeometryWalls.j1 kj5 bt402.1 true l0_0 l0_1 l0_2 a0_3 a0_4 a0_5 a1_0 a1_1 a1_2 a1_3 a1_4 a2_0 a2_1 a2_2 a2_3 a2_4 a2_5 a2_6) else (hopmeshlaw05_GeometryWalls.j1 kj5 bt402.1 (decide (bt402.1 > a2_4)) l0_0 l0_1 l0_2 a0_3 a0_4 a0_5 a1_0 a1_1 a1_2 a1_3 a1_4 a2_0 a2_1 a2_2 a2_3 a2_4 a2_5 a2_6)) else (some (bt402.1 == 0)))) = some r := by rw [if_neg (show ¬ (false = true) by decide)] at H; exact H
   clear H
   have H := H1
   clear H1
   replace H := Option.bind_eq_some_iff.mp H
   obtain ⟨⟨t402, t403⟩, A230, H⟩ := H
   replace H : (if t403 = 0 then (if t402 < 0 then (hopmeshlaw05_GeometryWalls.j1 kj5 t402 true l0_0 l0_1 l0_2 a0_3 a0_4 a0_5 a1_0 a1_1 a1_2 a1_3 a1_4 a2_0 a2_1 a2_2 a2_3 a2_4 a2_5 a2_6) else (hopmeshlaw05_GeometryWalls.j1 kj5 t402 (decide (t402 > a2_4)) l0_0 l0_1 l0_2 a0_3 a0_4 a0_5 a1_0 a1_1 a1_2 a1_3 a1_4 a2_0 a2_1 a2_2 a2_3 a2_4 a2_5 a2_6)) else (some (t402 == 0))) = some r := H
   have A23 := Aside0.mk A230
   clear A230
   by_cases c24 : t403 = 0
   rotate_left
   ·rw [if_neg c24] at H
    have c24b0 : (t403 == 0) = false := beq_eq_false_iff_ne.mpr c24
    have c24b1 : (t403 != 0) = true := bne_iff_ne.mpr c24
    obtain rfl := Option.some.inj H
    have hnb147 := NB397_398.out
    have hnc147 := NB398_397.out
    have hnb148 := NB397_399.out
    have hnc148 := NB399_397.out
    have hcz149_0 : wc.cell? ⟨gb397, 0, none⟩ = some (.slice A0_0 l0_0.length c0_0) := (bkC BK397.out 0).trans rfl
    have hcz149_1 : wc.cell? ⟨gb397, 1, none⟩ = some (.slice A0_1 l0_1.length c0_1) := (bkC BK397.out 1).trans rfl
    have hcz149_2 : wc.cell? ⟨gb397, 2, none⟩ = some (.slice A0_2 l0_2.length c0_2) := (bkC BK397.out 2).trans rfl
    have hcz149_3 : wc.cell? ⟨gb397, 3, none⟩ = some (.int .i64 a0_3) := (bkC BK397.out 3).trans rfl
    have hcz149_4 : wc.cell? ⟨gb397, 4, none⟩ = some (.int .i64 a0_4) := (bkC BK397.out 4).trans rfl
    have hcz149_5 : wc.cell? ⟨gb397, 5, none⟩ = some (.int .i64 a0_5) := (bkC BK397.out 5).trans rfl
    have hfz149_0 := bkF BK397.out 0
    have hfz149_1 := bkF BK397.out 1
    have hfz149_2 := bkF BK397.out 2
    have hfz149_3 := bkF BK397.out 3
    have hfz149_4 := bkF BK397.out 4
    have hfz149_5 := bkF BK397.out 5
    have hnb150 := NB399_398.out
    have hnc150 := NB398_399.out
    have hcz151_0 : wc.cell? ⟨gb399, 0, none⟩ = some (.int .i64 a2_0) := (bkC BK399.out 0).trans rfl
    have hcz151_1 : wc.cell? ⟨gb399, 1, none⟩ = some (.int .i64 a2_1) := (bkC BK399.out 1).trans rfl
    have hcz151_2 : wc.cell? ⟨gb399, 2, none⟩ = some (.int .i64 a2_2) := (bkC BK399.out 2).trans rfl
    have hcz151_3 : wc.cell? ⟨gb399, 3, none⟩ = some (.int .i64 a2_3) := (bkC BK399.out 3).trans rfl
    have hcz151_4 : wc.cell? ⟨gb399, 4, none⟩ = some (.int .i64 a2_4) := (bkC BK399.out 4).trans rfl
    have hcz151_5 : wc.cell? ⟨gb399, 5, none⟩ = some (.int .i64 a2_5) := (bkC BK399.out 5).trans rfl
    have hcz151_6 : wc.cell? ⟨gb399, 6, none⟩ = some (.int .i64 a2_6) := (bkC BK399.out 6).trans rfl
    have hfz151_0 := bkF BK399.out 0
    have hfz151_1 := bkF BK399.out 1
    have hfz151_2 := bkF BK399.out 2
    have hfz151_3 := bkF BK399.out 3
    have hfz151_4 := bkF BK399.out 4
    have hfz151_5 := bkF BK399.out 5
    have hfz151_6 := bkF BK399.out 6
    go_wp2_with (first | ((with_reducible refine gate_callee (f := 23) rfl ?_); refine goesL_ (some 31) rfl rfl Try.func23 (by kernel_rfl) rfl #[.agg #[.slice A0_0 l0_0.length c0_0, .slice A0_1 l0_1.length c0_1, .slice A0_2 l0_2.length c0_2, .int .i64 a0_3, .int .i64 a0_4, .int .i64 a0_5], .agg #[.int .i64 a2_0, .int .i64 a2_1], .int .i64 a2_4, .agg #[.int .i64 a2_2, .int .i64 a2_3]] rfl (by (try simp only [List.map_toArray, List.map_cons, List.map_nil]); first | done | rfl | (simp only [List.length_drop, List.length_take]; rfl)) ?_; (with_reducible refine (geometry_At.calls kj5 _ _ l0_0 _ _ l0_1 _ _ l0_2 a0_3 a0_4 a0_5 a2_0 a2_1 a2_4 a2_2 a2_3 t402 t403 _ ?side1 ?side2 ?side3 ?side4 ?side5 ?side6 A23.out).mono ?_); (case side1 => repeat (first | exact (Kd.C_below HR0_0.out HB.out) | (with_reducible refine Kd.C_alloc ?_ _) | (with_reducible refine Kd.C_drewN ?_ _) | (with_reducible refine Kd.C_drew ?_))); (case side2 => exact HC0_0.out); (case side3 => repeat (first | exact (Kd.C_below HR0_1.out HB.out) | (with_reducible refine Kd.C_alloc ?_ _) | (with_reducible refine Kd.C_drewN ?_ _) | (with_reducible refine Kd.C_drew ?_))); (case side4 => exact HC0_1.out); (case side5 => repeat (first | exact (Kd.C_below HR0_2.out HB.out) | (with_reducible refine Kd.C_alloc ?_ _) | (with_reducible refine Kd.C_drewN ?_ _) | (with_reducible refine Kd.C_drew ?_))); (case side6 => exact HC0_2.out); rintro e w152 ⟨rfl, hb⟩; refine ⟨_, rfl, ?_⟩; have n0_ := Aside0.mk (bkB (g := gb397) (o := .cells #[.slice A0_0 l0_0.length c0_0, .slice A0_1 l0_1.length c0_1, .slice A0_2 l0_2.length c0_2, .int .i64 a0_3, .int .i64 a0_4, .int .i64 a0_5] 26 (0, 0)) (by (with_reducible repeat (first | refine bkN ?_ _ | refine bkD ?_ | refine bkA ?_ _)); exact BK397.out) hb); have n1_ := Aside0.mk (bkB (g := gb398) (o := .cells #[.int .i64 a1_0, .int .i64 a1_1, .int .i64 a1_2, .int .i64 a1_3, .int .i64 a1_4] 47 (0, 0)) (by (with_reducible repeat (first | refine bkN ?_ _ | refine bkD ?_ | refine bkA ?_ _)); exact BK398.out) hb); have n2_ := Aside0.mk (bkB (g := gb399) (o := .cells #[.int .i64 a2_0, .int .i64 a2_1, .int .i64 a2_2, .int .i64 a2_3, .int .i64 a2_4, .int .i64 a2_5, .int .i64 a2_6] 56 (0, 0)) (by (with_reducible repeat (first | refine bkN ?_ _ | refine bkD ?_ | refine bkA ?_ _)); exact BK399.out) hb); have n3_ := Aside0.mk (below_step (by repeat (first | (with_reducible first | exact HB.out | apply blA | apply blN | apply blD | refine blS ?_ GE397.out | refine blS ?_ GE398.out | refine blS ?_ GE399.out) | exact HB.out)) hb); clear BK397; clear BK398; clear BK399; clear HB; have BK397 := n0_; have BK398 := n1_; have BK399 := n2_; have HB := n3_; clear n0_ n1_ n2_ n3_; (try clear hb); (try clear hb2); (try clear hk); (try clear hi)))
    go_ret
    exact ⟨by first | rfl | (simp [errW_none, errW_some] <;> rfl) | (simp [*, errW_none, errW_some] <;> rfl), by repeat (first | (with_reducible first | exact HB.out | apply blA | apply blN | apply blD | refine blS ?_ GE397.out | refine blS ?_ GE398.out | refine blS ?_ GE399.out) | exact HB.out)⟩
   rw [if_pos c24] at H
   have c24b0 : (t403 == 0) = true := beq_iff_eq.mpr c24
   have c24b1 : (t403 != 0) = false := bne_eq_false_iff_eq.mpr c24
   clear c24
   have HC25 := Aside0.mk H
   clear H
   have hnb26 := NB397_398.out
   have hnc26 := NB398_397.out
   have hnb27 := NB397_399.out
   have hnc27 := NB399_397.out
   have hcz28_0 : wc.cell? ⟨gb397, 0, none⟩ = some (.slice A0_0 l0_0.length c0_0) := (bkC BK397.out 0).trans rfl
   have hcz28_1 : wc.cell? ⟨gb397, 1, none⟩ = some (.slice A0_1 l0_1.length c0_1) := (bkC BK397.out 1).trans rfl
   have hcz28_2 : wc.cell? ⟨gb397, 2, none⟩ = some (.slice A0_2 l0_2.length c0_2) := (bkC BK397.out 2).trans rfl
   have hcz28_3 : wc.cell? ⟨gb397, 3, none⟩ = some (.int .i64 a0_3) := (bkC BK397.out 3).trans rfl
   have hcz28_4 : wc.cell? ⟨gb397, 4, none⟩ = some (.int .i64 a0_4) := (bkC BK397.out 4).trans rfl
   have hcz28_5 : wc.cell? ⟨gb397, 5, none⟩ = some (.int .i64 a0_5) := (bkC BK397.out 5).trans rfl
   have hfz28_0 := bkF BK397.out 0
   have hfz28_1 := bkF BK397.out 1
   have hfz28_2 := bkF BK397.out 2
   have hfz28_3 := bkF BK397.out 3
   have hfz28_4 := bkF BK397.out 4
   have hfz28_5 := bkF BK397.out 5
   have hnb29 := NB399_398.out
   have hnc29 := NB398_399.out
   have hcz30_0 : wc.cell? ⟨gb399, 0, none⟩ = some (.int .i64 a2_0) := (bkC BK399.out 0).trans rfl
   have hcz30_1 : wc.cell? ⟨gb399, 1, none⟩ = some (.int .i64 a2_1) := (bkC BK399.out 1).trans rfl
   have hcz30_2 : wc.cell? ⟨gb399, 2, none⟩ = some (.int .i64 a2_2) := (bkC BK399.out 2).trans rfl
   have hcz30_3 : wc.cell? ⟨gb399, 3, none⟩ = some (.int .i64 a2_3) := (bkC BK399.out 3).trans rfl
   have hcz30_4 : wc.cell? ⟨gb399, 4, none⟩ = some (.int .i64 a2_4) := (bkC BK399.out 4).trans rfl
   have hcz30_5 : wc.cell? ⟨gb399, 5, none⟩ = some (.int .i64 a2_5) := (bkC BK399.out 5).trans rfl
   have hcz30_6 : wc.cell? ⟨gb399, 6, none⟩ = some (.int .i64 a2_6) := (bkC BK399.out 6).trans rfl
   have hfz30_0 := bkF BK399.out 0
   have hfz30_1 := bkF BK399.out 1
   have hfz30_2 := bkF BK399.out 2
   have hfz30_3 := bkF BK399.out 3
   have hfz30_4 := bkF BK399.out 4
   have hfz30_5 := bkF BK399.out 5
   have hfz30_6 := bkF BK399.out 6
   go_upto_region 8 with (first | ((with_reducible refine gate_callee (f := 23) rfl ?_); refine goesL_ (some 31) rfl rfl Try.func23 (by kernel_rfl) rfl #[.agg #[.slice A0_0 l0_0.length c0_0, .slice A0_1 l0_1.length c0_1, .slice A0_2 l0_2.length c0_2, .int .i64 a0_3, .int .i64 a0_4, .int .i64 a0_5], .agg #[.int .i64 a2_0, .int .i64 a2_1], .int .i64 a2_4, .agg #[.int .i64 a2_2, .int .i64 a2_3]] rfl (by (try simp only [List.map_toArray, List.map_cons, List.map_nil]); first | done | rfl | (simp only [List.length_drop, List.length_take]; rfl)) ?_; (with_reducible refine (geometry_At.calls kj5 _ _ l0_0 _ _ l0_1 _ _ l0_2 a0_3 a0_4 a0_5 a2_0 a2_1 a2_4 a2_2 a2_3 t402 t403 _ ?side1 ?side2 ?side3 ?side4 ?side5 ?side6 A23.out).mono ?_); (case side1 => repeat (first | exact (Kd.C_below HR0_0.out HB.out) | (with_reducible refine Kd.C_alloc ?_ _) | (with_reducible refine Kd.C_drewN ?_ _) | (with_reducible refine Kd.C_drew ?_))); (case side2 => exact HC0_0.out); (case side3 => repeat (first | exact (Kd.C_below HR0_1.out HB.out) | (with_reducible refine Kd.C_alloc ?_ _) | (with_reducible refine Kd.C_drewN ?_ _) | (with_reducible refine Kd.C_drew ?_))); (case side4 => exact HC0_1.out); (case side5 => repeat (first | exact (Kd.C_below HR0_2.out HB.out) | (with_reducible refine Kd.C_alloc ?_ _) | (with_reducible refine Kd.C_drewN ?_ _) | (with_reducible refine Kd.C_drew ?_))); (case side6 => exact HC0_2.out); rintro e w31 ⟨rfl, hb⟩; refine ⟨_, rfl, ?_⟩; have n0_ := Aside0.mk (bkB (g := gb397) (o := .cells #[.slice A0_0 l0_0.length c0_0, .slice A0_1 l0_1.length c0_1, .slice A0_2 l0_2.length c0_2, .int .i64 a0_3, .int .i64 a0_4, .int .i64 a0_5] 26 (0, 0)) (by (with_reducible repeat (first | refine bkN ?_ _ | refine bkD ?_ | refine bkA ?_ _)); exact BK397.out) hb); have n1_ := Aside0.mk (bkB (g := gb398) (o := .cells #[.int .i64 a1_0, .int .i64 a1_1, .int .i64 a1_2, .int .i64 a1_3, .int .i64 a1_4] 47 (0, 0)) (by (with_reducible repeat (first | refine bkN ?_ _ | refine bkD ?_ | refine bkA ?_ _)); exact BK398.out) hb); have n2_ := Aside0.mk (bkB (g := gb399) (o := .cells #[.int .i64 a2_0, .int .i64 a2_1, .int .i64 a2_2, .int .i64 a2_3, .int .i64 a2_4, .int .i64 a2_5, .int .i64 a2_6] 56 (0, 0)) (by (with_reducible repeat (first | refine bkN ?_ _ | refine bkD ?_ | refine bkA ?_ _)); exact BK399.out) hb); have n3_ := Aside0.mk (below_step (by repeat (first | (with_reducible first | exact HB.out | apply blA | apply blN | apply blD | refine blS ?_ GE397.out | refine blS ?_ GE398.out | refine blS ?_ GE399.out) | exact HB.out)) hb); clear BK397; clear BK398; clear BK399; clear HB; have BK397 := n0_; have BK398 := n1_; have BK399 := n2_; have HB := n3_; clear n0_ n1_ n2_ n3_; (try clear hb); (try clear hb2); (try clear hk); (try clear hi)))
   (try simp only [Act.put, List.setIfInBounds_toArray, List.set_cons_zero, List.set_cons_succ])
   go_cut [45] (fun v45 wc => ∃ (kq : Nat) (x45_24 : Bool), v45 = .bool x45_24 ∧ Aside0 (hopmeshlaw05_GeometryWalls.j1 kq t402 x45_24 l0_0 l0_1 l0_2 a0_3 a0_4 a0_5 a1_0 a1_1 a1_2 a1_3 a1_4 a2_0 a2_1 a2_2 a2_3 a2_4 a2_5 a2_6 = some r) ∧ Aside0 (kq ≤ kj5) ∧ Aside0 (wc.heap[gb397]? = some (.cells #[(.slice A0_0 l0_0.length c0_0), (.slice A0_1 l0_1.length c0_1), (.slice A0_2 l0_2.length c0_2), .int .i64 a0_3, .int .i64 a0_4, .int .i64 a0_5] 26 (0, 0))) ∧ Aside0 (wc.heap[gb398]? = some (.cells #[.int .i64 a1_0, .int .i64 a1_1, .int .i64 a1_2, .int .i64 a1_3, .int .i64 a1_4] 47 (0, 0))) ∧ Aside0 (wc.heap[gb399]? = some (.cells #[.int .i64 a2_0, .int .i64 a2_1, .int .i64 a2_2, .int .i64 a2_3, .int .i64 a2_4, .int .i64 a2_5, .int .i64 a2_6] 56 (0, 0))) ∧ Aside0 (Below w.heap.size w wc))
   case first =>
    have H := HC25.out
    clear HC25
    by_cases c32 : t402 < 0
    ·rw [if_pos c32] at H
     have c32b0 : decide (t402 < 0) = true := decide_eq_true c32
     clear c32
     (first | rw [c32b0] | (simp only [i64_w, i32_w]; rw [c32b0]) | skip)
     have H' := Aside0.mk H
     clear H
     go_wp2
     go_meet
     case rel => exact ⟨_, (true), (by first | rfl | (simp; done) | (simp [*]; done)), H', ⟨by have := HJ5.out; first | omega | exact Nat.le_refl _⟩, ⟨by (with_reducible repeat (first | refine bkN ?_ _ | refine bkD ?_ | refine bkA ?_ _)); exact BK397.out⟩, ⟨by (with_reducible repeat (first | refine bkN ?_ _ | refine bkD ?_ | refine bkA ?_ _)); exact BK398.out⟩, ⟨by (with_reducible repeat (first | refine bkN ?_ _ | refine bkD ?_ | refine bkA ?_ _)); exact BK399.out⟩, ⟨by repeat (first | (with_reducible first | exact HB.out | apply blA | apply blN | apply blD | refine blS ?_ GE397.out | refine blS ?_ GE398.out | refine blS ?_ GE399.out) | exact HB.out)⟩⟩
    rw [if_neg c32] at H
    have c32b0 : decide (t402 < 0) = false := decide_eq_false c32
    clear c32
    (first | rw [c32b0] | (simp only [i64_w, i32_w]; rw [c32b0]) | skip)
    have H' := Aside0.mk H
    clear H
    have hnb33 := NB399_397.out
    have hnc33 := NB397_399.out
    have hnb34 := NB399_398.out
    have hnc34 := NB398_399.out
    have hcz35_0 : w31.cell? ⟨gb399, 0, none⟩ = some (.int .i64 a2_0) := (bkC BK399.out 0).trans rfl
    have hcz35_1 : w31.cell? ⟨gb399, 1, none⟩ = some (.int .i64 a2_1) := (bkC BK399.out 1).trans rfl
    have hcz35_2 : w31.cell? ⟨gb399, 2, none⟩ = some (.int .i64 a2_2) := (bkC BK399.out 2).trans rfl
    have hcz35_3 : w31.cell? ⟨gb399, 3, none⟩ = some (.int .i64 a2_3) := (bkC BK399.out 3).trans rfl
    have hcz35_4 : w31.cell? ⟨gb399, 4, none⟩ = some (.int .i64 a2_4) := (bkC BK399.out 4).trans rfl
    have hcz35_5 : w31.cell? ⟨gb399, 5, none⟩ = some (.int .i64 a2_5) := (bkC BK399.out 5).trans rfl
    have hcz35_6 : w31.cell? ⟨gb399, 6, none⟩ = some (.int .i64 a2_6) := (bkC BK399.out 6).trans rfl
    have hfz35_0 := bkF BK399.out 0
    have hfz35_1 := bkF BK399.out 1
    have hfz35_2 := bkF BK399.out 2
    have hfz35_3 := bkF BK399.out 3
    have hfz35_4 := bkF BK399.out 4
    have hfz35_5 := bkF BK399.out 5
    have hfz35_6 := bkF BK399.out 6
    go_wp2
    go_meet
    case rel => exact ⟨_, (decide (t402 > a2_4)), (by first | rfl | (simp; done) | (simp [*]; done)), H', ⟨by have := HJ5.out; first | omega | exact Nat.le_refl _⟩, ⟨by (with_reducible repeat (first | refine bkN ?_ _ | refine bkD ?_ | refine bkA ?_ _)); exact BK397.out⟩, ⟨by (with_reducible repeat (first | refine bkN ?_ _ | refine bkD ?_ | refine bkA ?_ _)); exact BK398.out⟩, ⟨by (with_reducible repeat (first | refine bkN ?_ _ | refine bkD ?_ | refine bkA ?_ _)); exact BK399.out⟩, ⟨by repeat (first | (with_reducible first | exact HB.out | apply blA | apply blN | apply blD | refine blS ?_ GE397.out | refine blS ?_ GE398.out | refine blS ?_ GE399.out) | exact HB.out)⟩⟩
   case rest =>
    clear HC25
    try clear c1
    try clear c2
    try clear p2
    try clear c3
    try clear c5
    try clear c9
    try clear c11
    try clear c12
    try clear c13
    try clear c14
    try clear c18
    try clear c19
    try clear c22
    try clear c23
    try clear c24
    try clear c24b0
    try clear c24b1
    try clear c26
    try clear c27
    try clear c29
    try clear c32
    try clear c32b0
    try clear c33
    try clear c34
    try clear hcz15_0
    try clear hcz15_1
    try clear hcz15_2
    try clear hcz15_3
    try clear hcz15_4
    try clear hcz15_5
    try clear hcz17_0
    try clear hcz17_1
    try clear hcz17_2
    try clear hcz17_3
    try clear hcz17_4
    try clear hcz17_5
    try clear hcz20_0
    try clear hcz20_1
    try clear hcz20_2
    try clear hcz20_3
    try clear hcz20_4
    try clear hcz20_5
    try clear hcz28_0
    try clear hcz28_1
    try clear hcz28_2
    try clear hcz28_3
    try clear hcz28_4
    try clear hcz28_5
    try clear hcz30_0
    try clear hcz30_1
    try clear hcz30_2
    try clear hcz30_3
    try clear hcz30_4
    try clear hcz30_5
    try clear hcz30_6
    try clear hcz35_0
    try clear hcz35_1
    try clear hcz35_2
    try clear hcz35_3
    try clear hcz35_4
    try clear hcz35_5
    try clear hcz35_6
    try clear hfz15_0
    try clear hfz15_1
    try clear hfz15_2
    try clear hfz15_3
    try clear hfz15_4
    try clear hfz15_5
    try clear hfz17_0
    try clear hfz17_1
    try clear hfz17_2
    try clear hfz17_3
    try clear hfz17_4
    try clear hfz17_5
    try clear hfz20_0
    try clear hfz20_1
    try clear hfz20_2
    try clear hfz20_3
    try clear hfz20_4
    try clear hfz20_5
    try clear hfz28_0
    try clear hfz28_1
    try clear hfz28_2
    try clear hfz28_3
    try clear hfz28_4
    try clear hfz28_5
    try clear hfz30_0
    try clear hfz30_1
    try clear hfz30_2
    try clear hfz30_3
    try clear hfz30_4
    try clear hfz30_5
    try clear hfz30_6
    try clear hfz35_0
    try clear hfz35_1
    try clear hfz35_2
    try clear hfz35_3
    try clear hfz35_4
    try clear hfz35_5
    try clear hfz35_6
    try clear p2
    obtain ⟨kq, x45_24, rfl, HA, HJ24, BK397, BK398, BK399, HB⟩ := hcut
    cases kq with
    | zero => exact absurd HA.out (by simp [hopmeshlaw05_GeometryWalls.j1])
    | succ kj24 =>
     have H := HA.out
     clear HA
     simp only [hopmeshlaw05_GeometryWalls.j1] at H
     by_cases c36 : x45_24 = true
     ·subst c36
      have H1 : (some false) = some r := by rw [if_pos rfl] at H; exact H
      clear H
      have H := H1
      clear H1
      exact absurd (H.trans (congrArg some HRT.out)) (by simp)
     replace c36 := Bool.eq_false_iff.mpr c36
     subst c36
     have H1 : ((slices_Clone_api_Wall_api_Wall.f l0_2).bind fun t405 => ((some (([(⟨(⟨a1_0, a1_1⟩ : S28), (⟨a1_2, a1_3⟩ : S28), a1_4⟩ : S47)] : List (S47)) : List (S47))).bind fun y408 => (if t405.length + y408.length < 3518437208883 then ((some (t405 ++ y408 : List (S47))).bind fun y411 => ((geometry_At.f kj24 l0_0 l0_1 y411 a0_3 a0_4 a0_5 a2_0 a2_1 a2_4 a2_2 a2_3).bind fun bt414 => (if bt414.2 = 0 then ((geometry_Crosses.f kj24 a2_0 a2_1 a2_2 a2_3 a1_0 a1_1 a1_2 a1_3 a1_4).bind fun t417 => (if t417 = true then (if a1_4 = 1000 then (some (bt414.1 == t402)) else (some (decide (bt414.1 ≤ t402)))) else (some (bt414.1 == t402)))) else (if bt414.2 = 1 then ((geometry_Check.f l0_0 l0_1 y411 a0_3 a0_4 a0_5).bind fun t416 => (some (t416 == 1))) else (some false))))) else (none)))) = some r := by rw [if_neg (show ¬ (false = true) by decide)] at H; exact H
     clear H
     have H := H1
     clear H1
     replace H := Option.bind_eq_some_iff.mp H
     obtain ⟨t405, A370, H⟩ := H
     replace H : ((some (([(⟨(⟨a1_0, a1_1⟩ : S28), (⟨a1_2, a1_3⟩ : S28), a1_4⟩ : S47)] : List (S47)) : List (S47))).bind fun y408 => (if t405.length + y408.length < 3518437208883 then ((some (t405 ++ y408 : List (S47))).bind fun y411 => ((geometry_At.f kj24 l0_0 l0_1 y411 a0_3 a0_4 a0_5 a2_0 a2_1 a2_4 a2_2 a2_3).bind fun bt414 => (if bt414.2 = 0 then ((geometry_Crosses.f kj24 a2_0 a2_1 a2_2 a2_3 a1_0 a1_1 a1_2 a1_3 a1_4).bind fun t417 => (if t417 = true then (if a1_4 = 1000 then (some (bt414.1 == t402)) else (some (decide (bt414.1 ≤ t402)))) else (some (bt414.1 == t402)))) else (if bt414.2 = 1 then ((geometry_Check.f l0_0 l0_1 y411 a0_3 a0_4 a0_5).bind fun t416 => (some (t416 == 1))) else (some false))))) else (none))) = some r := H
     have A37 := Aside0.mk A370
     clear A370
     obtain ⟨y408, hy408⟩ : ∃ y_ : List (S47), y_ = (([(⟨(⟨a1_0, a1_1⟩ : S28), (⟨a1_2, a1_3⟩ : S28), a1_4⟩ : S47)] : List (S47))) := ⟨_, rfl⟩
     replace H : (if t405.length + y408.length < 3518437208883 then ((some (t405 ++ y408 : List (S47))).bind fun y411 => ((geometry_At.f kj24 l0_0 l0_1 y411 a0_3 a0_4 a0_5 a2_0 a2_1 a2_4 a2_2 a2_3).bind fun bt414 => (if bt414.2 = 0 then ((geometry_Crosses.f kj24 a2_0 a2_1 a2_2 a2_3 a1_0 a1_1 a1_2 a1_3 a1_4).bind fun t417 => (if t417 = true then (if a1_4 = 1000 then (some (bt414.1 == t402)) else (some (decide (bt414.1 ≤ t402)))) else (some (bt414.1 == t402)))) else (if bt414.2 = 1 then ((geometry_Check.f l0_0 l0_1 y411 a0_3 a0_4 a0_5).bind fun t416 => (some (t416 == 1))) else (some false))))) else (none)) = some r := by first | (rw [hy408]; with_reducible exact H) | (have H2_ := (Option.bind_some _ _).symm.trans H; rw [hy408]; with_reducible exact H2_) | (have H2_ := (Option.bind_some _ _).symm.trans H; with_reducible exact H2_) | with_reducible exact H | (rw [hy408]; exact H) | exact H
     have Ny408 := Aside0.mk hy408
     clear hy408
     by_cases c38 : t405.length + y408.length < 3518437208883
     rotate_left
     ·rw [if_neg c38] at H
      exact absurd H (by simp)
     rw [if_pos c38] at H
     have LMc38 := Aside0.mk c38
     clear c38
     obtain ⟨y411, hy411⟩ : ∃ y_ : List (S47), y_ = (t405 ++ y408) := ⟨_, rfl⟩
     replace H : ((geometry_At.f kj24 l0_0 l0_1 y411 a0_3 a0_4 a0_5 a2_0 a2_1 a2_4 a2_2 a2_3).bind fun bt414 => (if bt414.2 = 0 then ((geometry_Crosses.f kj24 a2_0 a2_1 a2_2 a2_3 a1_0 a1_1 a1_2 a1_3 a1_4).bind fun t417 => (if t417 = true then (if a1_4 = 1000 then (some (bt414.1 == t402)) else (some (decide (bt414.1 ≤ t402)))) else (some (bt414.1 == t402)))) else (if bt414.2 = 1 then ((geometry_Check.f l0_0 l0_1 y411 a0_3 a0_4 a0_5).bind fun t416 => (some (t416 == 1))) else (some false)))) = some r := by first | (rw [hy411]; with_reducible exact H) | (have H2_ := (Option.bind_some _ _).symm.trans H; rw [hy411]; with_reducible exact H2_) | (have H2_ := (Option.bind_some _ _).symm.trans H; with_reducible exact H2_) | with_reducible exact H | (rw [hy411]; exact H) | exact H
     have Ny411 := Aside0.mk hy411
     clear hy411
     replace H := Option.bind_eq_some_iff.mp H
     obtain ⟨⟨t414, t415⟩, A390, H⟩ := H
     replace H : (if t415 = 0 then ((geometry_Crosses.f kj24 a2_0 a2_1 a2_2 a2_3 a1_0 a1_1 a1_2 a1_3 a1_4).bind fun t417 => (if t417 = true then (if a1_4 = 1000 then (some (t414 == t402)) else (some (decide (t414 ≤ t402)))) else (some (t414 == t402)))) else (if t415 = 1 then ((geometry_Check.f l0_0 l0_1 y411 a0_3 a0_4 a0_5).bind fun t416 => (some (t416 == 1))) else (some false))) = some r := H
     have A39 := Aside0.mk A390
     clear A390
     by_cases c40 : t415 = 0
     rotate_left
     ·rw [if_neg c40] at H
      have c40b0 : (t415 == 0) = false := beq_eq_false_iff_ne.mpr c40
      have c40b1 : (t415 != 0) = true := bne_iff_ne.mpr c40
      by_cases c121 : t415 = 1
      rotate_left
      ·rw [if_neg c121] at H
       have c121b0 : (t415 == 1) = false := beq_eq_false_iff_ne.mpr c121
       have c121b1 : (t415 != 1) = true := bne_iff_ne.mpr c121
       exact absurd (H.trans (congrArg some HRT.out)) (by simp)
      rw [if_pos c121] at H
      have c121b0 : (t415 == 1) = true := beq_iff_eq.mpr c121
      have c121b1 : (t415 != 1) = false := bne_eq_false_iff_eq.mpr c121
      clear c121
      replace H := Option.bind_eq_some_iff.mp H
      obtain ⟨t416, A1220, H⟩ := H
      replace H : (some (t416 == 1)) = some r := H
      have A122 := Aside0.mk A1220
      clear A1220
      obtain rfl := Option.some.inj H
      have hnb123 := NB397_398.out
      have hnc123 := NB398_397.out
      have hnb124 := NB397_399.out
      have hnc124 := NB399_397.out
      have hcz125_0 : wc.cell? ⟨gb397, 0, none⟩ = some (.slice A0_0 l0_0.length c0_0) := (bkC BK397.out 0).trans rfl
      have hcz125_1 : wc.cell? ⟨gb397, 1, none⟩ = some (.slice A0_1 l0_1.length c0_1) := (bkC BK397.out 1).trans rfl
      have hcz125_2 : wc.cell? ⟨gb397, 2, none⟩ = some (.slice A0_2 l0_2.length c0_2) := (bkC BK397.out 2).trans rfl
      have hcz125_3 : wc.cell? ⟨gb397, 3, none⟩ = some (.int .i64 a0_3) := (bkC BK397.out 3).trans rfl
      have hcz125_4 : wc.cell? ⟨gb397, 4, none⟩ = some (.int .i64 a0_4) := (bkC BK397.out 4).trans rfl
      have hcz125_5 : wc.cell? ⟨gb397, 5, none⟩ = some (.int .i64 a0_5) := (bkC BK397.out 5).trans rfl
      have hfz125_0 := bkF BK397.out 0
      have hfz125_1 := bkF BK397.out 1
      have hfz125_2 := bkF BK397.out 2
      have hfz125_3 := bkF BK397.out 3
      have hfz125_4 := bkF BK397.out 4
      have hfz125_5 := bkF BK397.out 5
      try go_wp2_with (first | ((with_reducible refine gate_dst (N := 9) rfl ?_); refine box_event ?hg (N := 9) ?hd (cs := #[.slice none 0 0, .slice none 0 0, .slice none 0 0, .int .i64 0, .int .i64 0, .int .i64 0]) (t := 26) ?hr ?_; (case hd => rfl); (case hg => rfl); (case hr => first | (go_simp; done) | (go_simp; rfl)); intro gb404 hg w126 hbox hb; have n0_ := Aside0.mk (bkB (g := gb397) (o := .cells #[.slice A0_0 l0_0.length c0_0, .slice A0_1 l0_1.length c0_1, .slice A0_2 l0_2.length c0_2, .int .i64 a0_3, .int .i64 a0_4, .int .i64 a0_5] 26 (0, 0)) (by (with_reducible repeat (first | refine bkN ?_ _ | refine bkD ?_ | refine bkA ?_ _)); exact BK397.out) hb); have n1_ := Aside0.mk (bkB (g := gb398) (o := .cells #[.int .i64 a1_0, .int .i64 a1_1, .int .i64 a1_2, .int .i64 a1_3, .int .i64 a1_4] 47 (0, 0)) (by (with_reducible repeat (first | refine bkN ?_ _ | refine bkD ?_ | refine bkA ?_ _)); exact BK398.out) hb); have n2_ := Aside0.mk (bkB (g := gb399) (o := .cells #[.int .i64 a2_0, .int .i64 a2_1, .int .i64 a2_2, .int .i64 a2_3, .int .i64 a2_4, .int .i64 a2_5, .int .i64 a2_6] 56 (0, 0)) (by (with_reducible repeat (first | refine bkN ?_ _ | refine bkD ?_ | refine bkA ?_ _)); exact BK399.out) hb); have n3_ := Aside0.mk (below_step (by repeat (first | (with_reducible first | exact HB.out | apply blA | apply blN | apply blD | refine blS ?_ GE397.out | refine blS ?_ GE398.out | refine blS ?_ GE399.out) | exact HB.out)) hb); have n4_ := Aside0.mk (hbox); have n5_ := Aside0.mk ((by rw [hg]; exact (below_size (by repeat (first | (with_reducible first | exact HB.out | apply blA | apply blN | apply blD | refine blS ?_ GE397.out | refine blS ?_ GE398.out | refine blS ?_ GE399.out) | exact HB.out))) : w.heap.size ≤ gb404)); have n6_ := Aside0.mk ((by rw [hg]; exact (below_size (by repeat (first | (with_reducible first | exact HB.out | apply blA | apply blN | apply blD | refine blS ?_ GE397.out | refine blS ?_ GE398.out | refine blS ?_ GE399.out) | exact HB.out))) : w.heap.size ≤ gb404)); have n7_ := Aside0.mk ((by rw [hg]; exact Nat.ne_of_lt (blk_lt (g := gb397) (o := .cells #[.slice A0_0 l0_0.length c0_0, .slice A0_1 l0_1.length c0_1, .slice A0_2 l0_2.length c0_2, .int .i64 a0_3, .int .i64 a0_4, .int .i64 a0_5] 26 (0, 0)) (by (with_reducible repeat (first | refine bkN ?_ _ | refine bkD ?_ | refine bkA ?_ _)); exact BK397.out)) : gb397 ≠ gb404)); have n8_ := Aside0.mk ((by rw [hg]; exact Nat.ne_of_gt (blk_lt (g := gb397) (o := .cells #[.slice A0_0 l0_0.length c0_0, .slice A0_1 l0_1.length c0_1, .slice A0_2 l0_2.length c0_2, .int .i64 a0_3, .int .i64 a0_4, .int .i64 a0_5] 26 (0, 0)) (by (with_reducible repeat (first | refine bkN ?_ _ | refine bkD ?_ | refine bkA ?_ _)); exact BK397.out)) : gb404 ≠ gb397)); have n9_ := Aside0.mk ((by rw [hg]; exact Nat.ne_of_lt (blk_lt (g := gb398) (o := .cells #[.int .i64 a1_0, .int .i64 a1_1, .int .i64 a1_2, .int .i64 a1_3, .int .i64 a1_4] 47 (0, 0)) (by (with_reducible repeat (first | refine bkN ?_ _ | refine bkD ?_ | refine bkA ?_ _)); exact BK398.out)) : gb398 ≠ gb404)); have n10_ := Aside0.mk ((by rw [hg]; exact Nat.ne_of_gt (blk_lt (g := gb398) (o := .cells #[.int .i64 a1_0, .int .i64 a1_1, .int .i64 a1_2, .int .i64 a1_3, .int .i64 a1_4] 47 (0, 0)) (by (with_reducible repeat (first | refine bkN ?_ _ | refine bkD ?_ | refine bkA ?_ _)); exact BK398.out)) : gb404 ≠ gb398)); have n11_ := Aside0.mk ((by rw [hg]; exact Nat.ne_of_lt (blk_lt (g := gb399) (o := .cells #[.int .i64 a2_0, .int .i64 a2_1, .int .i64 a2_2, .int .i64 a2_3, .int .i64 a2_4, .int .i64 a2_5, .int .i64 a2_6] 56 (0, 0)) (by (with_reducible repeat (first | refine bkN ?_ _ | refine bkD ?_ | refine bkA ?_ _)); exact BK399.out)) : gb399 ≠ gb404)); have n12_ := Aside0.mk ((by rw [hg]; exact Nat.ne_of_gt (blk_lt (g := gb399) (o := .cells #[.int .i64 a2_0, .int .i64 a2_1, .int .i64 a2_2, .int .i64 a2_3, .int .i64 a2_4, .int .i64 a2_5, .int .i64 a2_6] 56 (0, 0)) (by (with_reducible repeat (first | refine bkN ?_ _ | refine bkD ?_ | refine bkA ?_ _)); exact BK399.out)) : gb404 ≠ gb399)); clear BK397; clear BK398; clear BK399; clear HB; have BK397 := n0_; have BK398 := n1_; have BK399 := n2_; have HB := n3_; have BK404 := n4_; have GW404 := n5_; have GE404 := n6_; have NB397_404 := n7_; have NB404_397 := n8_; have NB398_404 := n9_; have NB404_398 := n10_; have NB399_404 := n11_; have NB404_399 := n12_; clear n0_ n1_ n2_ n3_ n4_ n5_ n6_ n7_ n8_ n9_ n10_ n11_ n12_; clear hb hbox hg; have hnb127 := NB404_397.out; have hnc127 := NB397_404.out; have hnb128 := NB404_398.out; have hnc128 := NB398_404.out; have hnb129 := NB404_399.out; have hnc129 := NB399_404.out; have hcz130_0 : w126.cell? ⟨gb404, 0, none⟩ = some (.slice none 0 0) := (bkC BK404.out 0).trans rfl; have hcz130_1 : w126.cell? ⟨gb404, 1, none⟩ = some (.slice none 0 0) := (bkC BK404.out 1).trans rfl; have hcz130_2 : w126.cell? ⟨gb404, 2, none⟩ = some (.slice none 0 0) := (bkC BK404.out 2).trans rfl; have hcz130_3 : w126.cell? ⟨gb404, 3, none⟩ = some (.int .i64 0) := (bkC BK404.out 3).trans rfl; have hcz130_4 : w126.cell? ⟨gb404, 4, none⟩ = some (.int .i64 0) := (bkC BK404.out 4).trans rfl; have hcz130_5 : w126.cell? ⟨gb404, 5, none⟩ = some (.int .i64 0) := (bkC BK404.out 5).trans rfl; have hfz130_0 := bkF BK404.out 0; have hfz130_1 := bkF BK404.out 1; have hfz130_2 := bkF BK404.out 2; have hfz130_3 := bkF BK404.out 3; have hfz130_4 := bkF BK404.out 4; have hfz130_5 := bkF BK404.out 5))
      have n0_ : Aside0 (((((((w126.setCell ⟨gb404, 0, none⟩ (.slice A0_0 l0_0.length c0_0)).setCell ⟨gb404, 1, none⟩ (.slice A0_1 l0_1.length c0_1)).setCell ⟨gb404, 2, none⟩ (.slice A0_2 l0_2.length c0_2)).setCell ⟨gb404, 3, none⟩ (.int .i64 a0_3)).setCell ⟨gb404, 4, none⟩ (.int .i64 a0_4)).setCell ⟨gb404, 5, none⟩ (.int .i64 a0_5)).heap[gb397]? = some (.cells #[.slice A0_0 l0_0.length c0_0, .slice A0_1 l0_1.length c0_1, .slice A0_2 l0_2.length c0_2, .int .i64 a0_3, .int .i64 a0_4, .int .i64 a0_5] 26 (0, 0))) := ⟨by (with_reducible repeat (first | refine bkN ?_ _ | refine bkD ?_ | refine bkA ?_ _)); refine blk_far ?_ NB397_404.out _; (with_reducible repeat (first | refine bkN ?_ _ | refine bkD ?_ | refine bkA ?_ _)); refine blk_far ?_ NB397_404.out _; (with_reducible repeat (first | refine bkN ?_ _ | refine bkD ?_ | refine bkA ?_ _)); refine blk_far ?_ NB397_404.out _; (with_reducible repeat (first | refine bkN ?_ _ | refine bkD ?_ | refine bkA ?_ _)); refine blk_far ?_ NB397_404.out _; (with_reducible repeat (first | refine bkN ?_ _ | refine bkD ?_ | refine bkA ?_ _)); refine blk_far ?_ NB397_404.out _; (with_reducible repeat (first | refine bkN ?_ _ | refine bkD ?_ | refine bkA ?_ _)); refine blk_far ?_ NB397_404.out _; (with_reducible repeat (first | refine bkN ?_ _ | refine bkD ?_ | refine bkA ?_ _)); exact BK397.out⟩
      have n1_ : Aside0 (((((((w126.setCell ⟨gb404, 0, none⟩ (.slice A0_0 l0_0.length c0_0)).setCell ⟨gb404, 1, none⟩ (.slice A0_1 l0_1.length c0_1)).setCell ⟨gb404, 2, none⟩ (.slice A0_2 l0_2.length c0_2)).setCell ⟨gb404, 3, none⟩ (.int .i64 a0_3)).setCell ⟨gb404, 4, none⟩ (.int .i64 a0_4)).setCell ⟨gb404, 5, none⟩ (.int .i64 a0_5)).heap[gb398]? = some (.cells #[.int .i64 a1_0, .int .i64 a1_1, .int .i64 a1_2, .int .i64 a1_3, .int .i64 a1_4] 47 (0, 0))) := ⟨by (with_reducible repeat (first | refine bkN ?_ _ | refine bkD ?_ | refine bkA ?_ _)); refine blk_far ?_ NB398_404.out _; (with_reducible repeat (first | refine bkN ?_ _ | refine bkD ?_ | refine bkA ?_ _)); refine blk_far ?_ NB398_404.out _; (with_reducible repeat (first | refine bkN ?_ _ | refine bkD ?_ | refine bkA ?_ _)); refine blk_far ?_ NB398_404.out _; (with_reducible repeat (first | refine bkN ?_ _ | refine bkD ?_ | refine bkA ?_ _)); refine blk_far ?_ NB398_404.out _; (with_reducible repeat (first | refine bkN ?_ _ | refine bkD ?_ | refine bkA ?_ _)); refine blk_far ?_ NB398_404.out _; (with_reducible repeat (first | refine bkN ?_ _ | refine bkD ?_ | refine bkA ?_ _)); refine blk_far ?_ NB398_404.out _; (with_reducible repeat (first | refine bkN ?_ _ | refine bkD ?_ | refine bkA ?_ _)); exact BK398.out⟩
      have n2_ : Aside0 (((((((w126.setCell ⟨gb404, 0, none⟩ (.slice A0_0 l0_0.length c0_0)).setCell ⟨gb404, 1, none⟩ (.slice A0_1 l0_1.length c0_1)).setCell ⟨gb404, 2, none⟩ (.slice A0_2 l0_2.length c0_2)).setCell ⟨gb404, 3, none⟩ (.int .i64 a0_3)).setCell ⟨gb404, 4, none⟩ (.int .i64 a0_4)).setCell ⟨gb404, 5, none⟩ (.int .i64 a0_5)).heap[gb399]? = some (.cells #[.int .i64 a2_0, .int .i64 a2_1, .int .i64 a2_2, .int .i64 a2_3, .int .i64 a2_4, .int .i64 a2_5, .int .i64 a2_6] 56 (0, 0))) := ⟨by (with_reducible repeat (first | refine bkN ?_ _ | refine bkD ?_ | refine bkA ?_ _)); refine blk_far ?_ NB399_404.out _; (with_reducible repeat (first | refine bkN ?_ _ | refine bkD ?_ | refine bkA ?_ _)); refine blk_far ?_ NB399_404.out _; (with_reducible repeat (first | refine bkN ?_ _ | refine bkD ?_ | refine bkA ?_ _)); refine blk_far ?_ NB399_404.out _; (with_reducible repeat (first | refine bkN ?_ _ | refine bkD ?_ | refine bkA ?_ _)); refine blk_far ?_ NB399_404.out _; (with_reducible repeat (first | refine bkN ?_ _ | refine bkD ?_ | refine bkA ?_ _)); refine blk_far ?_ NB399_404.out _; (with_reducible repeat (first | refine bkN ?_ _ | refine bkD ?_ | refine bkA ?_ _)); refine blk_far ?_ NB399_404.out _; (with_reducible repeat (first | refine bkN ?_ _ | refine bkD ?_ | refine bkA ?_ _)); exact BK399.out⟩
      have n3_ : Aside0 (((((((w126.setCell ⟨gb404, 0, none⟩ (.slice A0_0 l0_0.length c0_0)).setCell ⟨gb404, 1, none⟩ (.slice A0_1 l0_1.length c0_1)).setCell ⟨gb404, 2, none⟩ (.slice A0_2 l0_2.length c0_2)).setCell ⟨gb404, 3, none⟩ (.int .i64 a0_3)).setCell ⟨gb404, 4, none⟩ (.int .i64 a0_4)).setCell ⟨gb404, 5, none⟩ (.int .i64 a0_5)).heap[gb404]? = some (.cells #[.slice A0_0 l0_0.length c0_0, .slice A0_1 l0_1.length c0_1, .slice A0_2 l0_2.length c0_2, .int .i64 a0_3, .int .i64 a0_4, .int .i64 a0_5] 26 (0, 0))) := ⟨by (with_reducible repeat (first | refine bkN ?_ _ | refine bkD ?_ | refine bkA ?_ _)); refine blk_put (cs := #[.slice A0_0 l0_0.length c0_0, .slice A0_1 l0_1.length c0_1, .slice A0_2 l0_2.length c0_2, .int .i64 a0_3, .int .i64 a0_4, .int .i64 0]) ?_ 5 _ rfl; (with_reducible repeat (first | refine bkN ?_ _ | refine bkD ?_ | refine bkA ?_ _)); refine blk_put (cs := #[.slice A0_0 l0_0.length c0_0, .slice A0_1 l0_1.length c0_1, .slice A0_2 l0_2.length c0_2, .int .i64 a0_3, .int .i64 0, .int .i64 0]) ?_ 4 _ rfl; (with_reducible repeat (first | refine bkN ?_ _ | refine bkD ?_ | refine bkA ?_ _)); refine blk_put (cs := #[.slice A0_0 l0_0.length c0_0, .slice A0_1 l0_1.length c0_1, .slice A0_2 l0_2.length c0_2, .int .i64 0, .int .i64 0, .int .i64 0]) ?_ 3 _ rfl; (with_reducible repeat (first | refine bkN ?_ _ | refine bkD ?_ | refine bkA ?_ _)); refine blk_put (cs := #[.slice A0_0 l0_0.length c0_0, .slice A0_1 l0_1.length c0_1, .slice none 0 0, .int .i64 0, .int .i64 0, .int .i64 0]) ?_ 2 _ rfl; (with_reducible repeat (first | refine bkN ?_ _ | refine bkD ?_ | refine bkA ?_ _)); refine blk_put (cs := #[.slice A0_0 l0_0.length c0_0, .slice none 0 0, .slice none 0 0, .int .i64 0, .int .i64 0, .int .i64 0]) ?_ 1 _ rfl; (with_reducible repeat (first | refine bkN ?_ _ | refine bkD ?_ | refine bkA ?_ _)); refine blk_put (cs := #[.slice none 0 0, .slice none 0 0, .slice none 0 0, .int .i64 0, .int .i64 0, .int .i64 0]) ?_ 0 _ rfl; (with_reducible repeat (first | refine bkN ?_ _ | refine bkD ?_ | refine bkA ?_ _)); exact BK404.out⟩
      have n4_ : Aside0 (Below w.heap.size w ((((((w126.setCell ⟨gb404, 0, none⟩ (.slice A0_0 l0_0.length c0_0)).setCell ⟨gb404, 1, none⟩ (.slice A0_1 l0_1.length c0_1)).setCell ⟨gb404, 2, none⟩ (.slice A0_2 l0_2.length c0_2)).setCell ⟨gb404, 3, none⟩ (.int .i64 a0_3)).setCell ⟨gb404, 4, none⟩ (.int .i64 a0_4)).setCell ⟨gb404, 5, none⟩ (.int .i64 a0_5))) := ⟨by repeat (first | (with_reducible first | exact HB.out | apply blA | apply blN | apply blD | refine blS ?_ GE397.out | refine blS ?_ GE398.out | refine blS ?_ GE399.out | refine blS ?_ GE404.out) | exact HB.out)⟩
      (try clear BK397)
      (try clear BK398)
      (try clear BK399)
      (try clear BK404)
      (try clear HB)
      generalize ((((((w126.setCell ⟨gb404, 0, none⟩ (.slice A0_0 l0_0.length c0_0)).setCell ⟨gb404, 1, none⟩ (.slice A0_1 l0_1.length c0_1)).setCell ⟨gb404, 2, none⟩ (.slice A0_2 l0_2.length c0_2)).setCell ⟨gb404, 3, none⟩ (.int .i64 a0_3)).setCell ⟨gb404, 4, none⟩ (.int .i64 a0_4)).setCell ⟨gb404, 5, none⟩ (.int .i64 a0_5)) = w131 at n0_ n1_ n2_ n3_ n4_ ⊢
      have BK397 := n0_
      have BK398 := n1_
      have BK399 := n2_
      have BK404 := n3_
      have HB := n4_
      clear n0_ n1_ n2_ n3_ n4_
      have n0_ := Aside0.mk (bkD BK397.out)
      have n1_ := Aside0.mk (bkD BK398.out)
      have n2_ := Aside0.mk (bkD BK399.out)
      have n3_ := Aside0.mk (bkD BK404.out)
      have n4_ := Aside0.mk (blD HB.out)
      clear BK397
      clear BK398
      clear BK399
      clear BK404
      clear HB
      have BK397 := n0_
      have BK398 := n1_
      have BK399 := n2_
      have BK404 := n3_
      have HB := n4_
      clear n0_ n1_ n2_ n3_ n4_
      refine start_ (n := 8) (S := fun w' => w'.cell? ⟨gb397, 0, none⟩ = some (.slice A0_0 l0_0.length c0_0) ∧ w'.cell? ⟨gb397, 1, none⟩ = some (.slice A0_1 l0_1.length c0_1) ∧ w'.cell? ⟨gb397, 2, none⟩ = some (.slice A0_2 l0_2.length c0_2) ∧ w'.cell? ⟨gb397, 3, none⟩ = some (.int .i64 a0_3) ∧ w'.cell? ⟨gb397, 4, none⟩ = some (.int .i64 a0_4) ∧ w'.cell? ⟨gb397, 5, none⟩ = some (.int .i64 a0_5) ∧ w'.cell? ⟨gb398, 0, none⟩ = some (.int .i64 a1_0) ∧ w'.cell? ⟨gb398, 1, none⟩ = some (.int .i64 a1_1) ∧ w'.cell? ⟨gb398, 2, none⟩ = some (.int .i64 a1_2) ∧ w'.cell? ⟨gb398, 3, none⟩ = some (.int .i64 a1_3) ∧ w'.cell? ⟨gb398, 4, none⟩ = some (.int .i64 a1_4)) (ds := []) #[false, false, false, false, false, false, false, false] (by kernel_rfl) rfl rfl ⟨(bkC BK397.out 0).trans rfl, (bkC BK397.out 1).trans rfl, (bkC BK397.out 2).trans rfl, (bkC BK397.out 3).trans rfl, (bkC BK397.out 4).trans rfl, (bkC BK397.out 5).trans rfl, (bkC BK398.out 0).trans rfl, (bkC BK398.out 1).trans rfl, (bkC BK398.out 2).trans rfl, (bkC BK398.out 3).trans rfl, (bkC BK398.out 4).trans rfl⟩ (fun hHeld => ?_); refine with_tabW hopmeshlaw05_GeometryWalls.tab11 hopmeshlaw05_GeometryWalls.bits11 (fun HT_ HW_ => ?_)
      generalize w131.drew = w132 at BK397 BK398 BK399 BK404 HB hHeld ⊢
      refine pure_ (i := 0) (N := some 47) (v := ?_) (a' := ?_) #[true, false, false, false, false, false, false, false] rfl rfl (any_of HT_.out (by kernel_rfl)) (fun _ _ _ h => h) (Or.inl ⟨by rfl, ?_⟩) ?_ ?_
      rotate_left
      ·intro w'
       go_simp
       with_reducible rfl
      rotate_left
      ·simp only [Act.put, List.setIfInBounds_toArray, List.set_cons_zero, List.set_cons_succ, i64_w, i32_w]
       rfl
      refine take_ (i := 1) (N := some 48) (v := ?_) (a' := ?_) #[true, true, false, false, false, false, false, false] rfl rfl (take_ofW HT_.out HW_.out (by kernel_rfl)) (fun _ _ _ h => h) (Or.inl ⟨by rfl, ?_⟩) hHeld ?_ ?_
      rotate_left
      ·rintro w' ⟨s0, s1, s2, s3, s4, s5, s6, s7, s8, s9, s10⟩
       go_simp
       with_reducible rfl
      rotate_left
      ·simp only [Act.put, List.setIfInBounds_toArray, List.set_cons_zero, List.set_cons_succ, i64_w, i32_w]
       rfl
      refine take_ (i := 3) (N := some 50) (v := ?_) (a' := ?_) #[true, true, false, true, false, false, false, false] rfl rfl (take_ofW HT_.out HW_.out (by kernel_rfl)) (fun _ _ _ h => h) (Or.inl ⟨by rfl, ?_⟩) hHeld ?_ ?_
      rotate_left
      ·rintro w' ⟨s0, s1, s2, s3, s4, s5, s6, s7, s8, s9, s10⟩
       go_simp
       with_reducible rfl
      rotate_left
      ·simp only [Act.put, List.setIfInBounds_toArray, List.set_cons_zero, List.set_cons_succ, i64_w, i32_w]
       rfl
      refine join_ (σ := Value × Value) 3 #[true, true, true, true, true, false, false, false] (fun s_ => [(49, s_.1), (51, s_.2)]) (fun s_ w' => (w'.cell? ⟨gb397, 0, none⟩ = some (.slice A0_0 l0_0.length c0_0) ∧ w'.cell? ⟨gb397, 1, none⟩ = some (.slice A0_1 l0_1.length c0_1) ∧ w'.cell? ⟨gb397, 2, none⟩ = some (.slice A0_2 l0_2.length c0_2) ∧ w'.cell? ⟨gb397, 3, none⟩ = some (.int .i64 a0_3) ∧ w'.cell? ⟨gb397, 4, none⟩ = some (.int .i64 a0_4) ∧ w'.cell? ⟨gb397, 5, none⟩ = some (.int .i64 a0_5) ∧ w'.cell? ⟨gb398, 0, none⟩ = some (.int .i64 a1_0) ∧ w'.cell? ⟨gb398, 1, none⟩ = some (.int .i64 a1_1) ∧ w'.cell? ⟨gb398, 2, none⟩ = some (.int .i64 a1_2) ∧ w'.cell? ⟨gb398, 3, none⟩ = some (.int .i64 a1_3) ∧ w'.cell? ⟨gb398, 4, none⟩ = some (.int .i64 a1_4)) ∧ (Kd.R k47 47 w' w.heap.size (fun k_ => some k_ ≠ (s_.2 : Value).ownBlock ∧ k_ ≠ gb398) s_.1 t405) ∧ (Kd.R k47 47 w' w.heap.size (fun k_ => some k_ ≠ (s_.1 : Value).ownBlock ∧ k_ ≠ gb398) s_.2 y408) ∧ (w'.heap[gb397]? = some (.cells #[.slice A0_0 l0_0.length c0_0, .slice A0_1 l0_1.length c0_1, .slice A0_2 l0_2.length c0_2, .int .i64 a0_3, .int .i64 a0_4, .int .i64 a0_5] 26 (0, 0))) ∧ (w'.heap[gb398]? = some (.cells #[.int .i64 a1_0, .int .i64 a1_1, .int .i64 a1_2, .int .i64 a1_3, .int .i64 a1_4] 47 (0, 0))) ∧ (w'.heap[gb399]? = some (.cells #[.int .i64 a2_0, .int .i64 a2_1, .int .i64 a2_2, .int .i64 a2_3, .int .i64 a2_4, .int .i64 a2_5, .int .i64 a2_6] 56 (0, 0))) ∧ (w'.heap[gb404]? = some (.cells #[.slice A0_0 l0_0.length c0_0, .slice A0_1 l0_1.length c0_1, .slice A0_2 l0_2.length c0_2, .int .i64 a0_3, .int .i64 a0_4, .int .i64 a0_5] 26 (0, 0))) ∧ (Below w.heap.size w w')) ?_ ?_
      rotate_left
      ·intro hCont
       refine two_ (i := 2) (j := 4) (Ni := some 49) (Nj := some 51) #[true, true, true, true, false, false, false, false] #[true, true, false, true, true, false, false, false] rfl rfl rfl rfl (two_of HT_.out (by kernel_rfl)) (by decide) (by decide) (fun K hK => ?_) (fun K hK => ?_)
       rotate_left
       ·skip
        refine Kd.R_lit_step k47 _ 47 ?hg (N := 51) ?hd (xs := ([(⟨(⟨a1_0, a1_1⟩ : S28), (⟨a1_2, a1_3⟩ : S28), a1_4⟩ : S47)] : List (S47))) (inner := [.int .i64 a1_0, .int .i64 a1_1, .int .i64 a1_2, .int .i64 a1_3, .int .i64 a1_4]) (ok := fun _ => True) (okp := fun _ => True) ?hr ?hp (fun _ hk => hk) trivial (Below.refl _ _) (Nat.le_refl _) (by simp) ?_; (case hd => rfl); (case hg => rfl); (case hr => first | (go_simp; done) | (go_simp; rfl)); (case hp => exact (Reps.c5 (show Kd.M k47 _ _ _ (⟨(⟨a1_0, a1_1⟩ : S28), (⟨a1_2, a1_3⟩ : S28), a1_4⟩ : S47) [.int .i64 a1_0, .int .i64 a1_1, .int .i64 a1_2, .int .i64 a1_3, .int .i64 a1_4] from (k47_mkM _ _ _ (⟨(⟨a1_0, a1_1⟩ : S28), (⟨a1_2, a1_3⟩ : S28), a1_4⟩ : S47) )) (Reps.none _ _)))
        intro v409 w133 ho134 hb hg_ hnew_
        clear hg_ hnew_
        (first | rw [← Ny408.out] at ho134 | (simp only [Int.reduceToNat] at ho134; rw [← Ny408.out] at ho134))
        have n0_ := Aside0.mk (Kd.R_lower (Kd.R_newB ho134 (g := gb398) (o := .cells #[.int .i64 a1_0, .int .i64 a1_1, .int .i64 a1_2, .int .i64 a1_3, .int .i64 a1_4] 47 (0, 0)) (by (with_reducible repeat (first | refine bkN ?_ _ | refine bkD ?_ | refine bkA ?_ _)); exact BK398.out)) (below_size (by repeat (first | (with_reducible first | exact HB.out | apply blA | apply blN | apply blD | refine blS ?_ GE397.out | refine blS ?_ GE398.out | refine blS ?_ GE399.out | refine blS ?_ GE404.out) | exact HB.out))))
        have n1_ := Aside0.mk (bkB (g := gb397) (o := .cells #[.slice A0_0 l0_0.length c0_0, .slice A0_1 l0_1.length c0_1, .slice A0_2 l0_2.length c0_2, .int .i64 a0_3, .int .i64 a0_4, .int .i64 a0_5] 26 (0, 0)) (by (with_reducible repeat (first | refine bkN ?_ _ | refine bkD ?_ | refine bkA ?_ _)); exact BK397.out) hb)
        have n2_ := Aside0.mk (bkB (g := gb398) (o := .cells #[.int .i64 a1_0, .int .i64 a1_1, .int .i64 a1_2, .int .i64 a1_3, .int .i64 a1_4] 47 (0, 0)) (by (with_reducible repeat (first | refine bkN ?_ _ | refine bkD ?_ | refine bkA ?_ _)); exact BK398.out) hb)
        have n3_ := Aside0.mk (bkB (g := gb399) (o := .cells #[.int .i64 a2_0, .int .i64 a2_1, .int .i64 a2_2, .int .i64 a2_3, .int .i64 a2_4, .int .i64 a2_5, .int .i64 a2_6] 56 (0, 0)) (by (with_reducible repeat (first | refine bkN ?_ _ | refine bkD ?_ | refine bkA ?_ _)); exact BK399.out) hb)
        have n4_ := Aside0.mk (bkB (g := gb404) (o := .cells #[.slice A0_0 l0_0.length c0_0, .slice A0_1 l0_1.length c0_1, .slice A0_2 l0_2.length c0_2, .int .i64 a0_3, .int .i64 a0_4, .int .i64 a0_5] 26 (0, 0)) (by (with_reducible repeat (first | refine bkN ?_ _ | refine bkD ?_ | refine bkA ?_ _)); exact BK404.out) hb)
        have n5_ := Aside0.mk (below_step (by repeat (first | (with_reducible first | exact HB.out | apply blA | apply blN | apply blD | refine blS ?_ GE397.out | refine blS ?_ GE398.out | refine blS ?_ GE399.out | refine blS ?_ GE404.out) | exact HB.out)) hb)
        clear BK397
        clear BK398
        clear BK399
        clear BK404
        clear HB
        have HO410 := n0_
        have BK397 := n1_
        have BK398 := n2_
        have BK399 := n3_
        have BK404 := n4_
        have HB := n5_
        clear n0_ n1_ n2_ n3_ n4_ n5_
        clear hb ho134
        refine hK.out _ _ ⟨(bkC BK397.out 0).trans rfl, (bkC BK397.out 1).trans rfl, (bkC BK397.out 2).trans rfl, (bkC BK397.out 3).trans rfl, (bkC BK397.out 4).trans rfl, (bkC BK397.out 5).trans rfl, (bkC BK398.out 0).trans rfl, (bkC BK398.out 1).trans rfl, (bkC BK398.out 2).trans rfl, (bkC BK398.out 3).trans rfl, (bkC BK398.out 4).trans rfl⟩ (fun hHeld => ?_)
        clear hK K
        refine norm_ (a' := ?_) ?_ ?_
        rotate_left
        ·show Act.put _ (some 51) _ = _
         simp only [Act.put, List.setIfInBounds_toArray, List.set_cons_zero, List.set_cons_succ, i64_w, i32_w]
         rfl
        refine one_ (i := 2) (N := some 49) #[true, true, true, true, true, false, false, false] rfl rfl (one_of HT_.out (by kernel_rfl)) (by decide) (fun K hK => ?_)
        refine goes_ Try.func32 (by kernel_rfl) rfl #[.slice A0_2 l0_2.length c0_2] (by rfl) rfl rfl (by (try simp only [List.map_toArray, List.map_cons, List.map_nil]); first | done | rfl | (simp only [List.length_drop, List.length_take]; rfl)) ?_
        with_reducible refine (slices_Clone_api_Wall_api_Wall.calls _ _ l0_2 t405 _ ?side1 ?side2 A37.out).mono ?_
        (case side1 => repeat (first | exact (Kd.C_below HR0_2.out HB.out) | (with_reducible refine Kd.C_alloc ?_ _) | (with_reducible refine Kd.C_drewN ?_ _) | (with_reducible refine Kd.C_drew ?_)))
        (case side2 => exact HC0_2.out)
        rintro e w135 ⟨v406, rfl, ho0, hb⟩
        refine ⟨_, rfl, ?_⟩
        have n0_ := Aside0.mk (Kd.R_elder' (by (with_reducible repeat (first | apply Kd.R_alloc | apply Kd.R_drewN | apply Kd.R_drew)); exact HO410.out) (Kd.R_base ho0) hb)
        have n1_ := Aside0.mk (Kd.R_lower (Kd.R_newB (Kd.R_new' ho0 (Kd.R_lt (by (with_reducible repeat (first | apply Kd.R_alloc | apply Kd.R_drewN | apply Kd.R_drew)); exact HO410.out))) (g := gb398) (o := .cells #[.int .i64 a1_0, .int .i64 a1_1, .int .i64 a1_2, .int .i64 a1_3, .int .i64 a1_4] 47 (0, 0)) (by (with_reducible repeat (first | refine bkN ?_ _ | refine bkD ?_ | refine bkA ?_ _)); exact BK398.out)) (below_size (by repeat (first | (with_reducible first | exact HB.out | apply blA | apply blN | apply blD | refine blS ?_ GE397.out | refine blS ?_ GE398.out | refine blS ?_ GE399.out | refine blS ?_ GE404.out) | exact HB.out))))
        have n2_ := Aside0.mk (bkB (g := gb397) (o := .cells #[.slice A0_0 l0_0.length c0_0, .slice A0_1 l0_1.length c0_1, .slice A0_2 l0_2.length c0_2, .int .i64 a0_3, .int .i64 a0_4, .int .i64 a0_5] 26 (0, 0)) (by (with_reducible repeat (first | refine bkN ?_ _ | refine bkD ?_ | refine bkA ?_ _)); exact BK397.out) hb)
        have n3_ := Aside0.mk (bkB (g := gb398) (o := .cells #[.int .i64 a1_0, .int .i64 a1_1, .int .i64 a1_2, .int .i64 a1_3, .int .i64 a1_4] 47 (0, 0)) (by (with_reducible repeat (first | refine bkN ?_ _ | refine bkD ?_ | refine bkA ?_ _)); exact BK398.out) hb)
        have n4_ := Aside0.mk (bkB (g := gb399) (o := .cells #[.int .i64 a2_0, .int .i64 a2_1, .int .i64 a2_2, .int .i64 a2_3, .int .i64 a2_4, .int .i64 a2_5, .int .i64 a2_6] 56 (0, 0)) (by (with_reducible repeat (first | refine bkN ?_ _ | refine bkD ?_ | refine bkA ?_ _)); exact BK399.out) hb)
        have n5_ := Aside0.mk (bkB (g := gb404) (o := .cells #[.slice A0_0 l0_0.length c0_0, .slice A0_1 l0_1.length c0_1, .slice A0_2 l0_2.length c0_2, .int .i64 a0_3, .int .i64 a0_4, .int .i64 a0_5] 26 (0, 0)) (by (with_reducible repeat (first | refine bkN ?_ _ | refine bkD ?_ | refine bkA ?_ _)); exact BK404.out) hb)
        have n6_ := Aside0.mk (below_step (by repeat (first | (with_reducible first | exact HB.out | apply blA | apply blN | apply blD | refine blS ?_ GE397.out | refine blS ?_ GE398.out | refine blS ?_ GE399.out | refine blS ?_ GE404.out) | exact HB.out)) hb)
        clear HO410
        clear BK397
        clear BK398
        clear BK399
        clear BK404
        clear HB
        have HO410 := n0_
        have HO407 := n1_
        have BK397 := n2_
        have BK398 := n3_
        have BK399 := n4_
        have BK404 := n5_
        have HB := n6_
        clear n0_ n1_ n2_ n3_ n4_ n5_ n6_
        (try clear hb)
        (try clear hb2)
        (try clear hk)
        (try clear hi)
        (try clear ho0)
        refine hK.out _ _ ⟨(bkC BK397.out 0).trans rfl, (bkC BK397.out 1).trans rfl, (bkC BK397.out 2).trans rfl, (bkC BK397.out 3).trans rfl, (bkC BK397.out 4).trans rfl, (bkC BK397.out 5).trans rfl, (bkC BK398.out 0).trans rfl, (bkC BK398.out 1).trans rfl, (bkC BK398.out 2).trans rfl, (bkC BK398.out 3).trans rfl, (bkC BK398.out 4).trans rfl⟩ (fun hHeld => ?_)
        clear hK K
        refine norm_ (a' := ?_) ?_ ?_
        rotate_left
        ·show Act.put _ (some 49) _ = _
         simp only [Act.put, List.setIfInBounds_toArray, List.set_cons_zero, List.set_cons_succ, i64_w, i32_w]
         rfl
        exact norm_ (by simp only [putAll, Act.put, List.setIfInBounds_toArray, List.set_cons_zero, List.set_cons_succ]) (hCont (v406, v409) _ ⟨hHeld, (by (with_reducible repeat (first | apply Kd.R_alloc | apply Kd.R_drewN | apply Kd.R_drew)); exact Kd.R_mono HO407.out (fun _ hk => ⟨hk.1.2, hk.2⟩)), (by (with_reducible repeat (first | apply Kd.R_alloc | apply Kd.R_drewN | apply Kd.R_drew)); exact Kd.R_mono HO410.out (fun _ hk => ⟨hk.2, hk.1.2⟩)), (by (with_reducible repeat (first | refine bkN ?_ _ | refine bkD ?_ | refine bkA ?_ _)); exact BK397.out), (by (with_reducible repeat (first | refine bkN ?_ _ | refine bkD ?_ | refine bkA ?_ _)); exact BK398.out), (by (with_reducible repeat (first | refine bkN ?_ _ | refine bkD ?_ | refine bkA ?_ _)); exact BK399.out), (by (with_reducible repeat (first | refine bkN ?_ _ | refine bkD ?_ | refine bkA ?_ _)); exact BK404.out), (by repeat (first | (with_reducible first | exact HB.out | apply blA | apply blN | apply blD | refine blS ?_ GE397.out | refine blS ?_ GE398.out | refine blS ?_ GE399.out | refine blS ?_ GE404.out) | exact HB.out))⟩)
       skip
       refine goes_ Try.func32 (by kernel_rfl) rfl #[.slice A0_2 l0_2.length c0_2] (by rfl) rfl rfl (by (try simp only [List.map_toArray, List.map_cons, List.map_nil]); first | done | rfl | (simp only [List.length_drop, List.length_take]; rfl)) ?_
       with_reducible refine (slices_Clone_api_Wall_api_Wall.calls _ _ l0_2 t405 _ ?side1 ?side2 A37.out).mono ?_
       (case side1 => repeat (first | exact (Kd.C_below HR0_2.out HB.out) | (with_reducible refine Kd.C_alloc ?_ _) | (with_reducible refine Kd.C_drewN ?_ _) | (with_reducible refine Kd.C_drew ?_)))
       (case side2 => exact HC0_2.out)
       rintro e w133 ⟨v406, rfl, ho0, hb⟩
       refine ⟨_, rfl, ?_⟩
       have n0_ := Aside0.mk (Kd.R_lower (Kd.R_newB ho0 (g := gb398) (o := .cells #[.int .i64 a1_0, .int .i64 a1_1, .int .i64 a1_2, .int .i64 a1_3, .int .i64 a1_4] 47 (0, 0)) (by (with_reducible repeat (first | refine bkN ?_ _ | refine bkD ?_ | refine bkA ?_ _)); exact BK398.out)) (below_size (by repeat (first | (with_reducible first | exact HB.out | apply blA | apply blN | apply blD | refine blS ?_ GE397.out | refine blS ?_ GE398.out | refine blS ?_ GE399.out | refine blS ?_ GE404.out) | exact HB.out))))
       have n1_ := Aside0.mk (bkB (g := gb397) (o := .cells #[.slice A0_0 l0_0.length c0_0, .slice A0_1 l0_1.length c0_1, .slice A0_2 l0_2.length c0_2, .int .i64 a0_3, .int .i64 a0_4, .int .i64 a0_5] 26 (0, 0)) (by (with_reducible repeat (first | refine bkN ?_ _ | refine bkD ?_ | refine bkA ?_ _)); exact BK397.out) hb)
       have n2_ := Aside0.mk (bkB (g := gb398) (o := .cells #[.int .i64 a1_0, .int .i64 a1_1, .int .i64 a1_2, .int .i64 a1_3, .int .i64 a1_4] 47 (0, 0)) (by (with_reducible repeat (first | refine bkN ?_ _ | refine bkD ?_ | refine bkA ?_ _)); exact BK398.out) hb)
       have n3_ := Aside0.mk (bkB (g := gb399) (o := .cells #[.int .i64 a2_0, .int .i64 a2_1, .int .i64 a2_2, .int .i64 a2_3, .int .i64 a2_4, .int .i64 a2_5, .int .i64 a2_6] 56 (0, 0)) (by (with_reducible repeat (first | refine bkN ?_ _ | refine bkD ?_ | refine bkA ?_ _)); exact BK399.out) hb)
       have n4_ := Aside0.mk (bkB (g := gb404) (o := .cells #[.slice A0_0 l0_0.length c0_0, .slice A0_1 l0_1.length c0_1, .slice A0_2 l0_2.length c0_2, .int .i64 a0_3, .int .i64 a0_4, .int .i64 a0_5] 26 (0, 0)) (by (with_reducible repeat (first | refine bkN ?_ _ | refine bkD ?_ | refine bkA ?_ _)); exact BK404.out) hb)
       have n5_ := Aside0.mk (below_step (by repeat (first | (with_reducible first | exact HB.out | apply blA | apply blN | apply blD | refine blS ?_ GE397.out | refine blS ?_ GE398.out | refine blS ?_ GE399.out | refine blS ?_ GE404.out) | exact HB.out)) hb)
       clear BK397
       clear BK398
       clear BK399
       clear BK404
       clear HB
       have HO407 := n0_
       have BK397 := n1_
       have BK398 := n2_
       have BK399 := n3_
       have BK404 := n4_
       have HB := n5_
       clear n0_ n1_ n2_ n3_ n4_ n5_
       (try clear hb)
       (try clear hb2)
       (try clear hk)
       (try clear hi)
       (try clear ho0)
       refine hK.out _ _ ⟨(bkC BK397.out 0).trans rfl, (bkC BK397.out 1).trans rfl, (bkC BK397.out 2).trans rfl, (bkC BK397.out 3).trans rfl, (bkC BK397.out 4).trans rfl, (bkC BK397.out 5).trans rfl, (bkC BK398.out 0).trans rfl, (bkC BK398.out 1).trans rfl, (bkC BK398.out 2).trans rfl, (bkC BK398.out 3).trans rfl, (bkC BK398.out 4).trans rfl⟩ (fun hHeld => ?_)
       clear hK K
       refine norm_ (a' := ?_) ?_ ?_
       rotate_left
       ·show Act.put _ (some 49) _ = _
        simp only [Act.put, List.setIfInBounds_toArray, List.set_cons_zero, List.set_cons_succ, i64_w, i32_w]
        rfl
       refine one_ (i := 4) (N := some 51) #[true, true, true, true, true, false, false, false] rfl rfl (one_of HT_.out (by kernel_rfl)) (by decide) (fun K hK => ?_)
       refine Kd.R_lit_step k47 _ 47 ?hg (N := 51) ?hd (xs := ([(⟨(⟨a1_0, a1_1⟩ : S28), (⟨a1_2, a1_3⟩ : S28), a1_4⟩ : S47)] : List (S47))) (inner := [.int .i64 a1_0, .int .i64 a1_1, .int .i64 a1_2, .int .i64 a1_3, .int .i64 a1_4]) (ok := fun _ => True) (okp := fun _ => True) ?hr ?hp (fun _ hk => hk) trivial (Below.refl _ _) (Nat.le_refl _) (by simp) ?_; (case hd => rfl); (case hg => rfl); (case hr => first | (go_simp; done) | (go_simp; rfl)); (case hp => exact (Reps.c5 (show Kd.M k47 _ _ _ (⟨(⟨a1_0, a1_1⟩ : S28), (⟨a1_2, a1_3⟩ : S28), a1_4⟩ : S47) [.int .i64 a1_0, .int .i64 a1_1, .int .i64 a1_2, .int .i64 a1_3, .int .i64 a1_4] from (k47_mkM _ _ _ (⟨(⟨a1_0, a1_1⟩ : S28), (⟨a1_2, a1_3⟩ : S28), a1_4⟩ : S47) )) (Reps.none _ _)))
       intro v409 w134 ho135 hb hg_ hnew_
       clear hg_ hnew_
       (first | rw [← Ny408.out] at ho135 | (simp only [Int.reduceToNat] at ho135; rw [← Ny408.out] at ho135))
       have n0_ := Aside0.mk (Kd.R_elder' (by (with_reducible repeat (first | apply Kd.R_alloc | apply Kd.R_drewN | apply Kd.R_drew)); exact HO407.out) (Kd.R_base ho135) hb)
       have n1_ := Aside0.mk (Kd.R_lower (Kd.R_newB (Kd.R_new' ho135 (Kd.R_lt (by (with_reducible repeat (first | apply Kd.R_alloc | apply Kd.R_drewN | apply Kd.R_drew)); exact HO407.out))) (g := gb398) (o := .cells #[.int .i64 a1_0, .int .i64 a1_1, .int .i64 a1_2, .int .i64 a1_3, .int .i64 a1_4] 47 (0, 0)) (by (with_reducible repeat (first | refine bkN ?_ _ | refine bkD ?_ | refine bkA ?_ _)); exact BK398.out)) (below_size (by repeat (first | (with_reducible first | exact HB.out | apply blA | apply blN | apply blD | refine blS ?_ GE397.out | refine blS ?_ GE398.out | refine blS ?_ GE399.out | refine blS ?_ GE404.out) | exact HB.out))))
       have n2_ := Aside0.mk (bkB (g := gb397) (o := .cells #[.slice A0_0 l0_0.length c0_0, .slice A0_1 l0_1.length c0_1, .slice A0_2 l0_2.length c0_2, .int .i64 a0_3, .int .i64 a0_4, .int .i64 a0_5] 26 (0, 0)) (by (with_reducible repeat (first | refine bkN ?_ _ | refine bkD ?_ | refine bkA ?_ _)); exact BK397.out) hb)
       have n3_ := Aside0.mk (bkB (g := gb398) (o := .cells #[.int .i64 a1_0, .int .i64 a1_1, .int .i64 a1_2, .int .i64 a1_3, .int .i64 a1_4] 47 (0, 0)) (by (with_reducible repeat (first | refine bkN ?_ _ | refine bkD ?_ | refine bkA ?_ _)); exact BK398.out) hb)
       have n4_ := Aside0.mk (bkB (g := gb399) (o := .cells #[.int .i64 a2_0, .int .i64 a2_1, .int .i64 a2_2, .int .i64 a2_3, .int .i64 a2_4, .int .i64 a2_5, .int .i64 a2_6] 56 (0, 0)) (by (with_reducible repeat (first | refine bkN ?_ _ | refine bkD ?_ | refine bkA ?_ _)); exact BK399.out) hb)
       have n5_ := Aside0.mk (bkB (g := gb404) (o := .cells #[.slice A0_0 l0_0.length c0_0, .slice A0_1 l0_1.length c0_1, .slice A0_2 l0_2.length c0_2, .int .i64 a0_3, .int .i64 a0_4, .int .i64 a0_5] 26 (0, 0)) (by (with_reducible repeat (first | refine bkN ?_ _ | refine bkD ?_ | refine bkA ?_ _)); exact BK404.out) hb)
       have n6_ := Aside0.mk (below_step (by repeat (first | (with_reducible first | exact HB.out | apply blA | apply blN | apply blD | refine blS ?_ GE397.out | refine blS ?_ GE398.out | refine blS ?_ GE399.out | refine blS ?_ GE404.out) | exact HB.out)) hb)
       clear HO407
       clear BK397
       clear BK398
       clear BK399
       clear BK404
       clear HB
       have HO407 := n0_
       have HO410 := n1_
       have BK397 := n2_
       have BK398 := n3_
       have BK399 := n4_
       have BK404 := n5_
       have HB := n6_
       clear n0_ n1_ n2_ n3_ n4_ n5_ n6_
       clear hb ho135
       refine hK.out _ _ ⟨(bkC BK397.out 0).trans rfl, (bkC BK397.out 1).trans rfl, (bkC BK397.out 2).trans rfl, (bkC BK397.out 3).trans rfl, (bkC BK397.out 4).trans rfl, (bkC BK397.out 5).trans rfl, (bkC BK398.out 0).trans rfl, (bkC BK398.out 1).trans rfl, (bkC BK398.out 2).trans rfl, (bkC BK398.out 3).trans rfl, (bkC BK398.out 4).trans rfl⟩ (fun hHeld => ?_)
       clear hK K
       refine norm_ (a' := ?_) ?_ ?_
       rotate_left
       ·show Act.put _ (some 51) _ = _
        simp only [Act.put, List.setIfInBounds_toArray, List.set_cons_zero, List.set_cons_succ, i64_w, i32_w]
        rfl
       exact norm_ (by simp only [putAll, Act.put, List.setIfInBounds_toArray, List.set_cons_zero, List.set_cons_succ]) (hCont (v406, v409) _ ⟨hHeld, (by (with_reducible repeat (first | apply Kd.R_alloc | apply Kd.R_drewN | apply Kd.R_drew)); exact Kd.R_mono HO407.out (fun _ hk => ⟨hk.2, hk.1.2⟩)), (by (with_reducible repeat (first | apply Kd.R_alloc | apply Kd.R_drewN | apply Kd.R_drew)); exact Kd.R_mono HO410.out (fun _ hk => ⟨hk.1.2, hk.2⟩)), (by (with_reducible repeat (first | refine bkN ?_ _ | refine bkD ?_ | refine bkA ?_ _)); exact BK397.out), (by (with_reducible repeat (first | refine bkN ?_ _ | refine bkD ?_ | refine bkA ?_ _)); exact BK398.out), (by (with_reducible repeat (first | refine bkN ?_ _ | refine bkD ?_ | refine bkA ?_ _)); exact BK399.out), (by (with_reducible repeat (first | refine bkN ?_ _ | refine bkD ?_ | refine bkA ?_ _)); exact BK404.out), (by repeat (first | (with_reducible first | exact HB.out | apply blA | apply blN | apply blD | refine blS ?_ GE397.out | refine blS ?_ GE398.out | refine blS ?_ GE399.out | refine blS ?_ GE404.out) | exact HB.out))⟩)
      rintro ⟨v406, v409⟩ w136 ⟨hS_, h0_, h1_, h2_, h3_, h4_, h5_, h6_⟩
      have n0_ : Aside0 (Kd.R k47 47 w136 w.heap.size (fun k_ => some k_ ≠ (v409 : Value).ownBlock ∧ k_ ≠ gb398) v406 t405) := ⟨h0_⟩
      have n1_ : Aside0 (Kd.R k47 47 w136 w.heap.size (fun k_ => some k_ ≠ (v406 : Value).ownBlock ∧ k_ ≠ gb398) v409 y408) := ⟨h1_⟩
      have n2_ : Aside0 (w136.heap[gb397]? = some (.cells #[.slice A0_0 l0_0.length c0_0, .slice A0_1 l0_1.length c0_1, .slice A0_2 l0_2.length c0_2, .int .i64 a0_3, .int .i64 a0_4, .int .i64 a0_5] 26 (0, 0))) := ⟨h2_⟩
      have n3_ : Aside0 (w136.heap[gb398]? = some (.cells #[.int .i64 a1_0, .int .i64 a1_1, .int .i64 a1_2, .int .i64 a1_3, .int .i64 a1_4] 47 (0, 0))) := ⟨h3_⟩
      have n4_ : Aside0 (w136.heap[gb399]? = some (.cells #[.int .i64 a2_0, .int .i64 a2_1, .int .i64 a2_2, .int .i64 a2_3, .int .i64 a2_4, .int .i64 a2_5, .int .i64 a2_6] 56 (0, 0))) := ⟨h4_⟩
      have n5_ : Aside0 (w136.heap[gb404]? = some (.cells #[.slice A0_0 l0_0.length c0_0, .slice A0_1 l0_1.length c0_1, .slice A0_2 l0_2.length c0_2, .int .i64 a0_3, .int .i64 a0_4, .int .i64 a0_5] 26 (0, 0))) := ⟨h5_⟩
      have n6_ : Aside0 (Below w.heap.size w w136) := ⟨h6_⟩
      clear BK397
      clear BK398
      clear BK399
      clear BK404
      clear HB
      clear h0_ h1_ h2_ h3_ h4_ h5_ h6_
      have HO407 := n0_
      have HO410 := n1_
      have BK397 := n2_
      have BK398 := n3_
      have BK399 := n4_
      have BK404 := n5_
      have HB := n6_
      clear n0_ n1_ n2_ n3_ n4_ n5_ n6_
      have hHeld : w136.cell? ⟨gb397, 0, none⟩ = some (.slice A0_0 l0_0.length c0_0) ∧ w136.cell? ⟨gb397, 1, none⟩ = some (.slice A0_1 l0_1.length c0_1) ∧ w136.cell? ⟨gb397, 2, none⟩ = some (.slice A0_2 l0_2.length c0_2) ∧ w136.cell? ⟨gb397, 3, none⟩ = some (.int .i64 a0_3) ∧ w136.cell? ⟨gb397, 4, none⟩ = some (.int .i64 a0_4) ∧ w136.cell? ⟨gb397, 5, none⟩ = some (.int .i64 a0_5) ∧ w136.cell? ⟨gb398, 0, none⟩ = some (.int .i64 a1_0) ∧ w136.cell? ⟨gb398, 1, none⟩ = some (.int .i64 a1_1) ∧ w136.cell? ⟨gb398, 2, none⟩ = some (.int .i64 a1_2) ∧ w136.cell? ⟨gb398, 3, none⟩ = some (.int .i64 a1_3) ∧ w136.cell? ⟨gb398, 4, none⟩ = some (.int .i64 a1_4) := hS_
      obtain ⟨Ao138, co138, eo138⟩ := Kd.R_slice HO410.out
      (first | subst eo138 | (injection eo138 with f1_ f2_ f3_; have f4_ := f1_.symm; have f5_ := f3_.symm; clear f1_ f2_ f3_; subst f4_; subst f5_))
      refine norm_ (a' := ?_) ?_ ?_
      rotate_left
      ·simp only [putAll, Act.put, List.setIfInBounds_toArray, List.set_cons_zero, List.set_cons_succ]
       rfl
      refine one_ (i := 5) (N := some 52) #[true, true, true, true, true, true, false, false] rfl rfl (one_of HT_.out (by kernel_rfl)) (by decide) (fun K hK => ?_)
      refine Kd.R_append_rows_step k47 (w0 := w) w.heap.size (by rfl) (.tmp 49) (.tmp 51) 24 47 (.agg #[(.int .i64 0), (.int .i64 0), (.int .i64 0), (.int .i64 0), (.int .i64 0)]) 40 rfl Try.underlying24 info47 rfl (by decide) (by omega) v406 t405 y408 _ _ _ (fun k_ => some k_ ≠ (.slice Ao138 y408.length co138 : Value).ownBlock ∧ k_ ≠ gb398) (fun _ => False) rfl rfl ?aO ?aR (fun _ _ h => h) (fun _ h => h.elim) ?aF ?aB ?aS ?aL ?_
      (case aR => repeat (first | exact (Kd.R_reads' HO410.out).2.2 | (with_reducible refine Kd.C_alloc ?_ _) | (with_reducible refine Kd.C_drewN ?_ _) | (with_reducible refine Kd.C_drew ?_)))
      (case aB => exact (by repeat (first | (with_reducible first | exact HB.out | apply blA | apply blN | apply blD | refine blS ?_ GE397.out | refine blS ?_ GE398.out | refine blS ?_ GE399.out | refine blS ?_ GE404.out) | exact HB.out)))
      (case aF => exact (fun k_ hk => ⟨Kd.fresh' (Kd.R_lt (by (with_reducible repeat (first | apply Kd.R_alloc | apply Kd.R_drewN | apply Kd.R_drew)); exact HO410.out)) k_ hk, Kd.freshB (g := gb398) (o := .cells #[.int .i64 a1_0, .int .i64 a1_1, .int .i64 a1_2, .int .i64 a1_3, .int .i64 a1_4] 47 (0, 0)) (by (with_reducible repeat (first | refine bkN ?_ _ | refine bkD ?_ | refine bkA ?_ _)); exact BK398.out) k_ hk⟩))
      (case aO => exact (by (with_reducible repeat (first | apply Kd.R_alloc | apply Kd.R_drewN | apply Kd.R_drew)); exact HO407.out))
      (case aS => exact (below_size (by repeat (first | (with_reducible first | exact HB.out | apply blA | apply blN | apply blD | refine blS ?_ GE397.out | refine blS ?_ GE398.out | refine blS ?_ GE399.out | refine blS ?_ GE404.out) | exact HB.out))))
      (case aL => have := LMc38.out; omega)
      intro v412 w137 ho hb hg hat
      rw [← Ny411.out] at ho
      have n0_ := Aside0.mk (blk_grown (g := gb397) (o := .cells #[.slice A0_0 l0_0.length c0_0, .slice A0_1 l0_1.length c0_1, .slice A0_2 l0_2.length c0_2, .int .i64 a0_3, .int .i64 a0_4, .int .i64 a0_5] 26 (0, 0)) (by (with_reducible repeat (first | refine bkN ?_ _ | refine bkD ?_ | refine bkA ?_ _)); exact BK397.out) hg (Kd.R_ne HO407.out BK397.out (by decide)))
      have n1_ := Aside0.mk (blk_grown (g := gb398) (o := .cells #[.int .i64 a1_0, .int .i64 a1_1, .int .i64 a1_2, .int .i64 a1_3, .int .i64 a1_4] 47 (0, 0)) (by (with_reducible repeat (first | refine bkN ?_ _ | refine bkD ?_ | refine bkA ?_ _)); exact BK398.out) hg (Kd.R_away HO407.out (fun _ hk => hk.2)))
      have n2_ := Aside0.mk (blk_grown (g := gb399) (o := .cells #[.int .i64 a2_0, .int .i64 a2_1, .int .i64 a2_2, .int .i64 a2_3, .int .i64 a2_4, .int .i64 a2_5, .int .i64 a2_6] 56 (0, 0)) (by (with_reducible repeat (first | refine bkN ?_ _ | refine bkD ?_ | refine bkA ?_ _)); exact BK399.out) hg (Kd.R_ne HO407.out BK399.out (by decide)))
      have n3_ := Aside0.mk (blk_grown (g := gb404) (o := .cells #[.slice A0_0 l0_0.length c0_0, .slice A0_1 l0_1.length c0_1, .slice A0_2 l0_2.length c0_2, .int .i64 a0_3, .int .i64 a0_4, .int .i64 a0_5] 26 (0, 0)) (by (with_reducible repeat (first | refine bkN ?_ _ | refine bkD ?_ | refine bkA ?_ _)); exact BK404.out) hg (Kd.R_ne HO407.out BK404.out (by decide)))
      have n4_ := Aside0.mk (Kd.R_after (ok := (fun k_ => k_ ≠ gb398)) (by (with_reducible repeat (first | apply Kd.R_alloc | apply Kd.R_drewN | apply Kd.R_drew)); exact Kd.R_mono HO410.out (fun _ hk => ⟨hk.2, hk.1⟩)) hg hat)
      have n5_ := Aside0.mk (hb)
      have n6_ := Aside0.mk (ho)
      clear BK397
      clear BK398
      clear BK399
      clear BK404
      clear HO410
      clear HB
      clear HO407
      have BK397 := n0_
      have BK398 := n1_
      have BK399 := n2_
      have BK404 := n3_
      have HO410 := n4_
      have HB := n5_
      have HO413 := n6_
      clear n0_ n1_ n2_ n3_ n4_ n5_ n6_
      clear ho hb hg hat
      obtain ⟨Ao139, co139, eo139⟩ := Kd.R_slice HO413.out
      (first | subst eo139 | (injection eo139 with f1_ f2_ f3_; have f4_ := f1_.symm; have f5_ := f3_.symm; clear f1_ f2_ f3_; subst f4_; subst f5_))
      refine hK.out _ _ ⟨(bkC BK397.out 0).trans rfl, (bkC BK397.out 1).trans rfl, (bkC BK397.out 2).trans rfl, (bkC BK397.out 3).trans rfl, (bkC BK397.out 4).trans rfl, (bkC BK397.out 5).trans rfl, (bkC BK398.out 0).trans rfl, (bkC BK398.out 1).trans rfl, (bkC BK398.out 2).trans rfl, (bkC BK398.out 3).trans rfl, (bkC BK398.out 4).trans rfl⟩ (fun hHeld => ?_)
      clear hK K
      refine norm_ (a' := ?_) ?_ ?_
      rotate_left
      ·show Act.put _ (some 52) _ = _
       simp only [Act.put, List.setIfInBounds_toArray, List.set_cons_zero, List.set_cons_succ, i64_w, i32_w]
       rfl
      refine pure_ (i := 6) (N := some 53) (v := ?_) (a' := ?_) #[true, true, true, true, true, true, true, false] rfl rfl (any_of HT_.out (by kernel_rfl)) (fun _ _ _ h => h) (Or.inl ⟨by rfl, ?_⟩) ?_ ?_
      rotate_left
      ·intro w'
       go_simp
       with_reducible rfl
      rotate_left
      ·simp only [Act.put, List.setIfInBounds_toArray, List.set_cons_zero, List.set_cons_succ, i64_w, i32_w]
       rfl
      refine one_ (i := 7) (N := none) #[true, true, true, true, true, true, true, true] rfl rfl (one_of HT_.out (by kernel_rfl)) (by decide) (fun K hK => ?_)
      have hs140 : w137.cell? ⟨gb404, 2, none⟩ = some (.slice A0_2 l0_2.length c0_2) := (bkC BK404.out 2).trans rfl
      have hfs140 := bkF BK404.out 2
      have hns140_0 := NB397_404.out
      have hns140_1 := NB398_404.out
      have hns140_2 := NB399_404.out
      have hms140_0 := NB404_397.out
      have hms140_1 := NB404_398.out
      have hms140_2 := NB404_399.out
      refine skip_ (w1 := ?_) (by rfl) rfl ?_ ?_
      rotate_left
      ·go_simp
       rfl
      refine hK.out _ _ ⟨((cell_far (p := ⟨gb404, _, none⟩) NB397_404.out _).trans (hHeld.1)), ((cell_far (p := ⟨gb404, _, none⟩) NB397_404.out _).trans (hHeld.2.1)), ((cell_far (p := ⟨gb404, _, none⟩) NB397_404.out _).trans (hHeld.2.2.1)), ((cell_far (p := ⟨gb404, _, none⟩) NB397_404.out _).trans (hHeld.2.2.2.1)), ((cell_far (p := ⟨gb404, _, none⟩) NB397_404.out _).trans (hHeld.2.2.2.2.1)), ((cell_far (p := ⟨gb404, _, none⟩) NB397_404.out _).trans (hHeld.2.2.2.2.2.1)), ((cell_far (p := ⟨gb404, _, none⟩) NB398_404.out _).trans (hHeld.2.2.2.2.2.2.1)), ((cell_far (p := ⟨gb404, _, none⟩) NB398_404.out _).trans (hHeld.2.2.2.2.2.2.2.1)), ((cell_far (p := ⟨gb404, _, none⟩) NB398_404.out _).trans (hHeld.2.2.2.2.2.2.2.2.1)), ((cell_far (p := ⟨gb404, _, none⟩) NB398_404.out _).trans (hHeld.2.2.2.2.2.2.2.2.2.1)), ((cell_far (p := ⟨gb404, _, none⟩) NB398_404.out _).trans (hHeld.2.2.2.2.2.2.2.2.2.2))⟩ (fun hHeld => ?_)
      clear hK K
      refine done_ (done_of HT_.out (by kernel_rfl)) ?_
      have hcz141_0 : w137.cell? ⟨gb404, 0, none⟩ = some (.slice A0_0 l0_0.length c0_0) := (bkC BK404.out 0).trans rfl
      have hcz141_1 : w137.cell? ⟨gb404, 1, none⟩ = some (.slice A0_1 l0_1.length c0_1) := (bkC BK404.out 1).trans rfl
      have hcz141_2 : w137.cell? ⟨gb404, 2, none⟩ = some (.slice A0_2 l0_2.length c0_2) := (bkC BK404.out 2).trans rfl
      have hcz141_3 : w137.cell? ⟨gb404, 3, none⟩ = some (.int .i64 a0_3) := (bkC BK404.out 3).trans rfl
      have hcz141_4 : w137.cell? ⟨gb404, 4, none⟩ = some (.int .i64 a0_4) := (bkC BK404.out 4).trans rfl
      have hcz141_5 : w137.cell? ⟨gb404, 5, none⟩ = some (.int .i64 a0_5) := (bkC BK404.out 5).trans rfl
      have hfz141_0 := bkF BK404.out 0
      have hfz141_1 := bkF BK404.out 1
      have hfz141_2 := bkF BK404.out 2
      have hfz141_3 := bkF BK404.out 3
      have hfz141_4 := bkF BK404.out 4
      have hfz141_5 := bkF BK404.out 5
      have hnb142 := NB399_398.out
      have hnc142 := NB398_399.out
      have hcz143_0 : w137.cell? ⟨gb399, 0, none⟩ = some (.int .i64 a2_0) := (bkC BK399.out 0).trans rfl
      have hcz143_1 : w137.cell? ⟨gb399, 1, none⟩ = some (.int .i64 a2_1) := (bkC BK399.out 1).trans rfl
      have hcz143_2 : w137.cell? ⟨gb399, 2, none⟩ = some (.int .i64 a2_2) := (bkC BK399.out 2).trans rfl
      have hcz143_3 : w137.cell? ⟨gb399, 3, none⟩ = some (.int .i64 a2_3) := (bkC BK399.out 3).trans rfl
      have hcz143_4 : w137.cell? ⟨gb399, 4, none⟩ = some (.int .i64 a2_4) := (bkC BK399.out 4).trans rfl
      have hcz143_5 : w137.cell? ⟨gb399, 5, none⟩ = some (.int .i64 a2_5) := (bkC BK399.out 5).trans rfl
      have hcz143_6 : w137.cell? ⟨gb399, 6, none⟩ = some (.int .i64 a2_6) := (bkC BK399.out 6).trans rfl
      have hfz143_0 := bkF BK399.out 0
      have hfz143_1 := bkF BK399.out 1
      have hfz143_2 := bkF BK399.out 2
      have hfz143_3 := bkF BK399.out 3
      have hfz143_4 := bkF BK399.out 4
      have hfz143_5 := bkF BK399.out 5
      have hfz143_6 := bkF BK399.out 6
      try go_wp2_with (first | ((with_reducible refine gate_callee (f := 23) rfl ?_); refine goesL_ (some 62) rfl rfl Try.func23 (by kernel_rfl) rfl #[.agg #[.slice A0_0 l0_0.length c0_0, .slice A0_1 l0_1.length c0_1, .slice Ao139 y411.length co139, .int .i64 a0_3, .int .i64 a0_4, .int .i64 a0_5], .agg #[.int .i64 a2_0, .int .i64 a2_1], .int .i64 a2_4, .agg #[.int .i64 a2_2, .int .i64 a2_3]] rfl (by (try simp only [List.map_toArray, List.map_cons, List.map_nil]); first | done | rfl | (simp only [List.length_drop, List.length_take]; rfl)) ?_; (with_reducible refine (geometry_At.calls kj24 _ _ l0_0 _ _ l0_1 _ _ y411 a0_3 a0_4 a0_5 a2_0 a2_1 a2_4 a2_2 a2_3 t414 t415 _ ?side1 ?side2 ?side3 ?side4 ?side5 ?side6 A39.out).mono ?_); (case side1 => exact Kd.C_below HR0_0.out (by repeat (first | (with_reducible first | exact HB.out | apply blA | apply blN | apply blD | refine blS ?_ GE397.out | refine blS ?_ GE398.out | refine blS ?_ GE399.out | refine blS ?_ GE404.out) | exact HB.out))); (case side2 => exact HC0_0.out); (case side3 => exact Kd.C_below HR0_1.out (by repeat (first | (with_reducible first | exact HB.out | apply blA | apply blN | apply blD | refine blS ?_ GE397.out | refine blS ?_ GE398.out | refine blS ?_ GE399.out | refine blS ?_ GE404.out) | exact HB.out))); (case side4 => exact HC0_1.out); (case side5 => refine (Kd.R_reads' (e := 47) (base := w.heap.size) (ok := fun k_ => (some k_ ≠ (.slice Ao138 y408.length co138 : Value).ownBlock ∧ k_ ≠ gb398)) (n := y411.length) (c := co139) ?_).2.2; exact (by (with_reducible repeat (first | apply Kd.R_alloc | apply Kd.R_drewN | apply Kd.R_drew)); exact (Kd.R_mono (Kd.R_far (p := ⟨gb404, 2, none⟩) (Kd.R_types HO413.out BK404.out (by decide)) (fun _ hk => hk.2) (.slice Ao139 y411.length co139)) (fun _ h_ => h_.1)))); (case side6 => exact (Kd.R_reads' HO413.out).2.1); rintro e w144 ⟨rfl, hb⟩; refine ⟨_, rfl, ?_⟩; have n0_ := Aside0.mk (Kd.R_below (by (with_reducible repeat (first | apply Kd.R_alloc | apply Kd.R_drewN | apply Kd.R_drew)); exact (Kd.R_mono (Kd.R_far (p := ⟨gb404, 2, none⟩) (Kd.R_types HO410.out BK404.out (by decide)) (fun _ hk => hk.2) (.slice Ao139 y411.length co139)) (fun _ h_ => h_.1))) hb); have n1_ := Aside0.mk (Kd.R_below (by (with_reducible repeat (first | apply Kd.R_alloc | apply Kd.R_drewN | apply Kd.R_drew)); exact (Kd.R_mono (Kd.R_far (p := ⟨gb404, 2, none⟩) (Kd.R_types HO413.out BK404.out (by decide)) (fun _ hk => hk.2) (.slice Ao139 y411.length co139)) (fun _ h_ => h_.1))) hb); have n2_ := Aside0.mk (bkB (g := gb397) (o := .cells #[.slice A0_0 l0_0.length c0_0, .slice A0_1 l0_1.length c0_1, .slice A0_2 l0_2.length c0_2, .int .i64 a0_3, .int .i64 a0_4, .int .i64 a0_5] 26 (0, 0)) (by (with_reducible repeat (first | refine bkN ?_ _ | refine bkD ?_ | refine bkA ?_ _)); refine blk_far ?_ NB397_404.out _; (with_reducible repeat (first | refine bkN ?_ _ | refine bkD ?_ | refine bkA ?_ _)); exact BK397.out) hb); have n3_ := Aside0.mk (bkB (g := gb398) (o := .cells #[.int .i64 a1_0, .int .i64 a1_1, .int .i64 a1_2, .int .i64 a1_3, .int .i64 a1_4] 47 (0, 0)) (by (with_reducible repeat (first | refine bkN ?_ _ | refine bkD ?_ | refine bkA ?_ _)); refine blk_far ?_ NB398_404.out _; (with_reducible repeat (first | refine bkN ?_ _ | refine bkD ?_ | refine bkA ?_ _)); exact BK398.out) hb); have n4_ := Aside0.mk (bkB (g := gb399) (o := .cells #[.int .i64 a2_0, .int .i64 a2_1, .int .i64 a2_2, .int .i64 a2_3, .int .i64 a2_4, .int .i64 a2_5, .int .i64 a2_6] 56 (0, 0)) (by (with_reducible repeat (first | refine bkN ?_ _ | refine bkD ?_ | refine bkA ?_ _)); refine blk_far ?_ NB399_404.out _; (with_reducible repeat (first | refine bkN ?_ _ | refine bkD ?_ | refine bkA ?_ _)); exact BK399.out) hb); have n5_ := Aside0.mk (bkB (g := gb404) (o := .cells #[.slice A0_0 l0_0.length c0_0, .slice A0_1 l0_1.length c0_1, .slice Ao139 y411.length co139, .int .i64 a0_3, .int .i64 a0_4, .int .i64 a0_5] 26 (0, 0)) (by (with_reducible repeat (first | refine bkN ?_ _ | refine bkD ?_ | refine bkA ?_ _)); refine blk_put (cs := #[.slice A0_0 l0_0.length c0_0, .slice A0_1 l0_1.length c0_1, .slice A0_2 l0_2.length c0_2, .int .i64 a0_3, .int .i64 a0_4, .int .i64 a0_5]) ?_ 2 _ rfl; (with_reducible repeat (first | refine bkN ?_ _ | refine bkD ?_ | refine bkA ?_ _)); exact BK404.out) hb); have n6_ := Aside0.mk (below_step (by repeat (first | (with_reducible first | exact HB.out | apply blA | apply blN | apply blD | refine blS ?_ GE397.out | refine blS ?_ GE398.out | refine blS ?_ GE399.out | refine blS ?_ GE404.out) | exact HB.out)) hb); clear HO410; clear HO413; clear BK397; clear BK398; clear BK399; clear BK404; clear HB; have HO410 := n0_; have HO413 := n1_; have BK397 := n2_; have BK398 := n3_; have BK399 := n4_; have BK404 := n5_; have HB := n6_; clear n0_ n1_ n2_ n3_ n4_ n5_ n6_; (try clear hb); (try clear hb2); (try clear hk); (try clear hi); have hcz145_0 : w144.cell? ⟨gb404, 0, none⟩ = some (.slice A0_0 l0_0.length c0_0) := (bkC BK404.out 0).trans rfl; have hcz145_1 : w144.cell? ⟨gb404, 1, none⟩ = some (.slice A0_1 l0_1.length c0_1) := (bkC BK404.out 1).trans rfl; have hcz145_2 : w144.cell? ⟨gb404, 2, none⟩ = some (.slice Ao139 y411.length co139) := (bkC BK404.out 2).trans rfl; have hcz145_3 : w144.cell? ⟨gb404, 3, none⟩ = some (.int .i64 a0_3) := (bkC BK404.out 3).trans rfl; have hcz145_4 : w144.cell? ⟨gb404, 4, none⟩ = some (.int .i64 a0_4) := (bkC BK404.out 4).trans rfl; have hcz145_5 : w144.cell? ⟨gb404, 5, none⟩ = some (.int .i64 a0_5) := (bkC BK404.out 5).trans rfl; have hfz145_0 := bkF BK404.out 0; have hfz145_1 := bkF BK404.out 1; have hfz145_2 := bkF BK404.out 2; have hfz145_3 := bkF BK404.out 3; have hfz145_4 := bkF BK404.out 4; have hfz145_5 := bkF BK404.out 5) | (go_at_call 19; (with_reducible refine (geometry_Check.calls _ _ l0_0 _ _ l0_1 _ _ y411 a0_3 a0_4 a0_5 t416 _ ?side1 ?side2 ?side3 ?side4 ?side5 ?side6 A122.out).mono ?_); (case side1 => repeat (first | exact (Kd.C_below HR0_0.out HB.out) | (with_reducible refine Kd.C_alloc ?_ _) | (with_reducible refine Kd.C_drewN ?_ _) | (with_reducible refine Kd.C_drew ?_))); (case side2 => exact HC0_0.out); (case side3 => repeat (first | exact (Kd.C_below HR0_1.out HB.out) | (with_reducible refine Kd.C_alloc ?_ _) | (with_reducible refine Kd.C_drewN ?_ _) | (with_reducible refine Kd.C_drew ?_))); (case side4 => exact HC0_1.out); (case side5 => repeat (first | exact (Kd.R_reads' HO413.out).2.2 | (with_reducible refine Kd.C_alloc ?_ _) | (with_reducible refine Kd.C_drewN ?_ _) | (with_reducible refine Kd.C_drew ?_))); (case side6 => exact (Kd.R_reads' HO413.out).2.1); rintro e w146 ⟨rfl, hb⟩; have n0_ := Aside0.mk (Kd.R_below (by (with_reducible repeat (first | apply Kd.R_alloc | apply Kd.R_drewN | apply Kd.R_drew)); exact HO410.out) hb); have n1_ := Aside0.mk (Kd.R_below (by (with_reducible repeat (first | apply Kd.R_alloc | apply Kd.R_drewN | apply Kd.R_drew)); exact HO413.out) hb); have n2_ := Aside0.mk (bkB (g := gb397) (o := .cells #[.slice A0_0 l0_0.length c0_0, .slice A0_1 l0_1.length c0_1, .slice A0_2 l0_2.length c0_2, .int .i64 a0_3, .int .i64 a0_4, .int .i64 a0_5] 26 (0, 0)) (by (with_reducible repeat (first | refine bkN ?_ _ | refine bkD ?_ | refine bkA ?_ _)); exact BK397.out) hb); have n3_ := Aside0.mk (bkB (g := gb398) (o := .cells #[.int .i64 a1_0, .int .i64 a1_1, .int .i64 a1_2, .int .i64 a1_3, .int .i64 a1_4] 47 (0, 0)) (by (with_reducible repeat (first | refine bkN ?_ _ | refine bkD ?_ | refine bkA ?_ _)); exact BK398.out) hb); have n4_ := Aside0.mk (bkB (g := gb399) (o := .cells #[.int .i64 a2_0, .int .i64 a2_1, .int .i64 a2_2, .int .i64 a2_3, .int .i64 a2_4, .int .i64 a2_5, .int .i64 a2_6] 56 (0, 0)) (by (with_reducible repeat (first | refine bkN ?_ _ | refine bkD ?_ | refine bkA ?_ _)); exact BK399.out) hb); have n5_ := Aside0.mk (bkB (g := gb404) (o := .cells #[.slice A0_0 l0_0.length c0_0, .slice A0_1 l0_1.length c0_1, .slice Ao139 y411.length co139, .int .i64 a0_3, .int .i64 a0_4, .int .i64 a0_5] 26 (0, 0)) (by (with_reducible repeat (first | refine bkN ?_ _ | refine bkD ?_ | refine bkA ?_ _)); exact BK404.out) hb); have n6_ := Aside0.mk (below_step (by repeat (first | (with_reducible first | exact HB.out | apply blA | apply blN | apply blD | refine blS ?_ GE397.out | refine blS ?_ GE398.out | refine blS ?_ GE399.out | refine blS ?_ GE404.out) | exact HB.out)) hb); clear HO410; clear HO413; clear BK397; clear BK398; clear BK399; clear BK404; clear HB; have HO410 := n0_; have HO413 := n1_; have BK397 := n2_; have BK398 := n3_; have BK399 := n4_; have BK404 := n5_; have HB := n6_; clear n0_ n1_ n2_ n3_ n4_ n5_ n6_; (try clear hb); (try clear hb2); (try clear hk); (try clear hi)))
      go_ret
      exact ⟨by first | rfl | (simp [errW_none, errW_some] <;> rfl) | (simp [*, errW_none, errW_some] <;> rfl), by repeat (first | (with_reducible first | exact HB.out | apply blA | apply blN | apply blD | refine blS ?_ GE397.out | refine blS ?_ GE398.out | refine blS ?_ GE399.out | refine blS ?_ GE404.out) | exact HB.out)⟩
     rw [if_pos c40] at H
     have c40b0 : (t415 == 0) = true := beq_iff_eq.mpr c40
     have c40b1 : (t415 != 0) = false := bne_eq_false_iff_eq.mpr c40
     clear c40
     replace H := Option.bind_eq_some_iff.mp H
     obtain ⟨t417, A410, H⟩ := H
     replace H : (if t417 = true then (if a1_4 = 1000 then (some (t414 == t402)) else (some (decide (t414 ≤ t402)))) else (some (t414 == t402))) = some r := H
     have A41 := Aside0.mk A410
     clear A410
     by_cases c42 : t417 = true
     rotate_left
     ·replace c42 := Bool.eq_false_iff.mpr c42
      subst c42
      have H1 : (some (t414 == t402)) = some r := by rw [if_neg (show ¬ (false = true) by decide)] at H; exact H
      clear H
      have H := H1
      clear H1
      obtain rfl := Option.some.inj H
      have hnb96 := NB397_398.out
      have hnc96 := NB398_397.out
      have hnb97 := NB397_399.out
      have hnc97 := NB399_397.out
      have hcz98_0 : wc.cell? ⟨gb397, 0, none⟩ = some (.slice A0_0 l0_0.length c0_0) := (bkC BK397.out 0).trans rfl
      have hcz98_1 : wc.cell? ⟨gb397, 1, none⟩ = some (.slice A0_1 l0_1.length c0_1) := (bkC BK397.out 1).trans rfl
      have hcz98_2 : wc.cell? ⟨gb397, 2, none⟩ = some (.slice A0_2 l0_2.length c0_2) := (bkC BK397.out 2).trans rfl
      have hcz98_3 : wc.cell? ⟨gb397, 3, none⟩ = some (.int .i64 a0_3) := (bkC BK397.out 3).trans rfl
      have hcz98_4 : wc.cell? ⟨gb397, 4, none⟩ = some (.int .i64 a0_4) := (bkC BK397.out 4).trans rfl
      have hcz98_5 : wc.cell? ⟨gb397, 5, none⟩ = some (.int .i64 a0_5) := (bkC BK397.out 5).trans rfl
      have hfz98_0 := bkF BK397.out 0
      have hfz98_1 := bkF BK397.out 1
      have hfz98_2 := bkF BK397.out 2
      have hfz98_3 := bkF BK397.out 3
      have hfz98_4 := bkF BK397.out 4
      have hfz98_5 := bkF BK397.out 5
      try go_wp2_with (first | ((with_reducible refine gate_dst (N := 9) rfl ?_); refine box_event ?hg (N := 9) ?hd (cs := #[.slice none 0 0, .slice none 0 0, .slice none 0 0, .int .i64 0, .int .i64 0, .int .i64 0]) (t := 26) ?hr ?_; (case hd => rfl); (case hg => rfl); (case hr => first | (go_simp; done) | (go_simp; rfl)); intro gb404 hg w99 hbox hb; have n0_ := Aside0.mk (bkB (g := gb397) (o := .cells #[.slice A0_0 l0_0.length c0_0, .slice A0_1 l0_1.length c0_1, .slice A0_2 l0_2.length c0_2, .int .i64 a0_3, .int .i64 a0_4, .int .i64 a0_5] 26 (0, 0)) (by (with_reducible repeat (first | refine bkN ?_ _ | refine bkD ?_ | refine bkA ?_ _)); exact BK397.out) hb); have n1_ := Aside0.mk (bkB (g := gb398) (o := .cells #[.int .i64 a1_0, .int .i64 a1_1, .int .i64 a1_2, .int .i64 a1_3, .int .i64 a1_4] 47 (0, 0)) (by (with_reducible repeat (first | refine bkN ?_ _ | refine bkD ?_ | refine bkA ?_ _)); exact BK398.out) hb); have n2_ := Aside0.mk (bkB (g := gb399) (o := .cells #[.int .i64 a2_0, .int .i64 a2_1, .int .i64 a2_2, .int .i64 a2_3, .int .i64 a2_4, .int .i64 a2_5, .int .i64 a2_6] 56 (0, 0)) (by (with_reducible repeat (first | refine bkN ?_ _ | refine bkD ?_ | refine bkA ?_ _)); exact BK399.out) hb); have n3_ := Aside0.mk (below_step (by repeat (first | (with_reducible first | exact HB.out | apply blA | apply blN | apply blD | refine blS ?_ GE397.out | refine blS ?_ GE398.out | refine blS ?_ GE399.out) | exact HB.out)) hb); have n4_ := Aside0.mk (hbox); have n5_ := Aside0.mk ((by rw [hg]; exact (below_size (by repeat (first | (with_reducible first | exact HB.out | apply blA | apply blN | apply blD | refine blS ?_ GE397.out | refine blS ?_ GE398.out | refine blS ?_ GE399.out) | exact HB.out))) : w.heap.size ≤ gb404)); have n6_ := Aside0.mk ((by rw [hg]; exact (below_size (by repeat (first | (with_reducible first | exact HB.out | apply blA | apply blN | apply blD | refine blS ?_ GE397.out | refine blS ?_ GE398.out | refine blS ?_ GE399.out) | exact HB.out))) : w.heap.size ≤ gb404)); have n7_ := Aside0.mk ((by rw [hg]; exact Nat.ne_of_lt (blk_lt (g := gb397) (o := .cells #[.slice A0_0 l0_0.length c0_0, .slice A0_1 l0_1.length c0_1, .slice A0_2 l0_2.length c0_2, .int .i64 a0_3, .int .i64 a0_4, .int .i64 a0_5] 26 (0, 0)) (by (with_reducible repeat (first | refine bkN ?_ _ | refine bkD ?_ | refine bkA ?_ _)); exact BK397.out)) : gb397 ≠ gb404)); have n8_ := Aside0.mk ((by rw [hg]; exact Nat.ne_of_gt (blk_lt (g := gb397) (o := .cells #[.slice A0_0 l0_0.length c0_0, .slice A0_1 l0_1.length c0_1, .slice A0_2 l0_2.length c0_2, .int .i64 a0_3, .int .i64 a0_4, .int .i64 a0_5] 26 (0, 0)) (by (with_reducible repeat (first | refine bkN ?_ _ | refine bkD ?_ | refine bkA ?_ _)); exact BK397.out)) : gb404 ≠ gb397)); have n9_ := Aside0.mk ((by rw [hg]; exact Nat.ne_of_lt (blk_lt (g := gb398) (o := .cells #[.int .i64 a1_0, .int .i64 a1_1, .int .i64 a1_2, .int .i64 a1_3, .int .i64 a1_4] 47 (0, 0)) (by (with_reducible repeat (first | refine bkN ?_ _ | refine bkD ?_ | refine bkA ?_ _)); exact BK398.out)) : gb398 ≠ gb404)); have n10_ := Aside0.mk ((by rw [hg]; exact Nat.ne_of_gt (blk_lt (g := gb398) (o := .cells #[.int .i64 a1_0, .int .i64 a1_1, .int .i64 a1_2, .int .i64 a1_3, .int .i64 a1_4] 47 (0, 0)) (by (with_reducible repeat (first | refine bkN ?_ _ | refine bkD ?_ | refine bkA ?_ _)); exact BK398.out)) : gb404 ≠ gb398)); have n11_ := Aside0.mk ((by rw [hg]; exact Nat.ne_of_lt (blk_lt (g := gb399) (o := .cells #[.int .i64 a2_0, .int .i64 a2_1, .int .i64 a2_2, .int .i64 a2_3, .int .i64 a2_4, .int .i64 a2_5, .int .i64 a2_6] 56 (0, 0)) (by (with_reducible repeat (first | refine bkN ?_ _ | refine bkD ?_ | refine bkA ?_ _)); exact BK399.out)) : gb399 ≠ gb404)); have n12_ := Aside0.mk ((by rw [hg]; exact Nat.ne_of_gt (blk_lt (g := gb399) (o := .cells #[.int .i64 a2_0, .int .i64 a2_1, .int .i64 a2_2, .int .i64 a2_3, .int .i64 a2_4, .int .i64 a2_5, .int .i64 a2_6] 56 (0, 0)) (by (with_reducible repeat (first | refine bkN ?_ _ | refine bkD ?_ | refine bkA ?_ _)); exact BK399.out)) : gb404 ≠ gb399)); clear BK397; clear BK398; clear BK399; clear HB; have BK397 := n0_; have BK398 := n1_; have BK399 := n2_; have HB := n3_; have BK404 := n4_; have GW404 := n5_; have GE404 := n6_; have NB397_404 := n7_; have NB404_397 := n8_; have NB398_404 := n9_; have NB404_398 := n10_; have NB399_404 := n11_; have NB404_399 := n12_; clear n0_ n1_ n2_ n3_ n4_ n5_ n6_ n7_ n8_ n9_ n10_ n11_ n12_; clear hb hbox hg; have hnb100 := NB404_397.out; have hnc100 := NB397_404.out; have hnb101 := NB404_398.out; have hnc101 := NB398_404.out; have hnb102 := NB404_399.out; have hnc102 := NB399_404.out; have hcz103_0 : w99.cell? ⟨gb404, 0, none⟩ = some (.slice none 0 0) := (bkC BK404.out 0).trans rfl; have hcz103_1 : w99.cell? ⟨gb404, 1, none⟩ = some (.slice none 0 0) := (bkC BK404.out 1).trans rfl; have hcz103_2 : w99.cell? ⟨gb404, 2, none⟩ = some (.slice none 0 0) := (bkC BK404.out 2).trans rfl; have hcz103_3 : w99.cell? ⟨gb404, 3, none⟩ = some (.int .i64 0) := (bkC BK404.out 3).trans rfl; have hcz103_4 : w99.cell? ⟨gb404, 4, none⟩ = some (.int .i64 0) := (bkC BK404.out 4).trans rfl; have hcz103_5 : w99.cell? ⟨gb404, 5, none⟩ = some (.int .i64 0) := (bkC BK404.out 5).trans rfl; have hfz103_0 := bkF BK404.out 0; have hfz103_1 := bkF BK404.out 1; have hfz103_2 := bkF BK404.out 2; have hfz103_3 := bkF BK404.out 3; have hfz103_4 := bkF BK404.out 4; have hfz103_5 := bkF BK404.out 5))
      have n0_ : Aside0 (((((((w99.setCell ⟨gb404, 0, none⟩ (.slice A0_0 l0_0.length c0_0)).setCell ⟨gb404, 1, none⟩ (.slice A0_1 l0_1.length c0_1)).setCell ⟨gb404, 2, none⟩ (.slice A0_2 l0_2.length c0_2)).setCell ⟨gb404, 3, none⟩ (.int .i64 a0_3)).setCell ⟨gb404, 4, none⟩ (.int .i64 a0_4)).setCell ⟨gb404, 5, none⟩ (.int .i64 a0_5)).heap[gb397]? = some (.cells #[.slice A0_0 l0_0.length c0_0, .slice A0_1 l0_1.length c0_1, .slice A0_2 l0_2.length c0_2, .int .i64 a0_3, .int .i64 a0_4, .int .i64 a0_5] 26 (0, 0))) := ⟨by (with_reducible repeat (first | refine bkN ?_ _ | refine bkD ?_ | refine bkA ?_ _)); refine blk_far ?_ NB397_404.out _; (with_reducible repeat (first | refine bkN ?_ _ | refine bkD ?_ | refine bkA ?_ _)); refine blk_far ?_ NB397_404.out _; (with_reducible repeat (first | refine bkN ?_ _ | refine bkD ?_ | refine bkA ?_ _)); refine blk_far ?_ NB397_404.out _; (with_reducible repeat (first | refine bkN ?_ _ | refine bkD ?_ | refine bkA ?_ _)); refine blk_far ?_ NB397_404.out _; (with_reducible repeat (first | refine bkN ?_ _ | refine bkD ?_ | refine bkA ?_ _)); refine blk_far ?_ NB397_404.out _; (with_reducible repeat (first | refine bkN ?_ _ | refine bkD ?_ | refine bkA ?_ _)); refine blk_far ?_ NB397_404.out _; (with_reducible repeat (first | refine bkN ?_ _ | refine bkD ?_ | refine bkA ?_ _)); exact BK397.out⟩
      have n1_ : Aside0 (((((((w99.setCell ⟨gb404, 0, none⟩ (.slice A0_0 l0_0.length c0_0)).setCell ⟨gb404, 1, none⟩ (.slice A0_1 l0_1.length c0_1)).setCell ⟨gb404, 2, none⟩ (.slice A0_2 l0_2.length c0_2)).setCell ⟨gb404, 3, none⟩ (.int .i64 a0_3)).setCell ⟨gb404, 4, none⟩ (.int .i64 a0_4)).setCell ⟨gb404, 5, none⟩ (.int .i64 a0_5)).heap[gb398]? = some (.cells #[.int .i64 a1_0, .int .i64 a1_1, .int .i64 a1_2, .int .i64 a1_3, .int .i64 a1_4] 47 (0, 0))) := ⟨by (with_reducible repeat (first | refine bkN ?_ _ | refine bkD ?_ | refine bkA ?_ _)); refine blk_far ?_ NB398_404.out _; (with_reducible repeat (first | refine bkN ?_ _ | refine bkD ?_ | refine bkA ?_ _)); refine blk_far ?_ NB398_404.out _; (with_reducible repeat (first | refine bkN ?_ _ | refine bkD ?_ | refine bkA ?_ _)); refine blk_far ?_ NB398_404.out _; (with_reducible repeat (first | refine bkN ?_ _ | refine bkD ?_ | refine bkA ?_ _)); refine blk_far ?_ NB398_404.out _; (with_reducible repeat (first | refine bkN ?_ _ | refine bkD ?_ | refine bkA ?_ _)); refine blk_far ?_ NB398_404.out _; (with_reducible repeat (first | refine bkN ?_ _ | refine bkD ?_ | refine bkA ?_ _)); refine blk_far ?_ NB398_404.out _; (with_reducible repeat (first | refine bkN ?_ _ | refine bkD ?_ | refine bkA ?_ _)); exact BK398.out⟩
      have n2_ : Aside0 (((((((w99.setCell ⟨gb404, 0, none⟩ (.slice A0_0 l0_0.length c0_0)).setCell ⟨gb404, 1, none⟩ (.slice A0_1 l0_1.length c0_1)).setCell ⟨gb404, 2, none⟩ (.slice A0_2 l0_2.length c0_2)).setCell ⟨gb404, 3, none⟩ (.int .i64 a0_3)).setCell ⟨gb404, 4, none⟩ (.int .i64 a0_4)).setCell ⟨gb404, 5, none⟩ (.int .i64 a0_5)).heap[gb399]? = some (.cells #[.int .i64 a2_0, .int .i64 a2_1, .int .i64 a2_2, .int .i64 a2_3, .int .i64 a2_4, .int .i64 a2_5, .int .i64 a2_6] 56 (0, 0))) := ⟨by (with_reducible repeat (first | refine bkN ?_ _ | refine bkD ?_ | refine bkA ?_ _)); refine blk_far ?_ NB399_404.out _; (with_reducible repeat (first | refine bkN ?_ _ | refine bkD ?_ | refine bkA ?_ _)); refine blk_far ?_ NB399_404.out _; (with_reducible repeat (first | refine bkN ?_ _ | refine bkD ?_ | refine bkA ?_ _)); refine blk_far ?_ NB399_404.out _; (with_reducible repeat (first | refine bkN ?_ _ | refine bkD ?_ | refine bkA ?_ _)); refine blk_far ?_ NB399_404.out _; (with_reducible repeat (first | refine bkN ?_ _ | refine bkD ?_ | refine bkA ?_ _)); refine blk_far ?_ NB399_404.out _; (with_reducible repeat (first | refine bkN ?_ _ | refine bkD ?_ | refine bkA ?_ _)); refine blk_far ?_ NB399_404.out _; (with_reducible repeat (first | refine bkN ?_ _ | refine bkD ?_ | refine bkA ?_ _)); exact BK399.out⟩
      have n3_ : Aside0 (((((((w99.setCell ⟨gb404, 0, none⟩ (.slice A0_0 l0_0.length c0_0)).setCell ⟨gb404, 1, none⟩ (.slice A0_1 l0_1.length c0_1)).setCell ⟨gb404, 2, none⟩ (.slice A0_2 l0_2.length c0_2)).setCell ⟨gb404, 3, none⟩ (.int .i64 a0_3)).setCell ⟨gb404, 4, none⟩ (.int .i64 a0_4)).setCell ⟨gb404, 5, none⟩ (.int .i64 a0_5)).heap[gb404]? = some (.cells #[.slice A0_0 l0_0.length c0_0, .slice A0_1 l0_1.length c0_1, .slice A0_2 l0_2.length c0_2, .int .i64 a0_3, .int .i64 a0_4, .int .i64 a0_5] 26 (0, 0))) := ⟨by (with_reducible repeat (first | refine bkN ?_ _ | refine bkD ?_ | refine bkA ?_ _)); refine blk_put (cs := #[.slice A0_0 l0_0.length c0_0, .slice A0_1 l0_1.length c0_1, .slice A0_2 l0_2.length c0_2, .int .i64 a0_3, .int .i64 a0_4, .int .i64 0]) ?_ 5 _ rfl; (with_reducible repeat (first | refine bkN ?_ _ | refine bkD ?_ | refine bkA ?_ _)); refine blk_put (cs := #[.slice A0_0 l0_0.length c0_0, .slice A0_1 l0_1.length c0_1, .slice A0_2 l0_2.length c0_2, .int .i64 a0_3, .int .i64 0, .int .i64 0]) ?_ 4 _ rfl; (with_reducible repeat (first | refine bkN ?_ _ | refine bkD ?_ | refine bkA ?_ _)); refine blk_put (cs := #[.slice A0_0 l0_0.length c0_0, .slice A0_1 l0_1.length c0_1, .slice A0_2 l0_2.length c0_2, .int .i64 0, .int .i64 0, .int .i64 0]) ?_ 3 _ rfl; (with_reducible repeat (first | refine bkN ?_ _ | refine bkD ?_ | refine bkA ?_ _)); refine blk_put (cs := #[.slice A0_0 l0_0.length c0_0, .slice A0_1 l0_1.length c0_1, .slice none 0 0, .int .i64 0, .int .i64 0, .int .i64 0]) ?_ 2 _ rfl; (with_reducible repeat (first | refine bkN ?_ _ | refine bkD ?_ | refine bkA ?_ _)); refine blk_put (cs := #[.slice A0_0 l0_0.length c0_0, .slice none 0 0, .slice none 0 0, .int .i64 0, .int .i64 0, .int .i64 0]) ?_ 1 _ rfl; (with_reducible repeat (first | refine bkN ?_ _ | refine bkD ?_ | refine bkA ?_ _)); refine blk_put (cs := #[.slice none 0 0, .slice none 0 0, .slice none 0 0, .int .i64 0, .int .i64 0, .int .i64 0]) ?_ 0 _ rfl; (with_reducible repeat (first | refine bkN ?_ _ | refine bkD ?_ | refine bkA ?_ _)); exact BK404.out⟩
      have n4_ : Aside0 (Below w.heap.size w ((((((w99.setCell ⟨gb404, 0, none⟩ (.slice A0_0 l0_0.length c0_0)).setCell ⟨gb404, 1, none⟩ (.slice A0_1 l0_1.length c0_1)).setCell ⟨gb404, 2, none⟩ (.slice A0_2 l0_2.length c0_2)).setCell ⟨gb404, 3, none⟩ (.int .i64 a0_3)).setCell ⟨gb404, 4, none⟩ (.int .i64 a0_4)).setCell ⟨gb404, 5, none⟩ (.int .i64 a0_5))) := ⟨by repeat (first | (with_reducible first | exact HB.out | apply blA | apply blN | apply blD | refine blS ?_ GE397.out | refine blS ?_ GE398.out | refine blS ?_ GE399.out | refine blS ?_ GE404.out) | exact HB.out)⟩
      (try clear BK397)
      (try clear BK398)
      (try clear BK399)
      (try clear BK404)
      (try clear HB)
      generalize ((((((w99.setCell ⟨gb404, 0, none⟩ (.slice A0_0 l0_0.length c0_0)).setCell ⟨gb404, 1, none⟩ (.slice A0_1 l0_1.length c0_1)).setCell ⟨gb404, 2, none⟩ (.slice A0_2 l0_2.length c0_2)).setCell ⟨gb404, 3, none⟩ (.int .i64 a0_3)).setCell ⟨gb404, 4, none⟩ (.int .i64 a0_4)).setCell ⟨gb404, 5, none⟩ (.int .i64 a0_5)) = w104 at n0_ n1_ n2_ n3_ n4_ ⊢
      have BK397 := n0_
      have BK398 := n1_
      have BK399 := n2_
      have BK404 := n3_
      have HB := n4_
      clear n0_ n1_ n2_ n3_ n4_
      have n0_ := Aside0.mk (bkD BK397.out)
      have n1_ := Aside0.mk (bkD BK398.out)
      have n2_ := Aside0.mk (bkD BK399.out)
      have n3_ := Aside0.mk (bkD BK404.out)
      have n4_ := Aside0.mk (blD HB.out)
      clear BK397
      clear BK398
      clear BK399
      clear BK404
      clear HB
      have BK397 := n0_
      have BK398 := n1_
      have BK399 := n2_
      have BK404 := n3_
      have HB := n4_
      clear n0_ n1_ n2_ n3_ n4_
      refine start_ (n := 8) (S := fun w' => w'.cell? ⟨gb397, 0, none⟩ = some (.slice A0_0 l0_0.length c0_0) ∧ w'.cell? ⟨gb397, 1, none⟩ = some (.slice A0_1 l0_1.length c0_1) ∧ w'.cell? ⟨gb397, 2, none⟩ = some (.slice A0_2 l0_2.length c0_2) ∧ w'.cell? ⟨gb397, 3, none⟩ = some (.int .i64 a0_3) ∧ w'.cell? ⟨gb397, 4, none⟩ = some (.int .i64 a0_4) ∧ w'.cell? ⟨gb397, 5, none⟩ = some (.int .i64 a0_5) ∧ w'.cell? ⟨gb398, 0, none⟩ = some (.int .i64 a1_0) ∧ w'.cell? ⟨gb398, 1, none⟩ = some (.int .i64 a1_1) ∧ w'.cell? ⟨gb398, 2, none⟩ = some (.int .i64 a1_2) ∧ w'.cell? ⟨gb398, 3, none⟩ = some (.int .i64 a1_3) ∧ w'.cell? ⟨gb398, 4, none⟩ = some (.int .i64 a1_4)) (ds := []) #[false, false, false, false, false, false, false, false] (by kernel_rfl) rfl rfl ⟨(bkC BK397.out 0).trans rfl, (bkC BK397.out 1).trans rfl, (bkC BK397.out 2).trans rfl, (bkC BK397.out 3).trans rfl, (bkC BK397.out 4).trans rfl, (bkC BK397.out 5).trans rfl, (bkC BK398.out 0).trans rfl, (bkC BK398.out 1).trans rfl, (bkC BK398.out 2).trans rfl, (bkC BK398.out 3).trans rfl, (bkC BK398.out 4).trans rfl⟩ (fun hHeld => ?_); refine with_tabW hopmeshlaw05_GeometryWalls.tab11 hopmeshlaw05_GeometryWalls.bits11 (fun HT_ HW_ => ?_)
      generalize w104.drew = w105 at BK397 BK398 BK399 BK404 HB hHeld ⊢
      refine pure_ (i := 0) (N := some 47) (v := ?_) (a' := ?_) #[true, false, false, false, false, false, false, false] rfl rfl (any_of HT_.out (by kernel_rfl)) (fun _ _ _ h => h) (Or.inl ⟨by rfl, ?_⟩) ?_ ?_
      rotate_left
      ·intro w'
       go_simp
       with_reducible rfl
      rotate_left
      ·simp only [Act.put, List.setIfInBounds_toArray, List.set_cons_zero, List.set_cons_succ, i64_w, i32_w]
       rfl
      refine take_ (i := 1) (N := some 48) (v := ?_) (a' := ?_) #[true, true, false, false, false, false, false, false] rfl rfl (take_ofW HT_.out HW_.out (by kernel_rfl)) (fun _ _ _ h => h) (Or.inl ⟨by rfl, ?_⟩) hHeld ?_ ?_
      rotate_left
      ·rintro w' ⟨s0, s1, s2, s3, s4, s5, s6, s7, s8, s9, s10⟩
       go_simp
       with_reducible rfl
      rotate_left
      ·simp only [Act.put, List.setIfInBounds_toArray, List.set_cons_zero, List.set_cons_succ, i64_w, i32_w]
       rfl
      refine take_ (i := 3) (N := some 50) (v := ?_) (a' := ?_) #[true, true, false, true, false, false, false, false] rfl rfl (take_ofW HT_.out HW_.out (by kernel_rfl)) (fun _ _ _ h => h) (Or.inl ⟨by rfl, ?_⟩) hHeld ?_ ?_
      rotate_left
      ·rintro w' ⟨s0, s1, s2, s3, s4, s5, s6, s7, s8, s9, s10⟩
       go_simp
       with_reducible rfl
      rotate_left
      ·simp only [Act.put, List.setIfInBounds_toArray, List.set_cons_zero, List.set_cons_succ, i64_w, i32_w]
       rfl
      refine join_ (σ := Value × Value) 3 #[true, true, true, true, true, false, false, false] (fun s_ => [(49, s_.1), (51, s_.2)]) (fun s_ w' => (w'.cell? ⟨gb397, 0, none⟩ = some (.slice A0_0 l0_0.length c0_0) ∧ w'.cell? ⟨gb397, 1, none⟩ = some (.slice A0_1 l0_1.length c0_1) ∧ w'.cell? ⟨gb397, 2, none⟩ = some (.slice A0_2 l0_2.length c0_2) ∧ w'.cell? ⟨gb397, 3, none⟩ = some (.int .i64 a0_3) ∧ w'.cell? ⟨gb397, 4, none⟩ = some (.int .i64 a0_4) ∧ w'.cell? ⟨gb397, 5, none⟩ = some (.int .i64 a0_5) ∧ w'.cell? ⟨gb398, 0, none⟩ = some (.int .i64 a1_0) ∧ w'.cell? ⟨gb398, 1, none⟩ = some (.int .i64 a1_1) ∧ w'.cell? ⟨gb398, 2, none⟩ = some (.int .i64 a1_2) ∧ w'.cell? ⟨gb398, 3, none⟩ = some (.int .i64 a1_3) ∧ w'.cell? ⟨gb398, 4, none⟩ = some (.int .i64 a1_4)) ∧ (Kd.R k47 47 w' w.heap.size (fun k_ => some k_ ≠ (s_.2 : Value).ownBlock ∧ k_ ≠ gb398) s_.1 t405) ∧ (Kd.R k47 47 w' w.heap.size (fun k_ => some k_ ≠ (s_.1 : Value).ownBlock ∧ k_ ≠ gb398) s_.2 y408) ∧ (w'.heap[gb397]? = some (.cells #[.slice A0_0 l0_0.length c0_0, .slice A0_1 l0_1.length c0_1, .slice A0_2 l0_2.length c0_2, .int .i64 a0_3, .int .i64 a0_4, .int .i64 a0_5] 26 (0, 0))) ∧ (w'.heap[gb398]? = some (.cells #[.int .i64 a1_0, .int .i64 a1_1, .int .i64 a1_2, .int .i64 a1_3, .int .i64 a1_4] 47 (0, 0))) ∧ (w'.heap[gb399]? = some (.cells #[.int .i64 a2_0, .int .i64 a2_1, .int .i64 a2_2, .int .i64 a2_3, .int .i64 a2_4, .int .i64 a2_5, .int .i64 a2_6] 56 (0, 0))) ∧ (w'.heap[gb404]? = some (.cells #[.slice A0_0 l0_0.length c0_0, .slice A0_1 l0_1.length c0_1, .slice A0_2 l0_2.length c0_2, .int .i64 a0_3, .int .i64 a0_4, .int .i64 a0_5] 26 (0, 0))) ∧ (Below w.heap.size w w')) ?_ ?_
      rotate_left
      ·intro hCont
       refine two_ (i := 2) (j := 4) (Ni := some 49) (Nj := some 51) #[true, true, true, true, false, false, false, false] #[true, true, false, true, true, false, false, false] rfl rfl rfl rfl (two_of HT_.out (by kernel_rfl)) (by decide) (by decide) (fun K hK => ?_) (fun K hK => ?_)
       rotate_left
       ·skip
        refine Kd.R_lit_step k47 _ 47 ?hg (N := 51) ?hd (xs := ([(⟨(⟨a1_0, a1_1⟩ : S28), (⟨a1_2, a1_3⟩ : S28), a1_4⟩ : S47)] : List (S47))) (inner := [.int .i64 a1_0, .int .i64 a1_1, .int .i64 a1_2, .int .i64 a1_3, .int .i64 a1_4]) (ok := fun _ => True) (okp := fun _ => True) ?hr ?hp (fun _ hk => hk) trivial (Below.refl _ _) (Nat.le_refl _) (by simp) ?_; (case hd => rfl); (case hg => rfl); (case hr => first | (go_simp; done) | (go_simp; rfl)); (case hp => exact (Reps.c5 (show Kd.M k47 _ _ _ (⟨(⟨a1_0, a1_1⟩ : S28), (⟨a1_2, a1_3⟩ : S28), a1_4⟩ : S47) [.int .i64 a1_0, .int .i64 a1_1, .int .i64 a1_2, .int .i64 a1_3, .int .i64 a1_4] from (k47_mkM _ _ _ (⟨(⟨a1_0, a1_1⟩ : S28), (⟨a1_2, a1_3⟩ : S28), a1_4⟩ : S47) )) (Reps.none _ _)))
        intro v409 w106 ho107 hb hg_ hnew_
        clear hg_ hnew_
        (first | rw [← Ny408.out] at ho107 | (simp only [Int.reduceToNat] at ho107; rw [← Ny408.out] at ho107))
        have n0_ := Aside0.mk (Kd.R_lower (Kd.R_newB ho107 (g := gb398) (o := .cells #[.int .i64 a1_0, .int .i64 a1_1, .int .i64 a1_2, .int .i64 a1_3, .int .i64 a1_4] 47 (0, 0)) (by (with_reducible repeat (first | refine bkN ?_ _ | refine bkD ?_ | refine bkA ?_ _)); exact BK398.out)) (below_size (by repeat (first | (with_reducible first | exact HB.out | apply blA | apply blN | apply blD | refine blS ?_ GE397.out | refine blS ?_ GE398.out | refine blS ?_ GE399.out | refine blS ?_ GE404.out) | exact HB.out))))
        have n1_ := Aside0.mk (bkB (g := gb397) (o := .cells #[.slice A0_0 l0_0.length c0_0, .slice A0_1 l0_1.length c0_1, .slice A0_2 l0_2.length c0_2, .int .i64 a0_3, .int .i64 a0_4, .int .i64 a0_5] 26 (0, 0)) (by (with_reducible repeat (first | refine bkN ?_ _ | refine bkD ?_ | refine bkA ?_ _)); exact BK397.out) hb)
        have n2_ := Aside0.mk (bkB (g := gb398) (o := .cells #[.int .i64 a1_0, .int .i64 a1_1, .int .i64 a1_2, .int .i64 a1_3, .int .i64 a1_4] 47 (0, 0)) (by (with_reducible repeat (first | refine bkN ?_ _ | refine bkD ?_ | refine bkA ?_ _)); exact BK398.out) hb)
        have n3_ := Aside0.mk (bkB (g := gb399) (o := .cells #[.int .i64 a2_0, .int .i64 a2_1, .int .i64 a2_2, .int .i64 a2_3, .int .i64 a2_4, .int .i64 a2_5, .int .i64 a2_6] 56 (0, 0)) (by (with_reducible repeat (first | refine bkN ?_ _ | refine bkD ?_ | refine bkA ?_ _)); exact BK399.out) hb)
        have n4_ := Aside0.mk (bkB (g := gb404) (o := .cells #[.slice A0_0 l0_0.length c0_0, .slice A0_1 l0_1.length c0_1, .slice A0_2 l0_2.length c0_2, .int .i64 a0_3, .int .i64 a0_4, .int .i64 a0_5] 26 (0, 0)) (by (with_reducible repeat (first | refine bkN ?_ _ | refine bkD ?_ | refine bkA ?_ _)); exact BK404.out) hb)
        have n5_ := Aside0.mk (below_step (by repeat (first | (with_reducible first | exact HB.out | apply blA | apply blN | apply blD | refine blS ?_ GE397.out | refine blS ?_ GE398.out | refine blS ?_ GE399.out | refine blS ?_ GE404.out) | exact HB.out)) hb)
        clear BK397
        clear BK398
        clear BK399
        clear BK404
        clear HB
        have HO410 := n0_
        have BK397 := n1_
        have BK398 := n2_
        have BK399 := n3_
        have BK404 := n4_
        have HB := n5_
        clear n0_ n1_ n2_ n3_ n4_ n5_
        clear hb ho107
        refine hK.out _ _ ⟨(bkC BK397.out 0).trans rfl, (bkC BK397.out 1).trans rfl, (bkC BK397.out 2).trans rfl, (bkC BK397.out 3).trans rfl, (bkC BK397.out 4).trans rfl, (bkC BK397.out 5).trans rfl, (bkC BK398.out 0).trans rfl, (bkC BK398.out 1).trans rfl, (bkC BK398.out 2).trans rfl, (bkC BK398.out 3).trans rfl, (bkC BK398.out 4).trans rfl⟩ (fun hHeld => ?_)
        clear hK K
        refine norm_ (a' := ?_) ?_ ?_
        rotate_left
        ·show Act.put _ (some 51) _ = _
         simp only [Act.put, List.setIfInBounds_toArray, List.set_cons_zero, List.set_cons_succ, i64_w, i32_w]
         rfl
        refine one_ (i := 2) (N := some 49) #[true, true, true, true, true, false, false, false] rfl rfl (one_of HT_.out (by kernel_rfl)) (by decide) (fun K hK => ?_)
        refine goes_ Try.func32 (by kernel_rfl) rfl #[.slice A0_2 l0_2.length c0_2] (by rfl) rfl rfl (by (try simp only [List.map_toArray, List.map_cons, List.map_nil]); first | done | rfl | (simp only [List.length_drop, List.length_take]; rfl)) ?_
        with_reducible refine (slices_Clone_api_Wall_api_Wall.calls _ _ l0_2 t405 _ ?side1 ?side2 A37.out).mono ?_
        (case side1 => repeat (first | exact (Kd.C_below HR0_2.out HB.out) | (with_reducible refine Kd.C_alloc ?_ _) | (with_reducible refine Kd.C_drewN ?_ _) | (with_reducible refine Kd.C_drew ?_)))
        (case side2 => exact HC0_2.out)
        rintro e w108 ⟨v406, rfl, ho0, hb⟩
        refine ⟨_, rfl, ?_⟩
        have n0_ := Aside0.mk (Kd.R_elder' (by (with_reducible repeat (first | apply Kd.R_alloc | apply Kd.R_drewN | apply Kd.R_drew)); exact HO410.out) (Kd.R_base ho0) hb)
        have n1_ := Aside0.mk (Kd.R_lower (Kd.R_newB (Kd.R_new' ho0 (Kd.R_lt (by (with_reducible repeat (first | apply Kd.R_alloc | apply Kd.R_drewN | apply Kd.R_drew)); exact HO410.out))) (g := gb398) (o := .cells #[.int .i64 a1_0, .int .i64 a1_1, .int .i64 a1_2, .int .i64 a1_3, .int .i64 a1_4] 47 (0, 0)) (by (with_reducible repeat (first | refine bkN ?_ _ | refine bkD ?_ | refine bkA ?_ _)); exact BK398.out)) (below_size (by repeat (first | (with_reducible first | exact HB.out | apply blA | apply blN | apply blD | refine blS ?_ GE397.out | refine blS ?_ GE398.out | refine blS ?_ GE399.out | refine blS ?_ GE404.out) | exact HB.out))))
        have n2_ := Aside0.mk (bkB (g := gb397) (o := .cells #[.slice A0_0 l0_0.length c0_0, .slice A0_1 l0_1.length c0_1, .slice A0_2 l0_2.length c0_2, .int .i64 a0_3, .int .i64 a0_4, .int .i64 a0_5] 26 (0, 0)) (by (with_reducible repeat (first | refine bkN ?_ _ | refine bkD ?_ | refine bkA ?_ _)); exact BK397.out) hb)
        have n3_ := Aside0.mk (bkB (g := gb398) (o := .cells #[.int .i64 a1_0, .int .i64 a1_1, .int .i64 a1_2, .int .i64 a1_3, .int .i64 a1_4] 47 (0, 0)) (by (with_reducible repeat (first | refine bkN ?_ _ | refine bkD ?_ | refine bkA ?_ _)); exact BK398.out) hb)
        have n4_ := Aside0.mk (bkB (g := gb399) (o := .cells #[.int .i64 a2_0, .int .i64 a2_1, .int .i64 a2_2, .int .i64 a2_3, .int .i64 a2_4, .int .i64 a2_5, .int .i64 a2_6] 56 (0, 0)) (by (with_reducible repeat (first | refine bkN ?_ _ | refine bkD ?_ | refine bkA ?_ _)); exact BK399.out) hb)
        have n5_ := Aside0.mk (bkB (g := gb404) (o := .cells #[.slice A0_0 l0_0.length c0_0, .slice A0_1 l0_1.length c0_1, .slice A0_2 l0_2.length c0_2, .int .i64 a0_3, .int .i64 a0_4, .int .i64 a0_5] 26 (0, 0)) (by (with_reducible repeat (first | refine bkN ?_ _ | refine bkD ?_ | refine bkA ?_ _)); exact BK404.out) hb)
        have n6_ := Aside0.mk (below_step (by repeat (first | (with_reducible first | exact HB.out | apply blA | apply blN | apply blD | refine blS ?_ GE397.out | refine blS ?_ GE398.out | refine blS ?_ GE399.out | refine blS ?_ GE404.out) | exact HB.out)) hb)
        clear HO410
        clear BK397
        clear BK398
        clear BK399
        clear BK404
        clear HB
        have HO410 := n0_
        have HO407 := n1_
        have BK397 := n2_
        have BK398 := n3_
        have BK399 := n4_
        have BK404 := n5_
        have HB := n6_
        clear n0_ n1_ n2_ n3_ n4_ n5_ n6_
        (try clear hb)
        (try clear hb2)
        (try clear hk)
        (try clear hi)
        (try clear ho0)
        refine hK.out _ _ ⟨(bkC BK397.out 0).trans rfl, (bkC BK397.out 1).trans rfl, (bkC BK397.out 2).trans rfl, (bkC BK397.out 3).trans rfl, (bkC BK397.out 4).trans rfl, (bkC BK397.out 5).trans rfl, (bkC BK398.out 0).trans rfl, (bkC BK398.out 1).trans rfl, (bkC BK398.out 2).trans rfl, (bkC BK398.out 3).trans rfl, (bkC BK398.out 4).trans rfl⟩ (fun hHeld => ?_)
        clear hK K
        refine norm_ (a' := ?_) ?_ ?_
        rotate_left
        ·show Act.put _ (some 49) _ = _
         simp only [Act.put, List.setIfInBounds_toArray, List.set_cons_zero, List.set_cons_succ, i64_w, i32_w]
         rfl
        exact norm_ (by simp only [putAll, Act.put, List.setIfInBounds_toArray, List.set_cons_zero, List.set_cons_succ]) (hCont (v406, v409) _ ⟨hHeld, (by (with_reducible repeat (first | apply Kd.R_alloc | apply Kd.R_drewN | apply Kd.R_drew)); exact Kd.R_mono HO407.out (fun _ hk => ⟨hk.1.2, hk.2⟩)), (by (with_reducible repeat (first | apply Kd.R_alloc | apply Kd.R_drewN | apply Kd.R_drew)); exact Kd.R_mono HO410.out (fun _ hk => ⟨hk.2, hk.1.2⟩)), (by (with_reducible repeat (first | refine bkN ?_ _ | refine bkD ?_ | refine bkA ?_ _)); exact BK397.out), (by (with_reducible repeat (first | refine bkN ?_ _ | refine bkD ?_ | refine bkA ?_ _)); exact BK398.out), (by (with_reducible repeat (first | refine bkN ?_ _ | refine bkD ?_ | refine bkA ?_ _)); exact BK399.out), (by (with_reducible repeat (first | refine bkN ?_ _ | refine bkD ?_ | refine bkA ?_ _)); exact BK404.out), (by repeat (first | (with_reducible first | exact HB.out | apply blA | apply blN | apply blD | refine blS ?_ GE397.out | refine blS ?_ GE398.out | refine blS ?_ GE399.out | refine blS ?_ GE404.out) | exact HB.out))⟩)
       skip
       refine goes_ Try.func32 (by kernel_rfl) rfl #[.slice A0_2 l0_2.length c0_2] (by rfl) rfl rfl (by (try simp only [List.map_toArray, List.map_cons, List.map_nil]); first | done | rfl | (simp only [List.length_drop, List.length_take]; rfl)) ?_
       with_reducible refine (slices_Clone_api_Wall_api_Wall.calls _ _ l0_2 t405 _ ?side1 ?side2 A37.out).mono ?_
       (case side1 => repeat (first | exact (Kd.C_below HR0_2.out HB.out) | (with_reducible refine Kd.C_alloc ?_ _) | (with_reducible refine Kd.C_drewN ?_ _) | (with_reducible refine Kd.C_drew ?_)))
       (case side2 => exact HC0_2.out)
       rintro e w106 ⟨v406, rfl, ho0, hb⟩
       refine ⟨_, rfl, ?_⟩
       have n0_ := Aside0.mk (Kd.R_lower (Kd.R_newB ho0 (g := gb398) (o := .cells #[.int .i64 a1_0, .int .i64 a1_1, .int .i64 a1_2, .int .i64 a1_3, .int .i64 a1_4] 47 (0, 0)) (by (with_reducible repeat (first | refine bkN ?_ _ | refine bkD ?_ | refine bkA ?_ _)); exact BK398.out)) (below_size (by repeat (first | (with_reducible first | exact HB.out | apply blA | apply blN | apply blD | refine blS ?_ GE397.out | refine blS ?_ GE398.out | refine blS ?_ GE399.out | refine blS ?_ GE404.out) | exact HB.out))))
       have n1_ := Aside0.mk (bkB (g := gb397) (o := .cells #[.slice A0_0 l0_0.length c0_0, .slice A0_1 l0_1.length c0_1, .slice A0_2 l0_2.length c0_2, .int .i64 a0_3, .int .i64 a0_4, .int .i64 a0_5] 26 (0, 0)) (by (with_reducible repeat (first | refine bkN ?_ _ | refine bkD ?_ | refine bkA ?_ _)); exact BK397.out) hb)
       have n2_ := Aside0.mk (bkB (g := gb398) (o := .cells #[.int .i64 a1_0, .int .i64 a1_1, .int .i64 a1_2, .int .i64 a1_3, .int .i64 a1_4] 47 (0, 0)) (by (with_reducible repeat (first | refine bkN ?_ _ | refine bkD ?_ | refine bkA ?_ _)); exact BK398.out) hb)
       have n3_ := Aside0.mk (bkB (g := gb399) (o := .cells #[.int .i64 a2_0, .int .i64 a2_1, .int .i64 a2_2, .int .i64 a2_3, .int .i64 a2_4, .int .i64 a2_5, .int .i64 a2_6] 56 (0, 0)) (by (with_reducible repeat (first | refine bkN ?_ _ | refine bkD ?_ | refine bkA ?_ _)); exact BK399.out) hb)
       have n4_ := Aside0.mk (bkB (g := gb404) (o := .cells #[.slice A0_0 l0_0.length c0_0, .slice A0_1 l0_1.length c0_1, .slice A0_2 l0_2.length c0_2, .int .i64 a0_3, .int .i64 a0_4, .int .i64 a0_5] 26 (0, 0)) (by (with_reducible repeat (first | refine bkN ?_ _ | refine bkD ?_ | refine bkA ?_ _)); exact BK404.out) hb)
       have n5_ := Aside0.mk (below_step (by repeat (first | (with_reducible first | exact HB.out | apply blA | apply blN | apply blD | refine blS ?_ GE397.out | refine blS ?_ GE398.out | refine blS ?_ GE399.out | refine blS ?_ GE404.out) | exact HB.out)) hb)
       clear BK397
       clear BK398
       clear BK399
       clear BK404
       clear HB
       have HO407 := n0_
       have BK397 := n1_
       have BK398 := n2_
       have BK399 := n3_
       have BK404 := n4_
       have HB := n5_
       clear n0_ n1_ n2_ n3_ n4_ n5_
       (try clear hb)
       (try clear hb2)
       (try clear hk)
       (try clear hi)
       (try clear ho0)
       refine hK.out _ _ ⟨(bkC BK397.out 0).trans rfl, (bkC BK397.out 1).trans rfl, (bkC BK397.out 2).trans rfl, (bkC BK397.out 3).trans rfl, (bkC BK397.out 4).trans rfl, (bkC BK397.out 5).trans rfl, (bkC BK398.out 0).trans rfl, (bkC BK398.out 1).trans rfl, (bkC BK398.out 2).trans rfl, (bkC BK398.out 3).trans rfl, (bkC BK398.out 4).trans rfl⟩ (fun hHeld => ?_)
       clear hK K
       refine norm_ (a' := ?_) ?_ ?_
       rotate_left
       ·show Act.put _ (some 49) _ = _
        simp only [Act.put, List.setIfInBounds_toArray, List.set_cons_zero, List.set_cons_succ, i64_w, i32_w]
        rfl
       refine one_ (i := 4) (N := some 51) #[true, true, true, true, true, false, false, false] rfl rfl (one_of HT_.out (by kernel_rfl)) (by decide) (fun K hK => ?_)
       refine Kd.R_lit_step k47 _ 47 ?hg (N := 51) ?hd (xs := ([(⟨(⟨a1_0, a1_1⟩ : S28), (⟨a1_2, a1_3⟩ : S28), a1_4⟩ : S47)] : List (S47))) (inner := [.int .i64 a1_0, .int .i64 a1_1, .int .i64 a1_2, .int .i64 a1_3, .int .i64 a1_4]) (ok := fun _ => True) (okp := fun _ => True) ?hr ?hp (fun _ hk => hk) trivial (Below.refl _ _) (Nat.le_refl _) (by simp) ?_; (case hd => rfl); (case hg => rfl); (case hr => first | (go_simp; done) | (go_simp; rfl)); (case hp => exact (Reps.c5 (show Kd.M k47 _ _ _ (⟨(⟨a1_0, a1_1⟩ : S28), (⟨a1_2, a1_3⟩ : S28), a1_4⟩ : S47) [.int .i64 a1_0, .int .i64 a1_1, .int .i64 a1_2, .int .i64 a1_3, .int .i64 a1_4] from (k47_mkM _ _ _ (⟨(⟨a1_0, a1_1⟩ : S28), (⟨a1_2, a1_3⟩ : S28), a1_4⟩ : S47) )) (Reps.none _ _)))
       intro v409 w107 ho108 hb hg_ hnew_
       clear hg_ hnew_
       (first | rw [← Ny408.out] at ho108 | (simp only [Int.reduceToNat] at ho108; rw [← Ny408.out] at ho108))
       have n0_ := Aside0.mk (Kd.R_elder' (by (with_reducible repeat (first | apply Kd.R_alloc | apply Kd.R_drewN | apply Kd.R_drew)); exact HO407.out) (Kd.R_base ho108) hb)
       have n1_ := Aside0.mk (Kd.R_lower (Kd.R_newB (Kd.R_new' ho108 (Kd.R_lt (by (with_reducible repeat (first | apply Kd.R_alloc | apply Kd.R_drewN | apply Kd.R_drew)); exact HO407.out))) (g := gb398) (o := .cells #[.int .i64 a1_0, .int .i64 a1_1, .int .i64 a1_2, .int .i64 a1_3, .int .i64 a1_4] 47 (0, 0)) (by (with_reducible repeat (first | refine bkN ?_ _ | refine bkD ?_ | refine bkA ?_ _)); exact BK398.out)) (below_size (by repeat (first | (with_reducible first | exact HB.out | apply blA | apply blN | apply blD | refine blS ?_ GE397.out | refine blS ?_ GE398.out | refine blS ?_ GE399.out | refine blS ?_ GE404.out) | exact HB.out))))
       have n2_ := Aside0.mk (bkB (g := gb397) (o := .cells #[.slice A0_0 l0_0.length c0_0, .slice A0_1 l0_1.length c0_1, .slice A0_2 l0_2.length c0_2, .int .i64 a0_3, .int .i64 a0_4, .int .i64 a0_5] 26 (0, 0)) (by (with_reducible repeat (first | refine bkN ?_ _ | refine bkD ?_ | refine bkA ?_ _)); exact BK397.out) hb)
       have n3_ := Aside0.mk (bkB (g := gb398) (o := .cells #[.int .i64 a1_0, .int .i64 a1_1, .int .i64 a1_2, .int .i64 a1_3, .int .i64 a1_4] 47 (0, 0)) (by (with_reducible repeat (first | refine bkN ?_ _ | refine bkD ?_ | refine bkA ?_ _)); exact BK398.out) hb)
       have n4_ := Aside0.mk (bkB (g := gb399) (o := .cells #[.int .i64 a2_0, .int .i64 a2_1, .int .i64 a2_2, .int .i64 a2_3, .int .i64 a2_4, .int .i64 a2_5, .int .i64 a2_6] 56 (0, 0)) (by (with_reducible repeat (first | refine bkN ?_ _ | refine bkD ?_ | refine bkA ?_ _)); exact BK399.out) hb)
       have n5_ := Aside0.mk (bkB (g := gb404) (o := .cells #[.slice A0_0 l0_0.length c0_0, .slice A0_1 l0_1.length c0_1, .slice A0_2 l0_2.length c0_2, .int .i64 a0_3, .int .i64 a0_4, .int .i64 a0_5] 26 (0, 0)) (by (with_reducible repeat (first | refine bkN ?_ _ | refine bkD ?_ | refine bkA ?_ _)); exact BK404.out) hb)
       have n6_ := Aside0.mk (below_step (by repeat (first | (with_reducible first | exact HB.out | apply blA | apply blN | apply blD | refine blS ?_ GE397.out | refine blS ?_ GE398.out | refine blS ?_ GE399.out | refine blS ?_ GE404.out) | exact HB.out)) hb)
       clear HO407
       clear BK397
       clear BK398
       clear BK399
       clear BK404
       clear HB
       have HO407 := n0_
       have HO410 := n1_
       have BK397 := n2_
       have BK398 := n3_
       have BK399 := n4_
       have BK404 := n5_
       have HB := n6_
       clear n0_ n1_ n2_ n3_ n4_ n5_ n6_
       clear hb ho108
       refine hK.out _ _ ⟨(bkC BK397.out 0).trans rfl, (bkC BK397.out 1).trans rfl, (bkC BK397.out 2).trans rfl, (bkC BK397.out 3).trans rfl, (bkC BK397.out 4).trans rfl, (bkC BK397.out 5).trans rfl, (bkC BK398.out 0).trans rfl, (bkC BK398.out 1).trans rfl, (bkC BK398.out 2).trans rfl, (bkC BK398.out 3).trans rfl, (bkC BK398.out 4).trans rfl⟩ (fun hHeld => ?_)
       clear hK K
       refine norm_ (a' := ?_) ?_ ?_
       rotate_left
       ·show Act.put _ (some 51) _ = _
        simp only [Act.put, List.setIfInBounds_toArray, List.set_cons_zero, List.set_cons_succ, i64_w, i32_w]
        rfl
       exact norm_ (by simp only [putAll, Act.put, List.setIfInBounds_toArray, List.set_cons_zero, List.set_cons_succ]) (hCont (v406, v409) _ ⟨hHeld, (by (with_reducible repeat (first | apply Kd.R_alloc | apply Kd.R_drewN | apply Kd.R_drew)); exact Kd.R_mono HO407.out (fun _ hk => ⟨hk.2, hk.1.2⟩)), (by (with_reducible repeat (first | apply Kd.R_alloc | apply Kd.R_drewN | apply Kd.R_drew)); exact Kd.R_mono HO410.out (fun _ hk => ⟨hk.1.2, hk.2⟩)), (by (with_reducible repeat (first | refine bkN ?_ _ | refine bkD ?_ | refine bkA ?_ _)); exact BK397.out), (by (with_reducible repeat (first | refine bkN ?_ _ | refine bkD ?_ | refine bkA ?_ _)); exact BK398.out), (by (with_reducible repeat (first | refine bkN ?_ _ | refine bkD ?_ | refine bkA ?_ _)); exact BK399.out), (by (with_reducible repeat (first | refine bkN ?_ _ | refine bkD ?_ | refine bkA ?_ _)); exact BK404.out), (by repeat (first | (with_reducible first | exact HB.out | apply blA | apply blN | apply blD | refine blS ?_ GE397.out | refine blS ?_ GE398.out | refine blS ?_ GE399.out | refine blS ?_ GE404.out) | exact HB.out))⟩)
      rintro ⟨v406, v409⟩ w109 ⟨hS_, h0_, h1_, h2_, h3_, h4_, h5_, h6_⟩
      have n0_ : Aside0 (Kd.R k47 47 w109 w.heap.size (fun k_ => some k_ ≠ (v409 : Value).ownBlock ∧ k_ ≠ gb398) v406 t405) := ⟨h0_⟩
      have n1_ : Aside0 (Kd.R k47 47 w109 w.heap.size (fun k_ => some k_ ≠ (v406 : Value).ownBlock ∧ k_ ≠ gb398) v409 y408) := ⟨h1_⟩
      have n2_ : Aside0 (w109.heap[gb397]? = some (.cells #[.slice A0_0 l0_0.length c0_0, .slice A0_1 l0_1.length c0_1, .slice A0_2 l0_2.length c0_2, .int .i64 a0_3, .int .i64 a0_4, .int .i64 a0_5] 26 (0, 0))) := ⟨h2_⟩
      have n3_ : Aside0 (w109.heap[gb398]? = some (.cells #[.int .i64 a1_0, .int .i64 a1_1, .int .i64 a1_2, .int .i64 a1_3, .int .i64 a1_4] 47 (0, 0))) := ⟨h3_⟩
      have n4_ : Aside0 (w109.heap[gb399]? = some (.cells #[.int .i64 a2_0, .int .i64 a2_1, .int .i64 a2_2, .int .i64 a2_3, .int .i64 a2_4, .int .i64 a2_5, .int .i64 a2_6] 56 (0, 0))) := ⟨h4_⟩
      have n5_ : Aside0 (w109.heap[gb404]? = some (.cells #[.slice A0_0 l0_0.length c0_0, .slice A0_1 l0_1.length c0_1, .slice A0_2 l0_2.length c0_2, .int .i64 a0_3, .int .i64 a0_4, .int .i64 a0_5] 26 (0, 0))) := ⟨h5_⟩
      have n6_ : Aside0 (Below w.heap.size w w109) := ⟨h6_⟩
      clear BK397
      clear BK398
      clear BK399
      clear BK404
      clear HB
      clear h0_ h1_ h2_ h3_ h4_ h5_ h6_
      have HO407 := n0_
      have HO410 := n1_
      have BK397 := n2_
      have BK398 := n3_
      have BK399 := n4_
      have BK404 := n5_
      have HB := n6_
      clear n0_ n1_ n2_ n3_ n4_ n5_ n6_
      have hHeld : w109.cell? ⟨gb397, 0, none⟩ = some (.slice A0_0 l0_0.length c0_0) ∧ w109.cell? ⟨gb397, 1, none⟩ = some (.slice A0_1 l0_1.length c0_1) ∧ w109.cell? ⟨gb397, 2, none⟩ = some (.slice A0_2 l0_2.length c0_2) ∧ w109.cell? ⟨gb397, 3, none⟩ = some (.int .i64 a0_3) ∧ w109.cell? ⟨gb397, 4, none⟩ = some (.int .i64 a0_4) ∧ w109.cell? ⟨gb397, 5, none⟩ = some (.int .i64 a0_5) ∧ w109.cell? ⟨gb398, 0, none⟩ = some (.int .i64 a1_0) ∧ w109.cell? ⟨gb398, 1, none⟩ = some (.int .i64 a1_1) ∧ w109.cell? ⟨gb398, 2, none⟩ = some (.int .i64 a1_2) ∧ w109.cell? ⟨gb398, 3, none⟩ = some (.int .i64 a1_3) ∧ w109.cell? ⟨gb398, 4, none⟩ = some (.int .i64 a1_4) := hS_
      obtain ⟨Ao111, co111, eo111⟩ := Kd.R_slice HO410.out
      (first | subst eo111 | (injection eo111 with f1_ f2_ f3_; have f4_ := f1_.symm; have f5_ := f3_.symm; clear f1_ f2_ f3_; subst f4_; subst f5_))
      refine norm_ (a' := ?_) ?_ ?_
      rotate_left
      ·simp only [putAll, Act.put, List.setIfInBounds_toArray, List.set_cons_zero, List.set_cons_succ]
       rfl
      refine one_ (i := 5) (N := some 52) #[true, true, true, true, true, true, false, false] rfl rfl (one_of HT_.out (by kernel_rfl)) (by decide) (fun K hK => ?_)
      refine Kd.R_append_rows_step k47 (w0 := w) w.heap.size (by rfl) (.tmp 49) (.tmp 51) 24 47 (.agg #[(.int .i64 0), (.int .i64 0), (.int .i64 0), (.int .i64 0), (.int .i64 0)]) 40 rfl Try.underlying24 info47 rfl (by decide) (by omega) v406 t405 y408 _ _ _ (fun k_ => some k_ ≠ (.slice Ao111 y408.length co111 : Value).ownBlock ∧ k_ ≠ gb398) (fun _ => False) rfl rfl ?aO ?aR (fun _ _ h => h) (fun _ h => h.elim) ?aF ?aB ?aS ?aL ?_
      (case aR => repeat (first | exact (Kd.R_reads' HO410.out).2.2 | (with_reducible refine Kd.C_alloc ?_ _) | (with_reducible refine Kd.C_drewN ?_ _) | (with_reducible refine Kd.C_drew ?_)))
      (case aB => exact (by repeat (first | (with_reducible first | exact HB.out | apply blA | apply blN | apply blD | refine blS ?_ GE397.out | refine blS ?_ GE398.out | refine blS ?_ GE399.out | refine blS ?_ GE404.out) | exact HB.out)))
      (case aF => exact (fun k_ hk => ⟨Kd.fresh' (Kd.R_lt (by (with_reducible repeat (first | apply Kd.R_alloc | apply Kd.R_drewN | apply Kd.R_drew)); exact HO410.out)) k_ hk, Kd.freshB (g := gb398) (o := .cells #[.int .i64 a1_0, .int .i64 a1_1, .int .i64 a1_2, .int .i64 a1_3, .int .i64 a1_4] 47 (0, 0)) (by (with_reducible repeat (first | refine bkN ?_ _ | refine bkD ?_ | refine bkA ?_ _)); exact BK398.out) k_ hk⟩))
      (case aO => exact (by (with_reducible repeat (first | apply Kd.R_alloc | apply Kd.R_drewN | apply Kd.R_drew)); exact HO407.out))
      (case aS => exact (below_size (by repeat (first | (with_reducible first | exact HB.out | apply blA | apply blN | apply blD | refine blS ?_ GE397.out | refine blS ?_ GE398.out | refine blS ?_ GE399.out | refine blS ?_ GE404.out) | exact HB.out))))
      (case aL => have := LMc38.out; omega)
      intro v412 w110 ho hb hg hat
      rw [← Ny411.out] at ho
      have n0_ := Aside0.mk (blk_grown (g := gb397) (o := .cells #[.slice A0_0 l0_0.length c0_0, .slice A0_1 l0_1.length c0_1, .slice A0_2 l0_2.length c0_2, .int .i64 a0_3, .int .i64 a0_4, .int .i64 a0_5] 26 (0, 0)) (by (with_reducible repeat (first | refine bkN ?_ _ | refine bkD ?_ | refine bkA ?_ _)); exact BK397.out) hg (Kd.R_ne HO407.out BK397.out (by decide)))
      have n1_ := Aside0.mk (blk_grown (g := gb398) (o := .cells #[.int .i64 a1_0, .int .i64 a1_1, .int .i64 a1_2, .int .i64 a1_3, .int .i64 a1_4] 47 (0, 0)) (by (with_reducible repeat (first | refine bkN ?_ _ | refine bkD ?_ | refine bkA ?_ _)); exact BK398.out) hg (Kd.R_away HO407.out (fun _ hk => hk.2)))
      have n2_ := Aside0.mk (blk_grown (g := gb399) (o := .cells #[.int .i64 a2_0, .int .i64 a2_1, .int .i64 a2_2, .int .i64 a2_3, .int .i64 a2_4, .int .i64 a2_5, .int .i64 a2_6] 56 (0, 0)) (by (with_reducible repeat (first | refine bkN ?_ _ | refine bkD ?_ | refine bkA ?_ _)); exact BK399.out) hg (Kd.R_ne HO407.out BK399.out (by decide)))
      have n3_ := Aside0.mk (blk_grown (g := gb404) (o := .cells #[.slice A0_0 l0_0.length c0_0, .slice A0_1 l0_1.length c0_1, .slice A0_2 l0_2.length c0_2, .int .i64 a0_3, .int .i64 a0_4, .int .i64 a0_5] 26 (0, 0)) (by (with_reducible repeat (first | refine bkN ?_ _ | refine bkD ?_ | refine bkA ?_ _)); exact BK404.out) hg (Kd.R_ne HO407.out BK404.out (by decide)))
      have n4_ := Aside0.mk (Kd.R_after (ok := (fun k_ => k_ ≠ gb398)) (by (with_reducible repeat (first | apply Kd.R_alloc | apply Kd.R_drewN | apply Kd.R_drew)); exact Kd.R_mono HO410.out (fun _ hk => ⟨hk.2, hk.1⟩)) hg hat)
      have n5_ := Aside0.mk (hb)
      have n6_ := Aside0.mk (ho)
      clear BK397
      clear BK398
      clear BK399
      clear BK404
      clear HO410
      clear HB
      clear HO407
      have BK397 := n0_
      have BK398 := n1_
      have BK399 := n2_
      have BK404 := n3_
      have HO410 := n4_
      have HB := n5_
      have HO413 := n6_
      clear n0_ n1_ n2_ n3_ n4_ n5_ n6_
      clear ho hb hg hat
      obtain ⟨Ao112, co112, eo112⟩ := Kd.R_slice HO413.out
      (first | subst eo112 | (injection eo112 with f1_ f2_ f3_; have f4_ := f1_.symm; have f5_ := f3_.symm; clear f1_ f2_ f3_; subst f4_; subst f5_))
      refine hK.out _ _ ⟨(bkC BK397.out 0).trans rfl, (bkC BK397.out 1).trans rfl, (bkC BK397.out 2).trans rfl, (bkC BK397.out 3).trans rfl, (bkC BK397.out 4).trans rfl, (bkC BK397.out 5).trans rfl, (bkC BK398.out 0).trans rfl, (bkC BK398.out 1).trans rfl, (bkC BK398.out 2).trans rfl, (bkC BK398.out 3).trans rfl, (bkC BK398.out 4).trans rfl⟩ (fun hHeld => ?_)
      clear hK K
      refine norm_ (a' := ?_) ?_ ?_
      rotate_left
      ·show Act.put _ (some 52) _ = _
       simp only [Act.put, List.setIfInBounds_toArray, List.set_cons_zero, List.set_cons_succ, i64_w, i32_w]
       rfl
      refine pure_ (i := 6) (N := some 53) (v := ?_) (a' := ?_) #[true, true, true, true, true, true, true, false] rfl rfl (any_of HT_.out (by kernel_rfl)) (fun _ _ _ h => h) (Or.inl ⟨by rfl, ?_⟩) ?_ ?_
      rotate_left
      ·intro w'
       go_simp
       with_reducible rfl
      rotate_left
      ·simp only [Act.put, List.setIfInBounds_toArray, List.set_cons_zero, List.set_cons_succ, i64_w, i32_w]
       rfl
      refine one_ (i := 7) (N := none) #[true, true, true, true, true, true, true, true] rfl rfl (one_of HT_.out (by kernel_rfl)) (by decide) (fun K hK => ?_)
      have hs113 : w110.cell? ⟨gb404, 2, none⟩ = some (.slice A0_2 l0_2.length c0_2) := (bkC BK404.out 2).trans rfl
      have hfs113 := bkF BK404.out 2
      have hns113_0 := NB397_404.out
      have hns113_1 := NB398_404.out
      have hns113_2 := NB399_404.out
      have hms113_0 := NB404_397.out
      have hms113_1 := NB404_398.out
      have hms113_2 := NB404_399.out
      refine skip_ (w1 := ?_) (by rfl) rfl ?_ ?_
      rotate_left
      ·go_simp
       rfl
      refine hK.out _ _ ⟨((cell_far (p := ⟨gb404, _, none⟩) NB397_404.out _).trans (hHeld.1)), ((cell_far (p := ⟨gb404, _, none⟩) NB397_404.out _).trans (hHeld.2.1)), ((cell_far (p := ⟨gb404, _, none⟩) NB397_404.out _).trans (hHeld.2.2.1)), ((cell_far (p := ⟨gb404, _, none⟩) NB397_404.out _).trans (hHeld.2.2.2.1)), ((cell_far (p := ⟨gb404, _, none⟩) NB397_404.out _).trans (hHeld.2.2.2.2.1)), ((cell_far (p := ⟨gb404, _, none⟩) NB397_404.out _).trans (hHeld.2.2.2.2.2.1)), ((cell_far (p := ⟨gb404, _, none⟩) NB398_404.out _).trans (hHeld.2.2.2.2.2.2.1)), ((cell_far (p := ⟨gb404, _, none⟩) NB398_404.out _).trans (hHeld.2.2.2.2.2.2.2.1)), ((cell_far (p := ⟨gb404, _, none⟩) NB398_404.out _).trans (hHeld.2.2.2.2.2.2.2.2.1)), ((cell_far (p := ⟨gb404, _, none⟩) NB398_404.out _).trans (hHeld.2.2.2.2.2.2.2.2.2.1)), ((cell_far (p := ⟨gb404, _, none⟩) NB398_404.out _).trans (hHeld.2.2.2.2.2.2.2.2.2.2))⟩ (fun hHeld => ?_)
      clear hK K
      refine done_ (done_of HT_.out (by kernel_rfl)) ?_
      have hcz114_0 : w110.cell? ⟨gb404, 0, none⟩ = some (.slice A0_0 l0_0.length c0_0) := (bkC BK404.out 0).trans rfl
      have hcz114_1 : w110.cell? ⟨gb404, 1, none⟩ = some (.slice A0_1 l0_1.length c0_1) := (bkC BK404.out 1).trans rfl
      have hcz114_2 : w110.cell? ⟨gb404, 2, none⟩ = some (.slice A0_2 l0_2.length c0_2) := (bkC BK404.out 2).trans rfl
      have hcz114_3 : w110.cell? ⟨gb404, 3, none⟩ = some (.int .i64 a0_3) := (bkC BK404.out 3).trans rfl
      have hcz114_4 : w110.cell? ⟨gb404, 4, none⟩ = some (.int .i64 a0_4) := (bkC BK404.out 4).trans rfl
      have hcz114_5 : w110.cell? ⟨gb404, 5, none⟩ = some (.int .i64 a0_5) := (bkC BK404.out 5).trans rfl
      have hfz114_0 := bkF BK404.out 0
      have hfz114_1 := bkF BK404.out 1
      have hfz114_2 := bkF BK404.out 2
      have hfz114_3 := bkF BK404.out 3
      have hfz114_4 := bkF BK404.out 4
      have hfz114_5 := bkF BK404.out 5
      have hnb115 := NB399_398.out
      have hnc115 := NB398_399.out
      have hcz116_0 : w110.cell? ⟨gb399, 0, none⟩ = some (.int .i64 a2_0) := (bkC BK399.out 0).trans rfl
      have hcz116_1 : w110.cell? ⟨gb399, 1, none⟩ = some (.int .i64 a2_1) := (bkC BK399.out 1).trans rfl
      have hcz116_2 : w110.cell? ⟨gb399, 2, none⟩ = some (.int .i64 a2_2) := (bkC BK399.out 2).trans rfl
      have hcz116_3 : w110.cell? ⟨gb399, 3, none⟩ = some (.int .i64 a2_3) := (bkC BK399.out 3).trans rfl
      have hcz116_4 : w110.cell? ⟨gb399, 4, none⟩ = some (.int .i64 a2_4) := (bkC BK399.out 4).trans rfl
      have hcz116_5 : w110.cell? ⟨gb399, 5, none⟩ = some (.int .i64 a2_5) := (bkC BK399.out 5).trans rfl
      have hcz116_6 : w110.cell? ⟨gb399, 6, none⟩ = some (.int .i64 a2_6) := (bkC BK399.out 6).trans rfl
      have hfz116_0 := bkF BK399.out 0
      have hfz116_1 := bkF BK399.out 1
      have hfz116_2 := bkF BK399.out 2
      have hfz116_3 := bkF BK399.out 3
      have hfz116_4 := bkF BK399.out 4
      have hfz116_5 := bkF BK399.out 5
      have hfz116_6 := bkF BK399.out 6
      try go_wp2_with (first | ((with_reducible refine gate_callee (f := 23) rfl ?_); refine goesL_ (some 62) rfl rfl Try.func23 (by kernel_rfl) rfl #[.agg #[.slice A0_0 l0_0.length c0_0, .slice A0_1 l0_1.length c0_1, .slice Ao112 y411.length co112, .int .i64 a0_3, .int .i64 a0_4, .int .i64 a0_5], .agg #[.int .i64 a2_0, .int .i64 a2_1], .int .i64 a2_4, .agg #[.int .i64 a2_2, .int .i64 a2_3]] rfl (by (try simp only [List.map_toArray, List.map_cons, List.map_nil]); first | done | rfl | (simp only [List.length_drop, List.length_take]; rfl)) ?_; (with_reducible refine (geometry_At.calls kj24 _ _ l0_0 _ _ l0_1 _ _ y411 a0_3 a0_4 a0_5 a2_0 a2_1 a2_4 a2_2 a2_3 t414 t415 _ ?side1 ?side2 ?side3 ?side4 ?side5 ?side6 A39.out).mono ?_); (case side1 => exact Kd.C_below HR0_0.out (by repeat (first | (with_reducible first | exact HB.out | apply blA | apply blN | apply blD | refine blS ?_ GE397.out | refine blS ?_ GE398.out | refine blS ?_ GE399.out | refine blS ?_ GE404.out) | exact HB.out))); (case side2 => exact HC0_0.out); (case side3 => exact Kd.C_below HR0_1.out (by repeat (first | (with_reducible first | exact HB.out | apply blA | apply blN | apply blD | refine blS ?_ GE397.out | refine blS ?_ GE398.out | refine blS ?_ GE399.out | refine blS ?_ GE404.out) | exact HB.out))); (case side4 => exact HC0_1.out); (case side5 => refine (Kd.R_reads' (e := 47) (base := w.heap.size) (ok := fun k_ => (some k_ ≠ (.slice Ao111 y408.length co111 : Value).ownBlock ∧ k_ ≠ gb398)) (n := y411.length) (c := co112) ?_).2.2; exact (by (with_reducible repeat (first | apply Kd.R_alloc | apply Kd.R_drewN | apply Kd.R_drew)); exact (Kd.R_mono (Kd.R_far (p := ⟨gb404, 2, none⟩) (Kd.R_types HO413.out BK404.out (by decide)) (fun _ hk => hk.2) (.slice Ao112 y411.length co112)) (fun _ h_ => h_.1)))); (case side6 => exact (Kd.R_reads' HO413.out).2.1); rintro e w117 ⟨rfl, hb⟩; refine ⟨_, rfl, ?_⟩; have n0_ := Aside0.mk (Kd.R_below (by (with_reducible repeat (first | apply Kd.R_alloc | apply Kd.R_drewN | apply Kd.R_drew)); exact (Kd.R_mono (Kd.R_far (p := ⟨gb404, 2, none⟩) (Kd.R_types HO410.out BK404.out (by decide)) (fun _ hk => hk.2) (.slice Ao112 y411.length co112)) (fun _ h_ => h_.1))) hb); have n1_ := Aside0.mk (Kd.R_below (by (with_reducible repeat (first | apply Kd.R_alloc | apply Kd.R_drewN | apply Kd.R_drew)); exact (Kd.R_mono (Kd.R_far (p := ⟨gb404, 2, none⟩) (Kd.R_types HO413.out BK404.out (by decide)) (fun _ hk => hk.2) (.slice Ao112 y411.length co112)) (fun _ h_ => h_.1))) hb); have n2_ := Aside0.mk (bkB (g := gb397) (o := .cells #[.slice A0_0 l0_0.length c0_0, .slice A0_1 l0_1.length c0_1, .slice A0_2 l0_2.length c0_2, .int .i64 a0_3, .int .i64 a0_4, .int .i64 a0_5] 26 (0, 0)) (by (with_reducible repeat (first | refine bkN ?_ _ | refine bkD ?_ | refine bkA ?_ _)); refine blk_far ?_ NB397_404.out _; (with_reducible repeat (first | refine bkN ?_ _ | refine bkD ?_ | refine bkA ?_ _)); exact BK397.out) hb); have n3_ := Aside0.mk (bkB (g := gb398) (o := .cells #[.int .i64 a1_0, .int .i64 a1_1, .int .i64 a1_2, .int .i64 a1_3, .int .i64 a1_4] 47 (0, 0)) (by (with_reducible repeat (first | refine bkN ?_ _ | refine bkD ?_ | refine bkA ?_ _)); refine blk_far ?_ NB398_404.out _; (with_reducible repeat (first | refine bkN ?_ _ | refine bkD ?_ | refine bkA ?_ _)); exact BK398.out) hb); have n4_ := Aside0.mk (bkB (g := gb399) (o := .cells #[.int .i64 a2_0, .int .i64 a2_1, .int .i64 a2_2, .int .i64 a2_3, .int .i64 a2_4, .int .i64 a2_5, .int .i64 a2_6] 56 (0, 0)) (by (with_reducible repeat (first | refine bkN ?_ _ | refine bkD ?_ | refine bkA ?_ _)); refine blk_far ?_ NB399_404.out _; (with_reducible repeat (first | refine bkN ?_ _ | refine bkD ?_ | refine bkA ?_ _)); exact BK399.out) hb); have n5_ := Aside0.mk (bkB (g := gb404) (o := .cells #[.slice A0_0 l0_0.length c0_0, .slice A0_1 l0_1.length c0_1, .slice Ao112 y411.length co112, .int .i64 a0_3, .int .i64 a0_4, .int .i64 a0_5] 26 (0, 0)) (by (with_reducible repeat (first | refine bkN ?_ _ | refine bkD ?_ | refine bkA ?_ _)); refine blk_put (cs := #[.slice A0_0 l0_0.length c0_0, .slice A0_1 l0_1.length c0_1, .slice A0_2 l0_2.length c0_2, .int .i64 a0_3, .int .i64 a0_4, .int .i64 a0_5]) ?_ 2 _ rfl; (with_reducible repeat (first | refine bkN ?_ _ | refine bkD ?_ | refine bkA ?_ _)); exact BK404.out) hb); have n6_ := Aside0.mk (below_step (by repeat (first | (with_reducible first | exact HB.out | apply blA | apply blN | apply blD | refine blS ?_ GE397.out | refine blS ?_ GE398.out | refine blS ?_ GE399.out | refine blS ?_ GE404.out) | exact HB.out)) hb); clear HO410; clear HO413; clear BK397; clear BK398; clear BK399; clear BK404; clear HB; have HO410 := n0_; have HO413 := n1_; have BK397 := n2_; have BK398 := n3_; have BK399 := n4_; have BK404 := n5_; have HB := n6_; clear n0_ n1_ n2_ n3_ n4_ n5_ n6_; (try clear hb); (try clear hb2); (try clear hk); (try clear hi); have hcz118_0 : w117.cell? ⟨gb399, 0, none⟩ = some (.int .i64 a2_0) := (bkC BK399.out 0).trans rfl; have hcz118_1 : w117.cell? ⟨gb399, 1, none⟩ = some (.int .i64 a2_1) := (bkC BK399.out 1).trans rfl; have hcz118_2 : w117.cell? ⟨gb399, 2, none⟩ = some (.int .i64 a2_2) := (bkC BK399.out 2).trans rfl; have hcz118_3 : w117.cell? ⟨gb399, 3, none⟩ = some (.int .i64 a2_3) := (bkC BK399.out 3).trans rfl; have hcz118_4 : w117.cell? ⟨gb399, 4, none⟩ = some (.int .i64 a2_4) := (bkC BK399.out 4).trans rfl; have hcz118_5 : w117.cell? ⟨gb399, 5, none⟩ = some (.int .i64 a2_5) := (bkC BK399.out 5).trans rfl; have hcz118_6 : w117.cell? ⟨gb399, 6, none⟩ = some (.int .i64 a2_6) := (bkC BK399.out 6).trans rfl; have hfz118_0 := bkF BK399.out 0; have hfz118_1 := bkF BK399.out 1; have hfz118_2 := bkF BK399.out 2; have hfz118_3 := bkF BK399.out 3; have hfz118_4 := bkF BK399.out 4; have hfz118_5 := bkF BK399.out 5; have hfz118_6 := bkF BK399.out 6; have hcz119_0 : w117.cell? ⟨gb398, 0, none⟩ = some (.int .i64 a1_0) := (bkC BK398.out 0).trans rfl; have hcz119_1 : w117.cell? ⟨gb398, 1, none⟩ = some (.int .i64 a1_1) := (bkC BK398.out 1).trans rfl; have hcz119_2 : w117.cell? ⟨gb398, 2, none⟩ = some (.int .i64 a1_2) := (bkC BK398.out 2).trans rfl; have hcz119_3 : w117.cell? ⟨gb398, 3, none⟩ = some (.int .i64 a1_3) := (bkC BK398.out 3).trans rfl; have hcz119_4 : w117.cell? ⟨gb398, 4, none⟩ = some (.int .i64 a1_4) := (bkC BK398.out 4).trans rfl; have hfz119_0 := bkF BK398.out 0; have hfz119_1 := bkF BK398.out 1; have hfz119_2 := bkF BK398.out 2; have hfz119_3 := bkF BK398.out 3; have hfz119_4 := bkF BK398.out 4) | ((with_reducible refine gate_callee (f := 27) rfl ?_); refine goesL_ (some 79) rfl rfl Try.func27 (by kernel_rfl) rfl #[.agg #[.int .i64 a2_0, .int .i64 a2_1], .agg #[.int .i64 a2_2, .int .i64 a2_3], .agg #[.int .i64 a1_0, .int .i64 a1_1, .int .i64 a1_2, .int .i64 a1_3, .int .i64 a1_4]] rfl (by (try simp only [List.map_toArray, List.map_cons, List.map_nil]); first | done | rfl | (simp only [List.length_drop, List.length_take]; rfl)) ?_; (with_reducible refine (geometry_Crosses.calls kj24 a2_0 a2_1 a2_2 a2_3 a1_0 a1_1 a1_2 a1_3 a1_4 false _ A41.out).mono ?_); rintro e w120 ⟨rfl, hb⟩; refine ⟨_, rfl, ?_⟩; have n0_ := Aside0.mk (Kd.R_below (by (with_reducible repeat (first | apply Kd.R_alloc | apply Kd.R_drewN | apply Kd.R_drew)); exact HO410.out) hb); have n1_ := Aside0.mk (Kd.R_below (by (with_reducible repeat (first | apply Kd.R_alloc | apply Kd.R_drewN | apply Kd.R_drew)); exact HO413.out) hb); have n2_ := Aside0.mk (bkB (g := gb397) (o := .cells #[.slice A0_0 l0_0.length c0_0, .slice A0_1 l0_1.length c0_1, .slice A0_2 l0_2.length c0_2, .int .i64 a0_3, .int .i64 a0_4, .int .i64 a0_5] 26 (0, 0)) (by (with_reducible repeat (first | refine bkN ?_ _ | refine bkD ?_ | refine bkA ?_ _)); exact BK397.out) hb); have n3_ := Aside0.mk (bkB (g := gb398) (o := .cells #[.int .i64 a1_0, .int .i64 a1_1, .int .i64 a1_2, .int .i64 a1_3, .int .i64 a1_4] 47 (0, 0)) (by (with_reducible repeat (first | refine bkN ?_ _ | refine bkD ?_ | refine bkA ?_ _)); exact BK398.out) hb); have n4_ := Aside0.mk (bkB (g := gb399) (o := .cells #[.int .i64 a2_0, .int .i64 a2_1, .int .i64 a2_2, .int .i64 a2_3, .int .i64 a2_4, .int .i64 a2_5, .int .i64 a2_6] 56 (0, 0)) (by (with_reducible repeat (first | refine bkN ?_ _ | refine bkD ?_ | refine bkA ?_ _)); exact BK399.out) hb); have n5_ := Aside0.mk (bkB (g := gb404) (o := .cells #[.slice A0_0 l0_0.length c0_0, .slice A0_1 l0_1.length c0_1, .slice Ao112 y411.length co112, .int .i64 a0_3, .int .i64 a0_4, .int .i64 a0_5] 26 (0, 0)) (by (with_reducible repeat (first | refine bkN ?_ _ | refine bkD ?_ | refine bkA ?_ _)); exact BK404.out) hb); have n6_ := Aside0.mk (below_step (by repeat (first | (with_reducible first | exact HB.out | apply blA | apply blN | apply blD | refine blS ?_ GE397.out | refine blS ?_ GE398.out | refine blS ?_ GE399.out | refine blS ?_ GE404.out) | exact HB.out)) hb); clear HO410; clear HO413; clear BK397; clear BK398; clear BK399; clear BK404; clear HB; have HO410 := n0_; have HO413 := n1_; have BK397 := n2_; have BK398 := n3_; have BK399 := n4_; have BK404 := n5_; have HB := n6_; clear n0_ n1_ n2_ n3_ n4_ n5_ n6_; (try clear hb); (try clear hb2); (try clear hk); (try clear hi)))
      go_ret
      exact ⟨by first | rfl | (simp [errW_none, errW_some] <;> rfl) | (simp [*, errW_none, errW_some] <;> rfl), by repeat (first | (with_reducible first | exact HB.out | apply blA | apply blN | apply blD | refine blS ?_ GE397.out | refine blS ?_ GE398.out | refine blS ?_ GE399.out | refine blS ?_ GE404.out) | exact HB.out)⟩
     subst c42
     have H1 : (if a1_4 = 1000 then (some (t414 == t402)) else (some (decide (t414 ≤ t402)))) = some r := by rw [if_pos rfl] at H; exact H
     clear H
     have H := H1
     clear H1
     by_cases c43 : a1_4 = 1000
     rotate_left
     ·rw [if_neg c43] at H
      have c43b0 : (a1_4 == 1000) = false := beq_eq_false_iff_ne.mpr c43
      have c43b1 : (a1_4 != 1000) = true := bne_iff_ne.mpr c43
      obtain rfl := Option.some.inj H
      have hnb70 := NB397_398.out
      have hnc70 := NB398_397.out
      have hnb71 := NB397_399.out
      have hnc71 := NB399_397.out
      have hcz72_0 : wc.cell? ⟨gb397, 0, none⟩ = some (.slice A0_0 l0_0.length c0_0) := (bkC BK397.out 0).trans rfl
      have hcz72_1 : wc.cell? ⟨gb397, 1, none⟩ = some (.slice A0_1 l0_1.length c0_1) := (bkC BK397.out 1).trans rfl
      have hcz72_2 : wc.cell? ⟨gb397, 2, none⟩ = some (.slice A0_2 l0_2.length c0_2) := (bkC BK397.out 2).trans rfl
      have hcz72_3 : wc.cell? ⟨gb397, 3, none⟩ = some (.int .i64 a0_3) := (bkC BK397.out 3).trans rfl
      have hcz72_4 : wc.cell? ⟨gb397, 4, none⟩ = some (.int .i64 a0_4) := (bkC BK397.out 4).trans rfl
      have hcz72_5 : wc.cell? ⟨gb397, 5, none⟩ = some (.int .i64 a0_5) := (bkC BK397.out 5).trans rfl
      have hfz72_0 := bkF BK397.out 0
      have hfz72_1 := bkF BK397.out 1
      have hfz72_2 := bkF BK397.out 2
      have hfz72_3 := bkF BK397.out 3
      have hfz72_4 := bkF BK397.out 4
      have hfz72_5 := bkF BK397.out 5
      try go_wp2_with (first | ((with_reducible refine gate_dst (N := 9) rfl ?_); refine box_event ?hg (N := 9) ?hd (cs := #[.slice none 0 0, .slice none 0 0, .slice none 0 0, .int .i64 0, .int .i64 0, .int .i64 0]) (t := 26) ?hr ?_; (case hd => rfl); (case hg => rfl); (case hr => first | (go_simp; done) | (go_simp; rfl)); intro gb404 hg w73 hbox hb; have n0_ := Aside0.mk (bkB (g := gb397) (o := .cells #[.slice A0_0 l0_0.length c0_0, .slice A0_1 l0_1.length c0_1, .slice A0_2 l0_2.length c0_2, .int .i64 a0_3, .int .i64 a0_4, .int .i64 a0_5] 26 (0, 0)) (by (with_reducible repeat (first | refine bkN ?_ _ | refine bkD ?_ | refine bkA ?_ _)); exact BK397.out) hb); have n1_ := Aside0.mk (bkB (g := gb398) (o := .cells #[.int .i64 a1_0, .int .i64 a1_1, .int .i64 a1_2, .int .i64 a1_3, .int .i64 a1_4] 47 (0, 0)) (by (with_reducible repeat (first | refine bkN ?_ _ | refine bkD ?_ | refine bkA ?_ _)); exact BK398.out) hb); have n2_ := Aside0.mk (bkB (g := gb399) (o := .cells #[.int .i64 a2_0, .int .i64 a2_1, .int .i64 a2_2, .int .i64 a2_3, .int .i64 a2_4, .int .i64 a2_5, .int .i64 a2_6] 56 (0, 0)) (by (with_reducible repeat (first | refine bkN ?_ _ | refine bkD ?_ | refine bkA ?_ _)); exact BK399.out) hb); have n3_ := Aside0.mk (below_step (by repeat (first | (with_reducible first | exact HB.out | apply blA | apply blN | apply blD | refine blS ?_ GE397.out | refine blS ?_ GE398.out | refine blS ?_ GE399.out) | exact HB.out)) hb); have n4_ := Aside0.mk (hbox); have n5_ := Aside0.mk ((by rw [hg]; exact (below_size (by repeat (first | (with_reducible first | exact HB.out | apply blA | apply blN | apply blD | refine blS ?_ GE397.out | refine blS ?_ GE398.out | refine blS ?_ GE399.out) | exact HB.out))) : w.heap.size ≤ gb404)); have n6_ := Aside0.mk ((by rw [hg]; exact (below_size (by repeat (first | (with_reducible first | exact HB.out | apply blA | apply blN | apply blD | refine blS ?_ GE397.out | refine blS ?_ GE398.out | refine blS ?_ GE399.out) | exact HB.out))) : w.heap.size ≤ gb404)); have n7_ := Aside0.mk ((by rw [hg]; exact Nat.ne_of_lt (blk_lt (g := gb397) (o := .cells #[.slice A0_0 l0_0.length c0_0, .slice A0_1 l0_1.length c0_1, .slice A0_2 l0_2.length c0_2, .int .i64 a0_3, .int .i64 a0_4, .int .i64 a0_5] 26 (0, 0)) (by (with_reducible repeat (first | refine bkN ?_ _ | refine bkD ?_ | refine bkA ?_ _)); exact BK397.out)) : gb397 ≠ gb404)); have n8_ := Aside0.mk ((by rw [hg]; exact Nat.ne_of_gt (blk_lt (g := gb397) (o := .cells #[.slice A0_0 l0_0.length c0_0, .slice A0_1 l0_1.length c0_1, .slice A0_2 l0_2.length c0_2, .int .i64 a0_3, .int .i64 a0_4, .int .i64 a0_5] 26 (0, 0)) (by (with_reducible repeat (first | refine bkN ?_ _ | refine bkD ?_ | refine bkA ?_ _)); exact BK397.out)) : gb404 ≠ gb397)); have n9_ := Aside0.mk ((by rw [hg]; exact Nat.ne_of_lt (blk_lt (g := gb398) (o := .cells #[.int .i64 a1_0, .int .i64 a1_1, .int .i64 a1_2, .int .i64 a1_3, .int .i64 a1_4] 47 (0, 0)) (by (with_reducible repeat (first | refine bkN ?_ _ | refine bkD ?_ | refine bkA ?_ _)); exact BK398.out)) : gb398 ≠ gb404)); have n10_ := Aside0.mk ((by rw [hg]; exact Nat.ne_of_gt (blk_lt (g := gb398) (o := .cells #[.int .i64 a1_0, .int .i64 a1_1, .int .i64 a1_2, .int .i64 a1_3, .int .i64 a1_4] 47 (0, 0)) (by (with_reducible repeat (first | refine bkN ?_ _ | refine bkD ?_ | refine bkA ?_ _)); exact BK398.out)) : gb404 ≠ gb398)); have n11_ := Aside0.mk ((by rw [hg]; exact Nat.ne_of_lt (blk_lt (g := gb399) (o := .cells #[.int .i64 a2_0, .int .i64 a2_1, .int .i64 a2_2, .int .i64 a2_3, .int .i64 a2_4, .int .i64 a2_5, .int .i64 a2_6] 56 (0, 0)) (by (with_reducible repeat (first | refine bkN ?_ _ | refine bkD ?_ | refine bkA ?_ _)); exact BK399.out)) : gb399 ≠ gb404)); have n12_ := Aside0.mk ((by rw [hg]; exact Nat.ne_of_gt (blk_lt (g := gb399) (o := .cells #[.int .i64 a2_0, .int .i64 a2_1, .int .i64 a2_2, .int .i64 a2_3, .int .i64 a2_4, .int .i64 a2_5, .int .i64 a2_6] 56 (0, 0)) (by (with_reducible repeat (first | refine bkN ?_ _ | refine bkD ?_ | refine bkA ?_ _)); exact BK399.out)) : gb404 ≠ gb399)); clear BK397; clear BK398; clear BK399; clear HB; have BK397 := n0_; have BK398 := n1_; have BK399 := n2_; have HB := n3_; have BK404 := n4_; have GW404 := n5_; have GE404 := n6_; have NB397_404 := n7_; have NB404_397 := n8_; have NB398_404 := n9_; have NB404_398 := n10_; have NB399_404 := n11_; have NB404_399 := n12_; clear n0_ n1_ n2_ n3_ n4_ n5_ n6_ n7_ n8_ n9_ n10_ n11_ n12_; clear hb hbox hg; have hnb74 := NB404_397.out; have hnc74 := NB397_404.out; have hnb75 := NB404_398.out; have hnc75 := NB398_404.out; have hnb76 := NB404_399.out; have hnc76 := NB399_404.out; have hcz77_0 : w73.cell? ⟨gb404, 0, none⟩ = some (.slice none 0 0) := (bkC BK404.out 0).trans rfl; have hcz77_1 : w73.cell? ⟨gb404, 1, none⟩ = some (.slice none 0 0) := (bkC BK404.out 1).trans rfl; have hcz77_2 : w73.cell? ⟨gb404, 2, none⟩ = some (.slice none 0 0) := (bkC BK404.out 2).trans rfl; have hcz77_3 : w73.cell? ⟨gb404, 3, none⟩ = some (.int .i64 0) := (bkC BK404.out 3).trans rfl; have hcz77_4 : w73.cell? ⟨gb404, 4, none⟩ = some (.int .i64 0) := (bkC BK404.out 4).trans rfl; have hcz77_5 : w73.cell? ⟨gb404, 5, none⟩ = some (.int .i64 0) := (bkC BK404.out 5).trans rfl; have hfz77_0 := bkF BK404.out 0; have hfz77_1 := bkF BK404.out 1; have hfz77_2 := bkF BK404.out 2; have hfz77_3 := bkF BK404.out 3; have hfz77_4 := bkF BK404.out 4; have hfz77_5 := bkF BK404.out 5))
      have n0_ : Aside0 (((((((w73.setCell ⟨gb404, 0, none⟩ (.slice A0_0 l0_0.length c0_0)).setCell ⟨gb404, 1, none⟩ (.slice A0_1 l0_1.length c0_1)).setCell ⟨gb404, 2, none⟩ (.slice A0_2 l0_2.length c0_2)).setCell ⟨gb404, 3, none⟩ (.int .i64 a0_3)).setCell ⟨gb404, 4, none⟩ (.int .i64 a0_4)).setCell ⟨gb404, 5, none⟩ (.int .i64 a0_5)).heap[gb397]? = some (.cells #[.slice A0_0 l0_0.length c0_0, .slice A0_1 l0_1.length c0_1, .slice A0_2 l0_2.length c0_2, .int .i64 a0_3, .int .i64 a0_4, .int .i64 a0_5] 26 (0, 0))) := ⟨by (with_reducible repeat (first | refine bkN ?_ _ | refine bkD ?_ | refine bkA ?_ _)); refine blk_far ?_ NB397_404.out _; (with_reducible repeat (first | refine bkN ?_ _ | refine bkD ?_ | refine bkA ?_ _)); refine blk_far ?_ NB397_404.out _; (with_reducible repeat (first | refine bkN ?_ _ | refine bkD ?_ | refine bkA ?_ _)); refine blk_far ?_ NB397_404.out _; (with_reducible repeat (first | refine bkN ?_ _ | refine bkD ?_ | refine bkA ?_ _)); refine blk_far ?_ NB397_404.out _; (with_reducible repeat (first | refine bkN ?_ _ | refine bkD ?_ | refine bkA ?_ _)); refine blk_far ?_ NB397_404.out _; (with_reducible repeat (first | refine bkN ?_ _ | refine bkD ?_ | refine bkA ?_ _)); refine blk_far ?_ NB397_404.out _; (with_reducible repeat (first | refine bkN ?_ _ | refine bkD ?_ | refine bkA ?_ _)); exact BK397.out⟩
      have n1_ : Aside0 (((((((w73.setCell ⟨gb404, 0, none⟩ (.slice A0_0 l0_0.length c0_0)).setCell ⟨gb404, 1, none⟩ (.slice A0_1 l0_1.length c0_1)).setCell ⟨gb404, 2, none⟩ (.slice A0_2 l0_2.length c0_2)).setCell ⟨gb404, 3, none⟩ (.int .i64 a0_3)).setCell ⟨gb404, 4, none⟩ (.int .i64 a0_4)).setCell ⟨gb404, 5, none⟩ (.int .i64 a0_5)).heap[gb398]? = some (.cells #[.int .i64 a1_0, .int .i64 a1_1, .int .i64 a1_2, .int .i64 a1_3, .int .i64 a1_4] 47 (0, 0))) := ⟨by (with_reducible repeat (first | refine bkN ?_ _ | refine bkD ?_ | refine bkA ?_ _)); refine blk_far ?_ NB398_404.out _; (with_reducible repeat (first | refine bkN ?_ _ | refine bkD ?_ | refine bkA ?_ _)); refine blk_far ?_ NB398_404.out _; (with_reducible repeat (first | refine bkN ?_ _ | refine bkD ?_ | refine bkA ?_ _)); refine blk_far ?_ NB398_404.out _; (with_reducible repeat (first | refine bkN ?_ _ | refine bkD ?_ | refine bkA ?_ _)); refine blk_far ?_ NB398_404.out _; (with_reducible repeat (first | refine bkN ?_ _ | refine bkD ?_ | refine bkA ?_ _)); refine blk_far ?_ NB398_404.out _; (with_reducible repeat (first | refine bkN ?_ _ | refine bkD ?_ | refine bkA ?_ _)); refine blk_far ?_ NB398_404.out _; (with_reducible repeat (first | refine bkN ?_ _ | refine bkD ?_ | refine bkA ?_ _)); exact BK398.out⟩
      have n2_ : Aside0 (((((((w73.setCell ⟨gb404, 0, none⟩ (.slice A0_0 l0_0.length c0_0)).setCell ⟨gb404, 1, none⟩ (.slice A0_1 l0_1.length c0_1)).setCell ⟨gb404, 2, none⟩ (.slice A0_2 l0_2.length c0_2)).setCell ⟨gb404, 3, none⟩ (.int .i64 a0_3)).setCell ⟨gb404, 4, none⟩ (.int .i64 a0_4)).setCell ⟨gb404, 5, none⟩ (.int .i64 a0_5)).heap[gb399]? = some (.cells #[.int .i64 a2_0, .int .i64 a2_1, .int .i64 a2_2, .int .i64 a2_3, .int .i64 a2_4, .int .i64 a2_5, .int .i64 a2_6] 56 (0, 0))) := ⟨by (with_reducible repeat (first | refine bkN ?_ _ | refine bkD ?_ | refine bkA ?_ _)); refine blk_far ?_ NB399_404.out _; (with_reducible repeat (first | refine bkN ?_ _ | refine bkD ?_ | refine bkA ?_ _)); refine blk_far ?_ NB399_404.out _; (with_reducible repeat (first | refine bkN ?_ _ | refine bkD ?_ | refine bkA ?_ _)); refine blk_far ?_ NB399_404.out _; (with_reducible repeat (first | refine bkN ?_ _ | refine bkD ?_ | refine bkA ?_ _)); refine blk_far ?_ NB399_404.out _; (with_reducible repeat (first | refine bkN ?_ _ | refine bkD ?_ | refine bkA ?_ _)); refine blk_far ?_ NB399_404.out _; (with_reducible repeat (first | refine bkN ?_ _ | refine bkD ?_ | refine bkA ?_ _)); refine blk_far ?_ NB399_404.out _; (with_reducible repeat (first | refine bkN ?_ _ | refine bkD ?_ | refine bkA ?_ _)); exact BK399.out⟩
      have n3_ : Aside0 (((((((w73.setCell ⟨gb404, 0, none⟩ (.slice A0_0 l0_0.length c0_0)).setCell ⟨gb404, 1, none⟩ (.slice A0_1 l0_1.length c0_1)).setCell ⟨gb404, 2, none⟩ (.slice A0_2 l0_2.length c0_2)).setCell ⟨gb404, 3, none⟩ (.int .i64 a0_3)).setCell ⟨gb404, 4, none⟩ (.int .i64 a0_4)).setCell ⟨gb404, 5, none⟩ (.int .i64 a0_5)).heap[gb404]? = some (.cells #[.slice A0_0 l0_0.length c0_0, .slice A0_1 l0_1.length c0_1, .slice A0_2 l0_2.length c0_2, .int .i64 a0_3, .int .i64 a0_4, .int .i64 a0_5] 26 (0, 0))) := ⟨by (with_reducible repeat (first | refine bkN ?_ _ | refine bkD ?_ | refine bkA ?_ _)); refine blk_put (cs := #[.slice A0_0 l0_0.length c0_0, .slice A0_1 l0_1.length c0_1, .slice A0_2 l0_2.length c0_2, .int .i64 a0_3, .int .i64 a0_4, .int .i64 0]) ?_ 5 _ rfl; (with_reducible repeat (first | refine bkN ?_ _ | refine bkD ?_ | refine bkA ?_ _)); refine blk_put (cs := #[.slice A0_0 l0_0.length c0_0, .slice A0_1 l0_1.length c0_1, .slice A0_2 l0_2.length c0_2, .int .i64 a0_3, .int .i64 0, .int .i64 0]) ?_ 4 _ rfl; (with_reducible repeat (first | refine bkN ?_ _ | refine bkD ?_ | refine bkA ?_ _)); refine blk_put (cs := #[.slice A0_0 l0_0.length c0_0, .slice A0_1 l0_1.length c0_1, .slice A0_2 l0_2.length c0_2, .int .i64 0, .int .i64 0, .int .i64 0]) ?_ 3 _ rfl; (with_reducible repeat (first | refine bkN ?_ _ | refine bkD ?_ | refine bkA ?_ _)); refine blk_put (cs := #[.slice A0_0 l0_0.length c0_0, .slice A0_1 l0_1.length c0_1, .slice none 0 0, .int .i64 0, .int .i64 0, .int .i64 0]) ?_ 2 _ rfl; (with_reducible repeat (first | refine bkN ?_ _ | refine bkD ?_ | refine bkA ?_ _)); refine blk_put (cs := #[.slice A0_0 l0_0.length c0_0, .slice none 0 0, .slice none 0 0, .int .i64 0, .int .i64 0, .int .i64 0]) ?_ 1 _ rfl; (with_reducible repeat (first | refine bkN ?_ _ | refine bkD ?_ | refine bkA ?_ _)); refine blk_put (cs := #[.slice none 0 0, .slice none 0 0, .slice none 0 0, .int .i64 0, .int .i64 0, .int .i64 0]) ?_ 0 _ rfl; (with_reducible repeat (first | refine bkN ?_ _ | refine bkD ?_ | refine bkA ?_ _)); exact BK404.out⟩
      have n4_ : Aside0 (Below w.heap.size w ((((((w73.setCell ⟨gb404, 0, none⟩ (.slice A0_0 l0_0.length c0_0)).setCell ⟨gb404, 1, none⟩ (.slice A0_1 l0_1.length c0_1)).setCell ⟨gb404, 2, none⟩ (.slice A0_2 l0_2.length c0_2)).setCell ⟨gb404, 3, none⟩ (.int .i64 a0_3)).setCell ⟨gb404, 4, none⟩ (.int .i64 a0_4)).setCell ⟨gb404, 5, none⟩ (.int .i64 a0_5))) := ⟨by repeat (first | (with_reducible first | exact HB.out | apply blA | apply blN | apply blD | refine blS ?_ GE397.out | refine blS ?_ GE398.out | refine blS ?_ GE399.out | refine blS ?_ GE404.out) | exact HB.out)⟩
      (try clear BK397)
      (try clear BK398)
      (try clear BK399)
      (try clear BK404)
      (try clear HB)
      generalize ((((((w73.setCell ⟨gb404, 0, none⟩ (.slice A0_0 l0_0.length c0_0)).setCell ⟨gb404, 1, none⟩ (.slice A0_1 l0_1.length c0_1)).setCell ⟨gb404, 2, none⟩ (.slice A0_2 l0_2.length c0_2)).setCell ⟨gb404, 3, none⟩ (.int .i64 a0_3)).setCell ⟨gb404, 4, none⟩ (.int .i64 a0_4)).setCell ⟨gb404, 5, none⟩ (.int .i64 a0_5)) = w78 at n0_ n1_ n2_ n3_ n4_ ⊢
      have BK397 := n0_
      have BK398 := n1_
      have BK399 := n2_
      have BK404 := n3_
      have HB := n4_
      clear n0_ n1_ n2_ n3_ n4_
      have n0_ := Aside0.mk (bkD BK397.out)
      have n1_ := Aside0.mk (bkD BK398.out)
      have n2_ := Aside0.mk (bkD BK399.out)
      have n3_ := Aside0.mk (bkD BK404.out)
      have n4_ := Aside0.mk (blD HB.out)
      clear BK397
      clear BK398
      clear BK399
      clear BK404
      clear HB
      have BK397 := n0_
      have BK398 := n1_
      have BK399 := n2_
      have BK404 := n3_
      have HB := n4_
      clear n0_ n1_ n2_ n3_ n4_
      refine start_ (n := 8) (S := fun w' => w'.cell? ⟨gb397, 0, none⟩ = some (.slice A0_0 l0_0.length c0_0) ∧ w'.cell? ⟨gb397, 1, none⟩ = some (.slice A0_1 l0_1.length c0_1) ∧ w'.cell? ⟨gb397, 2, none⟩ = some (.slice A0_2 l0_2.length c0_2) ∧ w'.cell? ⟨gb397, 3, none⟩ = some (.int .i64 a0_3) ∧ w'.cell? ⟨gb397, 4, none⟩ = some (.int .i64 a0_4) ∧ w'.cell? ⟨gb397, 5, none⟩ = some (.int .i64 a0_5) ∧ w'.cell? ⟨gb398, 0, none⟩ = some (.int .i64 a1_0) ∧ w'.cell? ⟨gb398, 1, none⟩ = some (.int .i64 a1_1) ∧ w'.cell? ⟨gb398, 2, none⟩ = some (.int .i64 a1_2) ∧ w'.cell? ⟨gb398, 3, none⟩ = some (.int .i64 a1_3) ∧ w'.cell? ⟨gb398, 4, none⟩ = some (.int .i64 a1_4)) (ds := []) #[false, false, false, false, false, false, false, false] (by kernel_rfl) rfl rfl ⟨(bkC BK397.out 0).trans rfl, (bkC BK397.out 1).trans rfl, (bkC BK397.out 2).trans rfl, (bkC BK397.out 3).trans rfl, (bkC BK397.out 4).trans rfl, (bkC BK397.out 5).trans rfl, (bkC BK398.out 0).trans rfl, (bkC BK398.out 1).trans rfl, (bkC BK398.out 2).trans rfl, (bkC BK398.out 3).trans rfl, (bkC BK398.out 4).trans rfl⟩ (fun hHeld => ?_); refine with_tabW hopmeshlaw05_GeometryWalls.tab11 hopmeshlaw05_GeometryWalls.bits11 (fun HT_ HW_ => ?_)
      generalize w78.drew = w79 at BK397 BK398 BK399 BK404 HB hHeld ⊢
      refine pure_ (i := 0) (N := some 47) (v := ?_) (a' := ?_) #[true, false, false, false, false, false, false, false] rfl rfl (any_of HT_.out (by kernel_rfl)) (fun _ _ _ h => h) (Or.inl ⟨by rfl, ?_⟩) ?_ ?_
      rotate_left
      ·intro w'
       go_simp
       with_reducible rfl
      rotate_left
      ·simp only [Act.put, List.setIfInBounds_toArray, List.set_cons_zero, List.set_cons_succ, i64_w, i32_w]
       rfl
      refine take_ (i := 1) (N := some 48) (v := ?_) (a' := ?_) #[true, true, false, false, false, false, false, false] rfl rfl (take_ofW HT_.out HW_.out (by kernel_rfl)) (fun _ _ _ h => h) (Or.inl ⟨by rfl, ?_⟩) hHeld ?_ ?_
      rotate_left
      ·rintro w' ⟨s0, s1, s2, s3, s4, s5, s6, s7, s8, s9, s10⟩
       go_simp
       with_reducible rfl
      rotate_left
      ·simp only [Act.put, List.setIfInBounds_toArray, List.set_cons_zero, List.set_cons_succ, i64_w, i32_w]
       rfl
      refine take_ (i := 3) (N := some 50) (v := ?_) (a' := ?_) #[true, true, false, true, false, false, false, false] rfl rfl (take_ofW HT_.out HW_.out (by kernel_rfl)) (fun _ _ _ h => h) (Or.inl ⟨by rfl, ?_⟩) hHeld ?_ ?_
      rotate_left
      ·rintro w' ⟨s0, s1, s2, s3, s4, s5, s6, s7, s8, s9, s10⟩
       go_simp
       with_reducible rfl
      rotate_left
      ·simp only [Act.put, List.setIfInBounds_toArray, List.set_cons_zero, List.set_cons_succ, i64_w, i32_w]
       rfl
      refine join_ (σ := Value × Value) 3 #[true, true, true, true, true, false, false, false] (fun s_ => [(49, s_.1), (51, s_.2)]) (fun s_ w' => (w'.cell? ⟨gb397, 0, none⟩ = some (.slice A0_0 l0_0.length c0_0) ∧ w'.cell? ⟨gb397, 1, none⟩ = some (.slice A0_1 l0_1.length c0_1) ∧ w'.cell? ⟨gb397, 2, none⟩ = some (.slice A0_2 l0_2.length c0_2) ∧ w'.cell? ⟨gb397, 3, none⟩ = some (.int .i64 a0_3) ∧ w'.cell? ⟨gb397, 4, none⟩ = some (.int .i64 a0_4) ∧ w'.cell? ⟨gb397, 5, none⟩ = some (.int .i64 a0_5) ∧ w'.cell? ⟨gb398, 0, none⟩ = some (.int .i64 a1_0) ∧ w'.cell? ⟨gb398, 1, none⟩ = some (.int .i64 a1_1) ∧ w'.cell? ⟨gb398, 2, none⟩ = some (.int .i64 a1_2) ∧ w'.cell? ⟨gb398, 3, none⟩ = some (.int .i64 a1_3) ∧ w'.cell? ⟨gb398, 4, none⟩ = some (.int .i64 a1_4)) ∧ (Kd.R k47 47 w' w.heap.size (fun k_ => some k_ ≠ (s_.2 : Value).ownBlock ∧ k_ ≠ gb398) s_.1 t405) ∧ (Kd.R k47 47 w' w.heap.size (fun k_ => some k_ ≠ (s_.1 : Value).ownBlock ∧ k_ ≠ gb398) s_.2 y408) ∧ (w'.heap[gb397]? = some (.cells #[.slice A0_0 l0_0.length c0_0, .slice A0_1 l0_1.length c0_1, .slice A0_2 l0_2.length c0_2, .int .i64 a0_3, .int .i64 a0_4, .int .i64 a0_5] 26 (0, 0))) ∧ (w'.heap[gb398]? = some (.cells #[.int .i64 a1_0, .int .i64 a1_1, .int .i64 a1_2, .int .i64 a1_3, .int .i64 a1_4] 47 (0, 0))) ∧ (w'.heap[gb399]? = some (.cells #[.int .i64 a2_0, .int .i64 a2_1, .int .i64 a2_2, .int .i64 a2_3, .int .i64 a2_4, .int .i64 a2_5, .int .i64 a2_6] 56 (0, 0))) ∧ (w'.heap[gb404]? = some (.cells #[.slice A0_0 l0_0.length c0_0, .slice A0_1 l0_1.length c0_1, .slice A0_2 l0_2.length c0_2, .int .i64 a0_3, .int .i64 a0_4, .int .i64 a0_5] 26 (0, 0))) ∧ (Below w.heap.size w w')) ?_ ?_
      rotate_left
      ·intro hCont
       refine two_ (i := 2) (j := 4) (Ni := some 49) (Nj := some 51) #[true, true, true, true, false, false, false, false] #[true, true, false, true, true, false, false, false] rfl rfl rfl rfl (two_of HT_.out (by kernel_rfl)) (by decide) (by decide) (fun K hK => ?_) (fun K hK => ?_)
       rotate_left
       ·skip
        refine Kd.R_lit_step k47 _ 47 ?hg (N := 51) ?hd (xs := ([(⟨(⟨a1_0, a1_1⟩ : S28), (⟨a1_2, a1_3⟩ : S28), a1_4⟩ : S47)] : List (S47))) (inner := [.int .i64 a1_0, .int .i64 a1_1, .int .i64 a1_2, .int .i64 a1_3, .int .i64 a1_4]) (ok := fun _ => True) (okp := fun _ => True) ?hr ?hp (fun _ hk => hk) trivial (Below.refl _ _) (Nat.le_refl _) (by simp) ?_; (case hd => rfl); (case hg => rfl); (case hr => first | (go_simp; done) | (go_simp; rfl)); (case hp => exact (Reps.c5 (show Kd.M k47 _ _ _ (⟨(⟨a1_0, a1_1⟩ : S28), (⟨a1_2, a1_3⟩ : S28), a1_4⟩ : S47) [.int .i64 a1_0, .int .i64 a1_1, .int .i64 a1_2, .int .i64 a1_3, .int .i64 a1_4] from (k47_mkM _ _ _ (⟨(⟨a1_0, a1_1⟩ : S28), (⟨a1_2, a1_3⟩ : S28), a1_4⟩ : S47) )) (Reps.none _ _)))
        intro v409 w80 ho81 hb hg_ hnew_
        clear hg_ hnew_
        (first | rw [← Ny408.out] at ho81 | (simp only [Int.reduceToNat] at ho81; rw [← Ny408.out] at ho81))
        have n0_ := Aside0.mk (Kd.R_lower (Kd.R_newB ho81 (g := gb398) (o := .cells #[.int .i64 a1_0, .int .i64 a1_1, .int .i64 a1_2, .int .i64 a1_3, .int .i64 a1_4] 47 (0, 0)) (by (with_reducible repeat (first | refine bkN ?_ _ | refine bkD ?_ | refine bkA ?_ _)); exact BK398.out)) (below_size (by repeat (first | (with_reducible first | exact HB.out | apply blA | apply blN | apply blD | refine blS ?_ GE397.out | refine blS ?_ GE398.out | refine blS ?_ GE399.out | refine blS ?_ GE404.out) | exact HB.out))))
        have n1_ := Aside0.mk (bkB (g := gb397) (o := .cells #[.slice A0_0 l0_0.length c0_0, .slice A0_1 l0_1.length c0_1, .slice A0_2 l0_2.length c0_2, .int .i64 a0_3, .int .i64 a0_4, .int .i64 a0_5] 26 (0, 0)) (by (with_reducible repeat (first | refine bkN ?_ _ | refine bkD ?_ | refine bkA ?_ _)); exact BK397.out) hb)
        have n2_ := Aside0.mk (bkB (g := gb398) (o := .cells #[.int .i64 a1_0, .int .i64 a1_1, .int .i64 a1_2, .int .i64 a1_3, .int .i64 a1_4] 47 (0, 0)) (by (with_reducible repeat (first | refine bkN ?_ _ | refine bkD ?_ | refine bkA ?_ _)); exact BK398.out) hb)
        have n3_ := Aside0.mk (bkB (g := gb399) (o := .cells #[.int .i64 a2_0, .int .i64 a2_1, .int .i64 a2_2, .int .i64 a2_3, .int .i64 a2_4, .int .i64 a2_5, .int .i64 a2_6] 56 (0, 0)) (by (with_reducible repeat (first | refine bkN ?_ _ | refine bkD ?_ | refine bkA ?_ _)); exact BK399.out) hb)
        have n4_ := Aside0.mk (bkB (g := gb404) (o := .cells #[.slice A0_0 l0_0.length c0_0, .slice A0_1 l0_1.length c0_1, .slice A0_2 l0_2.length c0_2, .int .i64 a0_3, .int .i64 a0_4, .int .i64 a0_5] 26 (0, 0)) (by (with_reducible repeat (first | refine bkN ?_ _ | refine bkD ?_ | refine bkA ?_ _)); exact BK404.out) hb)
        have n5_ := Aside0.mk (below_step (by repeat (first | (with_reducible first | exact HB.out | apply blA | apply blN | apply blD | refine blS ?_ GE397.out | refine blS ?_ GE398.out | refine blS ?_ GE399.out | refine blS ?_ GE404.out) | exact HB.out)) hb)
        clear BK397
        clear BK398
        clear BK399
        clear BK404
        clear HB
        have HO410 := n0_
        have BK397 := n1_
        have BK398 := n2_
        have BK399 := n3_
        have BK404 := n4_
        have HB := n5_
        clear n0_ n1_ n2_ n3_ n4_ n5_
        clear hb ho81
        refine hK.out _ _ ⟨(bkC BK397.out 0).trans rfl, (bkC BK397.out 1).trans rfl, (bkC BK397.out 2).trans rfl, (bkC BK397.out 3).trans rfl, (bkC BK397.out 4).trans rfl, (bkC BK397.out 5).trans rfl, (bkC BK398.out 0).trans rfl, (bkC BK398.out 1).trans rfl, (bkC BK398.out 2).trans rfl, (bkC BK398.out 3).trans rfl, (bkC BK398.out 4).trans rfl⟩ (fun hHeld => ?_)
        clear hK K
        refine norm_ (a' := ?_) ?_ ?_
        rotate_left
        ·show Act.put _ (some 51) _ = _
         simp only [Act.put, List.setIfInBounds_toArray, List.set_cons_zero, List.set_cons_succ, i64_w, i32_w]
         rfl
        refine one_ (i := 2) (N := some 49) #[true, true, true, true, true, false, false, false] rfl rfl (one_of HT_.out (by kernel_rfl)) (by decide) (fun K hK => ?_)
        refine goes_ Try.func32 (by kernel_rfl) rfl #[.slice A0_2 l0_2.length c0_2] (by rfl) rfl rfl (by (try simp only [List.map_toArray, List.map_cons, List.map_nil]); first | done | rfl | (simp only [List.length_drop, List.length_take]; rfl)) ?_
        with_reducible refine (slices_Clone_api_Wall_api_Wall.calls _ _ l0_2 t405 _ ?side1 ?side2 A37.out).mono ?_
        (case side1 => repeat (first | exact (Kd.C_below HR0_2.out HB.out) | (with_reducible refine Kd.C_alloc ?_ _) | (with_reducible refine Kd.C_drewN ?_ _) | (with_reducible refine Kd.C_drew ?_)))
        (case side2 => exact HC0_2.out)
        rintro e w82 ⟨v406, rfl, ho0, hb⟩
        refine ⟨_, rfl, ?_⟩
        have n0_ := Aside0.mk (Kd.R_elder' (by (with_reducible repeat (first | apply Kd.R_alloc | apply Kd.R_drewN | apply Kd.R_drew)); exact HO410.out) (Kd.R_base ho0) hb)
        have n1_ := Aside0.mk (Kd.R_lower (Kd.R_newB (Kd.R_new' ho0 (Kd.R_lt (by (with_reducible repeat (first | apply Kd.R_alloc | apply Kd.R_drewN | apply Kd.R_drew)); exact HO410.out))) (g := gb398) (o := .cells #[.int .i64 a1_0, .int .i64 a1_1, .int .i64 a1_2, .int .i64 a1_3, .int .i64 a1_4] 47 (0, 0)) (by (with_reducible repeat (first | refine bkN ?_ _ | refine bkD ?_ | refine bkA ?_ _)); exact BK398.out)) (below_size (by repeat (first | (with_reducible first | exact HB.out | apply blA | apply blN | apply blD | refine blS ?_ GE397.out | refine blS ?_ GE398.out | refine blS ?_ GE399.out | refine blS ?_ GE404.out) | exact HB.out))))
        have n2_ := Aside0.mk (bkB (g := gb397) (o := .cells #[.slice A0_0 l0_0.length c0_0, .slice A0_1 l0_1.length c0_1, .slice A0_2 l0_2.length c0_2, .int .i64 a0_3, .int .i64 a0_4, .int .i64 a0_5] 26 (0, 0)) (by (with_reducible repeat (first | refine bkN ?_ _ | refine bkD ?_ | refine bkA ?_ _)); exact BK397.out) hb)
        have n3_ := Aside0.mk (bkB (g := gb398) (o := .cells #[.int .i64 a1_0, .int .i64 a1_1, .int .i64 a1_2, .int .i64 a1_3, .int .i64 a1_4] 47 (0, 0)) (by (with_reducible repeat (first | refine bkN ?_ _ | refine bkD ?_ | refine bkA ?_ _)); exact BK398.out) hb)
        have n4_ := Aside0.mk (bkB (g := gb399) (o := .cells #[.int .i64 a2_0, .int .i64 a2_1, .int .i64 a2_2, .int .i64 a2_3, .int .i64 a2_4, .int .i64 a2_5, .int .i64 a2_6] 56 (0, 0)) (by (with_reducible repeat (first | refine bkN ?_ _ | refine bkD ?_ | refine bkA ?_ _)); exact BK399.out) hb)
        have n5_ := Aside0.mk (bkB (g := gb404) (o := .cells #[.slice A0_0 l0_0.length c0_0, .slice A0_1 l0_1.length c0_1, .slice A0_2 l0_2.length c0_2, .int .i64 a0_3, .int .i64 a0_4, .int .i64 a0_5] 26 (0, 0)) (by (with_reducible repeat (first | refine bkN ?_ _ | refine bkD ?_ | refine bkA ?_ _)); exact BK404.out) hb)
        have n6_ := Aside0.mk (below_step (by repeat (first | (with_reducible first | exact HB.out | apply blA | apply blN | apply blD | refine blS ?_ GE397.out | refine blS ?_ GE398.out | refine blS ?_ GE399.out | refine blS ?_ GE404.out) | exact HB.out)) hb)
        clear HO410
        clear BK397
        clear BK398
        clear BK399
        clear BK404
        clear HB
        have HO410 := n0_
        have HO407 := n1_
        have BK397 := n2_
        have BK398 := n3_
        have BK399 := n4_
        have BK404 := n5_
        have HB := n6_
        clear n0_ n1_ n2_ n3_ n4_ n5_ n6_
        (try clear hb)
        (try clear hb2)
        (try clear hk)
        (try clear hi)
        (try clear ho0)
        refine hK.out _ _ ⟨(bkC BK397.out 0).trans rfl, (bkC BK397.out 1).trans rfl, (bkC BK397.out 2).trans rfl, (bkC BK397.out 3).trans rfl, (bkC BK397.out 4).trans rfl, (bkC BK397.out 5).trans rfl, (bkC BK398.out 0).trans rfl, (bkC BK398.out 1).trans rfl, (bkC BK398.out 2).trans rfl, (bkC BK398.out 3).trans rfl, (bkC BK398.out 4).trans rfl⟩ (fun hHeld => ?_)
        clear hK K
        refine norm_ (a' := ?_) ?_ ?_
        rotate_left
        ·show Act.put _ (some 49) _ = _
         simp only [Act.put, List.setIfInBounds_toArray, List.set_cons_zero, List.set_cons_succ, i64_w, i32_w]
         rfl
        exact norm_ (by simp only [putAll, Act.put, List.setIfInBounds_toArray, List.set_cons_zero, List.set_cons_succ]) (hCont (v406, v409) _ ⟨hHeld, (by (with_reducible repeat (first | apply Kd.R_alloc | apply Kd.R_drewN | apply Kd.R_drew)); exact Kd.R_mono HO407.out (fun _ hk => ⟨hk.1.2, hk.2⟩)), (by (with_reducible repeat (first | apply Kd.R_alloc | apply Kd.R_drewN | apply Kd.R_drew)); exact Kd.R_mono HO410.out (fun _ hk => ⟨hk.2, hk.1.2⟩)), (by (with_reducible repeat (first | refine bkN ?_ _ | refine bkD ?_ | refine bkA ?_ _)); exact BK397.out), (by (with_reducible repeat (first | refine bkN ?_ _ | refine bkD ?_ | refine bkA ?_ _)); exact BK398.out), (by (with_reducible repeat (first | refine bkN ?_ _ | refine bkD ?_ | refine bkA ?_ _)); exact BK399.out), (by (with_reducible repeat (first | refine bkN ?_ _ | refine bkD ?_ | refine bkA ?_ _)); exact BK404.out), (by repeat (first | (with_reducible first | exact HB.out | apply blA | apply blN | apply blD | refine blS ?_ GE397.out | refine blS ?_ GE398.out | refine blS ?_ GE399.out | refine blS ?_ GE404.out) | exact HB.out))⟩)
       skip
       refine goes_ Try.func32 (by kernel_rfl) rfl #[.slice A0_2 l0_2.length c0_2] (by rfl) rfl rfl (by (try simp only [List.map_toArray, List.map_cons, List.map_nil]); first | done | rfl | (simp only [List.length_drop, List.length_take]; rfl)) ?_
       with_reducible refine (slices_Clone_api_Wall_api_Wall.calls _ _ l0_2 t405 _ ?side1 ?side2 A37.out).mono ?_
       (case side1 => repeat (first | exact (Kd.C_below HR0_2.out HB.out) | (with_reducible refine Kd.C_alloc ?_ _) | (with_reducible refine Kd.C_drewN ?_ _) | (with_reducible refine Kd.C_drew ?_)))
       (case side2 => exact HC0_2.out)
       rintro e w80 ⟨v406, rfl, ho0, hb⟩
       refine ⟨_, rfl, ?_⟩
       have n0_ := Aside0.mk (Kd.R_lower (Kd.R_newB ho0 (g := gb398) (o := .cells #[.int .i64 a1_0, .int .i64 a1_1, .int .i64 a1_2, .int .i64 a1_3, .int .i64 a1_4] 47 (0, 0)) (by (with_reducible repeat (first | refine bkN ?_ _ | refine bkD ?_ | refine bkA ?_ _)); exact BK398.out)) (below_size (by repeat (first | (with_reducible first | exact HB.out | apply blA | apply blN | apply blD | refine blS ?_ GE397.out | refine blS ?_ GE398.out | refine blS ?_ GE399.out | refine blS ?_ GE404.out) | exact HB.out))))
       have n1_ := Aside0.mk (bkB (g := gb397) (o := .cells #[.slice A0_0 l0_0.length c0_0, .slice A0_1 l0_1.length c0_1, .slice A0_2 l0_2.length c0_2, .int .i64 a0_3, .int .i64 a0_4, .int .i64 a0_5] 26 (0, 0)) (by (with_reducible repeat (first | refine bkN ?_ _ | refine bkD ?_ | refine bkA ?_ _)); exact BK397.out) hb)
       have n2_ := Aside0.mk (bkB (g := gb398) (o := .cells #[.int .i64 a1_0, .int .i64 a1_1, .int .i64 a1_2, .int .i64 a1_3, .int .i64 a1_4] 47 (0, 0)) (by (with_reducible repeat (first | refine bkN ?_ _ | refine bkD ?_ | refine bkA ?_ _)); exact BK398.out) hb)
       have n3_ := Aside0.mk (bkB (g := gb399) (o := .cells #[.int .i64 a2_0, .int .i64 a2_1, .int .i64 a2_2, .int .i64 a2_3, .int .i64 a2_4, .int .i64 a2_5, .int .i64 a2_6] 56 (0, 0)) (by (with_reducible repeat (first | refine bkN ?_ _ | refine bkD ?_ | refine bkA ?_ _)); exact BK399.out) hb)
       have n4_ := Aside0.mk (bkB (g := gb404) (o := .cells #[.slice A0_0 l0_0.length c0_0, .slice A0_1 l0_1.length c0_1, .slice A0_2 l0_2.length c0_2, .int .i64 a0_3, .int .i64 a0_4, .int .i64 a0_5] 26 (0, 0)) (by (with_reducible repeat (first | refine bkN ?_ _ | refine bkD ?_ | refine bkA ?_ _)); exact BK404.out) hb)
       have n5_ := Aside0.mk (below_step (by repeat (first | (with_reducible first | exact HB.out | apply blA | apply blN | apply blD | refine blS ?_ GE397.out | refine blS ?_ GE398.out | refine blS ?_ GE399.out | refine blS ?_ GE404.out) | exact HB.out)) hb)
       clear BK397
       clear BK398
       clear BK399
       clear BK404
       clear HB
       have HO407 := n0_
       have BK397 := n1_
       have BK398 := n2_
       have BK399 := n3_
       have BK404 := n4_
       have HB := n5_
       clear n0_ n1_ n2_ n3_ n4_ n5_
       (try clear hb)
       (try clear hb2)
       (try clear hk)
       (try clear hi)
       (try clear ho0)
       refine hK.out _ _ ⟨(bkC BK397.out 0).trans rfl, (bkC BK397.out 1).trans rfl, (bkC BK397.out 2).trans rfl, (bkC BK397.out 3).trans rfl, (bkC BK397.out 4).trans rfl, (bkC BK397.out 5).trans rfl, (bkC BK398.out 0).trans rfl, (bkC BK398.out 1).trans rfl, (bkC BK398.out 2).trans rfl, (bkC BK398.out 3).trans rfl, (bkC BK398.out 4).trans rfl⟩ (fun hHeld => ?_)
       clear hK K
       refine norm_ (a' := ?_) ?_ ?_
       rotate_left
       ·show Act.put _ (some 49) _ = _
        simp only [Act.put, List.setIfInBounds_toArray, List.set_cons_zero, List.set_cons_succ, i64_w, i32_w]
        rfl
       refine one_ (i := 4) (N := some 51) #[true, true, true, true, true, false, false, false] rfl rfl (one_of HT_.out (by kernel_rfl)) (by decide) (fun K hK => ?_)
       refine Kd.R_lit_step k47 _ 47 ?hg (N := 51) ?hd (xs := ([(⟨(⟨a1_0, a1_1⟩ : S28), (⟨a1_2, a1_3⟩ : S28), a1_4⟩ : S47)] : List (S47))) (inner := [.int .i64 a1_0, .int .i64 a1_1, .int .i64 a1_2, .int .i64 a1_3, .int .i64 a1_4]) (ok := fun _ => True) (okp := fun _ => True) ?hr ?hp (fun _ hk => hk) trivial (Below.refl _ _) (Nat.le_refl _) (by simp) ?_; (case hd => rfl); (case hg => rfl); (case hr => first | (go_simp; done) | (go_simp; rfl)); (case hp => exact (Reps.c5 (show Kd.M k47 _ _ _ (⟨(⟨a1_0, a1_1⟩ : S28), (⟨a1_2, a1_3⟩ : S28), a1_4⟩ : S47) [.int .i64 a1_0, .int .i64 a1_1, .int .i64 a1_2, .int .i64 a1_3, .int .i64 a1_4] from (k47_mkM _ _ _ (⟨(⟨a1_0, a1_1⟩ : S28), (⟨a1_2, a1_3⟩ : S28), a1_4⟩ : S47) )) (Reps.none _ _)))
       intro v409 w81 ho82 hb hg_ hnew_
       clear hg_ hnew_
       (first | rw [← Ny408.out] at ho82 | (simp only [Int.reduceToNat] at ho82; rw [← Ny408.out] at ho82))
       have n0_ := Aside0.mk (Kd.R_elder' (by (with_reducible repeat (first | apply Kd.R_alloc | apply Kd.R_drewN | apply Kd.R_drew)); exact HO407.out) (Kd.R_base ho82) hb)
       have n1_ := Aside0.mk (Kd.R_lower (Kd.R_newB (Kd.R_new' ho82 (Kd.R_lt (by (with_reducible repeat (first | apply Kd.R_alloc | apply Kd.R_drewN | apply Kd.R_drew)); exact HO407.out))) (g := gb398) (o := .cells #[.int .i64 a1_0, .int .i64 a1_1, .int .i64 a1_2, .int .i64 a1_3, .int .i64 a1_4] 47 (0, 0)) (by (with_reducible repeat (first | refine bkN ?_ _ | refine bkD ?_ | refine bkA ?_ _)); exact BK398.out)) (below_size (by repeat (first | (with_reducible first | exact HB.out | apply blA | apply blN | apply blD | refine blS ?_ GE397.out | refine blS ?_ GE398.out | refine blS ?_ GE399.out | refine blS ?_ GE404.out) | exact HB.out))))
       have n2_ := Aside0.mk (bkB (g := gb397) (o := .cells #[.slice A0_0 l0_0.length c0_0, .slice A0_1 l0_1.length c0_1, .slice A0_2 l0_2.length c0_2, .int .i64 a0_3, .int .i64 a0_4, .int .i64 a0_5] 26 (0, 0)) (by (with_reducible repeat (first | refine bkN ?_ _ | refine bkD ?_ | refine bkA ?_ _)); exact BK397.out) hb)
       have n3_ := Aside0.mk (bkB (g := gb398) (o := .cells #[.int .i64 a1_0, .int .i64 a1_1, .int .i64 a1_2, .int .i64 a1_3, .int .i64 a1_4] 47 (0, 0)) (by (with_reducible repeat (first | refine bkN ?_ _ | refine bkD ?_ | refine bkA ?_ _)); exact BK398.out) hb)
       have n4_ := Aside0.mk (bkB (g := gb399) (o := .cells #[.int .i64 a2_0, .int .i64 a2_1, .int .i64 a2_2, .int .i64 a2_3, .int .i64 a2_4, .int .i64 a2_5, .int .i64 a2_6] 56 (0, 0)) (by (with_reducible repeat (first | refine bkN ?_ _ | refine bkD ?_ | refine bkA ?_ _)); exact BK399.out) hb)
       have n5_ := Aside0.mk (bkB (g := gb404) (o := .cells #[.slice A0_0 l0_0.length c0_0, .slice A0_1 l0_1.length c0_1, .slice A0_2 l0_2.length c0_2, .int .i64 a0_3, .int .i64 a0_4, .int .i64 a0_5] 26 (0, 0)) (by (with_reducible repeat (first | refine bkN ?_ _ | refine bkD ?_ | refine bkA ?_ _)); exact BK404.out) hb)
       have n6_ := Aside0.mk (below_step (by repeat (first | (with_reducible first | exact HB.out | apply blA | apply blN | apply blD | refine blS ?_ GE397.out | refine blS ?_ GE398.out | refine blS ?_ GE399.out | refine blS ?_ GE404.out) | exact HB.out)) hb)
       clear HO407
       clear BK397
       clear BK398
       clear BK399
       clear BK404
       clear HB
       have HO407 := n0_
       have HO410 := n1_
       have BK397 := n2_
       have BK398 := n3_
       have BK399 := n4_
       have BK404 := n5_
       have HB := n6_
       clear n0_ n1_ n2_ n3_ n4_ n5_ n6_
       clear hb ho82
       refine hK.out _ _ ⟨(bkC BK397.out 0).trans rfl, (bkC BK397.out 1).trans rfl, (bkC BK397.out 2).trans rfl, (bkC BK397.out 3).trans rfl, (bkC BK397.out 4).trans rfl, (bkC BK397.out 5).trans rfl, (bkC BK398.out 0).trans rfl, (bkC BK398.out 1).trans rfl, (bkC BK398.out 2).trans rfl, (bkC BK398.out 3).trans rfl, (bkC BK398.out 4).trans rfl⟩ (fun hHeld => ?_)
       clear hK K
       refine norm_ (a' := ?_) ?_ ?_
       rotate_left
       ·show Act.put _ (some 51) _ = _
        simp only [Act.put, List.setIfInBounds_toArray, List.set_cons_zero, List.set_cons_succ, i64_w, i32_w]
        rfl
       exact norm_ (by simp only [putAll, Act.put, List.setIfInBounds_toArray, List.set_cons_zero, List.set_cons_succ]) (hCont (v406, v409) _ ⟨hHeld, (by (with_reducible repeat (first | apply Kd.R_alloc | apply Kd.R_drewN | apply Kd.R_drew)); exact Kd.R_mono HO407.out (fun _ hk => ⟨hk.2, hk.1.2⟩)), (by (with_reducible repeat (first | apply Kd.R_alloc | apply Kd.R_drewN | apply Kd.R_drew)); exact Kd.R_mono HO410.out (fun _ hk => ⟨hk.1.2, hk.2⟩)), (by (with_reducible repeat (first | refine bkN ?_ _ | refine bkD ?_ | refine bkA ?_ _)); exact BK397.out), (by (with_reducible repeat (first | refine bkN ?_ _ | refine bkD ?_ | refine bkA ?_ _)); exact BK398.out), (by (with_reducible repeat (first | refine bkN ?_ _ | refine bkD ?_ | refine bkA ?_ _)); exact BK399.out), (by (with_reducible repeat (first | refine bkN ?_ _ | refine bkD ?_ | refine bkA ?_ _)); exact BK404.out), (by repeat (first | (with_reducible first | exact HB.out | apply blA | apply blN | apply blD | refine blS ?_ GE397.out | refine blS ?_ GE398.out | refine blS ?_ GE399.out | refine blS ?_ GE404.out) | exact HB.out))⟩)
      rintro ⟨v406, v409⟩ w83 ⟨hS_, h0_, h1_, h2_, h3_, h4_, h5_, h6_⟩
      have n0_ : Aside0 (Kd.R k47 47 w83 w.heap.size (fun k_ => some k_ ≠ (v409 : Value).ownBlock ∧ k_ ≠ gb398) v406 t405) := ⟨h0_⟩
      have n1_ : Aside0 (Kd.R k47 47 w83 w.heap.size (fun k_ => some k_ ≠ (v406 : Value).ownBlock ∧ k_ ≠ gb398) v409 y408) := ⟨h1_⟩
      have n2_ : Aside0 (w83.heap[gb397]? = some (.cells #[.slice A0_0 l0_0.length c0_0, .slice A0_1 l0_1.length c0_1, .slice A0_2 l0_2.length c0_2, .int .i64 a0_3, .int .i64 a0_4, .int .i64 a0_5] 26 (0, 0))) := ⟨h2_⟩
      have n3_ : Aside0 (w83.heap[gb398]? = some (.cells #[.int .i64 a1_0, .int .i64 a1_1, .int .i64 a1_2, .int .i64 a1_3, .int .i64 a1_4] 47 (0, 0))) := ⟨h3_⟩
      have n4_ : Aside0 (w83.heap[gb399]? = some (.cells #[.int .i64 a2_0, .int .i64 a2_1, .int .i64 a2_2, .int .i64 a2_3, .int .i64 a2_4, .int .i64 a2_5, .int .i64 a2_6] 56 (0, 0))) := ⟨h4_⟩
      have n5_ : Aside0 (w83.heap[gb404]? = some (.cells #[.slice A0_0 l0_0.length c0_0, .slice A0_1 l0_1.length c0_1, .slice A0_2 l0_2.length c0_2, .int .i64 a0_3, .int .i64 a0_4, .int .i64 a0_5] 26 (0, 0))) := ⟨h5_⟩
      have n6_ : Aside0 (Below w.heap.size w w83) := ⟨h6_⟩
      clear BK397
      clear BK398
      clear BK399
      clear BK404
      clear HB
      clear h0_ h1_ h2_ h3_ h4_ h5_ h6_
      have HO407 := n0_
      have HO410 := n1_
      have BK397 := n2_
      have BK398 := n3_
      have BK399 := n4_
      have BK404 := n5_
      have HB := n6_
      clear n0_ n1_ n2_ n3_ n4_ n5_ n6_
      have hHeld : w83.cell? ⟨gb397, 0, none⟩ = some (.slice A0_0 l0_0.length c0_0) ∧ w83.cell? ⟨gb397, 1, none⟩ = some (.slice A0_1 l0_1.length c0_1) ∧ w83.cell? ⟨gb397, 2, none⟩ = some (.slice A0_2 l0_2.length c0_2) ∧ w83.cell? ⟨gb397, 3, none⟩ = some (.int .i64 a0_3) ∧ w83.cell? ⟨gb397, 4, none⟩ = some (.int .i64 a0_4) ∧ w83.cell? ⟨gb397, 5, none⟩ = some (.int .i64 a0_5) ∧ w83.cell? ⟨gb398, 0, none⟩ = some (.int .i64 a1_0) ∧ w83.cell? ⟨gb398, 1, none⟩ = some (.int .i64 a1_1) ∧ w83.cell? ⟨gb398, 2, none⟩ = some (.int .i64 a1_2) ∧ w83.cell? ⟨gb398, 3, none⟩ = some (.int .i64 a1_3) ∧ w83.cell? ⟨gb398, 4, none⟩ = some (.int .i64 a1_4) := hS_
      obtain ⟨Ao85, co85, eo85⟩ := Kd.R_slice HO410.out
      (first | subst eo85 | (injection eo85 with f1_ f2_ f3_; have f4_ := f1_.symm; have f5_ := f3_.symm; clear f1_ f2_ f3_; subst f4_; subst f5_))
      refine norm_ (a' := ?_) ?_ ?_
      rotate_left
      ·simp only [putAll, Act.put, List.setIfInBounds_toArray, List.set_cons_zero, List.set_cons_succ]
       rfl
      refine one_ (i := 5) (N := some 52) #[true, true, true, true, true, true, false, false] rfl rfl (one_of HT_.out (by kernel_rfl)) (by decide) (fun K hK => ?_)
      refine Kd.R_append_rows_step k47 (w0 := w) w.heap.size (by rfl) (.tmp 49) (.tmp 51) 24 47 (.agg #[(.int .i64 0), (.int .i64 0), (.int .i64 0), (.int .i64 0), (.int .i64 0)]) 40 rfl Try.underlying24 info47 rfl (by decide) (by omega) v406 t405 y408 _ _ _ (fun k_ => some k_ ≠ (.slice Ao85 y408.length co85 : Value).ownBlock ∧ k_ ≠ gb398) (fun _ => False) rfl rfl ?aO ?aR (fun _ _ h => h) (fun _ h => h.elim) ?aF ?aB ?aS ?aL ?_
      (case aR => repeat (first | exact (Kd.R_reads' HO410.out).2.2 | (with_reducible refine Kd.C_alloc ?_ _) | (with_reducible refine Kd.C_drewN ?_ _) | (with_reducible refine Kd.C_drew ?_)))
      (case aB => exact (by repeat (first | (with_reducible first | exact HB.out | apply blA | apply blN | apply blD | refine blS ?_ GE397.out | refine blS ?_ GE398.out | refine blS ?_ GE399.out | refine blS ?_ GE404.out) | exact HB.out)))
      (case aF => exact (fun k_ hk => ⟨Kd.fresh' (Kd.R_lt (by (with_reducible repeat (first | apply Kd.R_alloc | apply Kd.R_drewN | apply Kd.R_drew)); exact HO410.out)) k_ hk, Kd.freshB (g := gb398) (o := .cells #[.int .i64 a1_0, .int .i64 a1_1, .int .i64 a1_2, .int .i64 a1_3, .int .i64 a1_4] 47 (0, 0)) (by (with_reducible repeat (first | refine bkN ?_ _ | refine bkD ?_ | refine bkA ?_ _)); exact BK398.out) k_ hk⟩))
      (case aO => exact (by (with_reducible repeat (first | apply Kd.R_alloc | apply Kd.R_drewN | apply Kd.R_drew)); exact HO407.out))
      (case aS => exact (below_size (by repeat (first | (with_reducible first | exact HB.out | apply blA | apply blN | apply blD | refine blS ?_ GE397.out | refine blS ?_ GE398.out | refine blS ?_ GE399.out | refine blS ?_ GE404.out) | exact HB.out))))
      (case aL => have := LMc38.out; omega)
      intro v412 w84 ho hb hg hat
      rw [← Ny411.out] at ho
      have n0_ := Aside0.mk (blk_grown (g := gb397) (o := .cells #[.slice A0_0 l0_0.length c0_0, .slice A0_1 l0_1.length c0_1, .slice A0_2 l0_2.length c0_2, .int .i64 a0_3, .int .i64 a0_4, .int .i64 a0_5] 26 (0, 0)) (by (with_reducible repeat (first | refine bkN ?_ _ | refine bkD ?_ | refine bkA ?_ _)); exact BK397.out) hg (Kd.R_ne HO407.out BK397.out (by decide)))
      have n1_ := Aside0.mk (blk_grown (g := gb398) (o := .cells #[.int .i64 a1_0, .int .i64 a1_1, .int .i64 a1_2, .int .i64 a1_3, .int .i64 a1_4] 47 (0, 0)) (by (with_reducible repeat (first | refine bkN ?_ _ | refine bkD ?_ | refine bkA ?_ _)); exact BK398.out) hg (Kd.R_away HO407.out (fun _ hk => hk.2)))
      have n2_ := Aside0.mk (blk_grown (g := gb399) (o := .cells #[.int .i64 a2_0, .int .i64 a2_1, .int .i64 a2_2, .int .i64 a2_3, .int .i64 a2_4, .int .i64 a2_5, .int .i64 a2_6] 56 (0, 0)) (by (with_reducible repeat (first | refine bkN ?_ _ | refine bkD ?_ | refine bkA ?_ _)); exact BK399.out) hg (Kd.R_ne HO407.out BK399.out (by decide)))
      have n3_ := Aside0.mk (blk_grown (g := gb404) (o := .cells #[.slice A0_0 l0_0.length c0_0, .slice A0_1 l0_1.length c0_1, .slice A0_2 l0_2.length c0_2, .int .i64 a0_3, .int .i64 a0_4, .int .i64 a0_5] 26 (0, 0)) (by (with_reducible repeat (first | refine bkN ?_ _ | refine bkD ?_ | refine bkA ?_ _)); exact BK404.out) hg (Kd.R_ne HO407.out BK404.out (by decide)))
      have n4_ := Aside0.mk (Kd.R_after (ok := (fun k_ => k_ ≠ gb398)) (by (with_reducible repeat (first | apply Kd.R_alloc | apply Kd.R_drewN | apply Kd.R_drew)); exact Kd.R_mono HO410.out (fun _ hk => ⟨hk.2, hk.1⟩)) hg hat)
      have n5_ := Aside0.mk (hb)
      have n6_ := Aside0.mk (ho)
      clear BK397
      clear BK398
      clear BK399
      clear BK404
      clear HO410
      clear HB
      clear HO407
      have BK397 := n0_
      have BK398 := n1_
      have BK399 := n2_
      have BK404 := n3_
      have HO410 := n4_
      have HB := n5_
      have HO413 := n6_
      clear n0_ n1_ n2_ n3_ n4_ n5_ n6_
      clear ho hb hg hat
      obtain ⟨Ao86, co86, eo86⟩ := Kd.R_slice HO413.out
      (first | subst eo86 | (injection eo86 with f1_ f2_ f3_; have f4_ := f1_.symm; have f5_ := f3_.symm; clear f1_ f2_ f3_; subst f4_; subst f5_))
      refine hK.out _ _ ⟨(bkC BK397.out 0).trans rfl, (bkC BK397.out 1).trans rfl, (bkC BK397.out 2).trans rfl, (bkC BK397.out 3).trans rfl, (bkC BK397.out 4).trans rfl, (bkC BK397.out 5).trans rfl, (bkC BK398.out 0).trans rfl, (bkC BK398.out 1).trans rfl, (bkC BK398.out 2).trans rfl, (bkC BK398.out 3).trans rfl, (bkC BK398.out 4).trans rfl⟩ (fun hHeld => ?_)
      clear hK K
      refine norm_ (a' := ?_) ?_ ?_
      rotate_left
      ·show Act.put _ (some 52) _ = _
       simp only [Act.put, List.setIfInBounds_toArray, List.set_cons_zero, List.set_cons_succ, i64_w, i32_w]
       rfl
      refine pure_ (i := 6) (N := some 53) (v := ?_) (a' := ?_) #[true, true, true, true, true, true, true, false] rfl rfl (any_of HT_.out (by kernel_rfl)) (fun _ _ _ h => h) (Or.inl ⟨by rfl, ?_⟩) ?_ ?_
      rotate_left
      ·intro w'
       go_simp
       with_reducible rfl
      rotate_left
      ·simp only [Act.put, List.setIfInBounds_toArray, List.set_cons_zero, List.set_cons_succ, i64_w, i32_w]
       rfl
      refine one_ (i := 7) (N := none) #[true, true, true, true, true, true, true, true] rfl rfl (one_of HT_.out (by kernel_rfl)) (by decide) (fun K hK => ?_)
      have hs87 : w84.cell? ⟨gb404, 2, none⟩ = some (.slice A0_2 l0_2.length c0_2) := (bkC BK404.out 2).trans rfl
      have hfs87 := bkF BK404.out 2
      have hns87_0 := NB397_404.out
      have hns87_1 := NB398_404.out
      have hns87_2 := NB399_404.out
      have hms87_0 := NB404_397.out
      have hms87_1 := NB404_398.out
      have hms87_2 := NB404_399.out
      refine skip_ (w1 := ?_) (by rfl) rfl ?_ ?_
      rotate_left
      ·go_simp
       rfl
      refine hK.out _ _ ⟨((cell_far (p := ⟨gb404, _, none⟩) NB397_404.out _).trans (hHeld.1)), ((cell_far (p := ⟨gb404, _, none⟩) NB397_404.out _).trans (hHeld.2.1)), ((cell_far (p := ⟨gb404, _, none⟩) NB397_404.out _).trans (hHeld.2.2.1)), ((cell_far (p := ⟨gb404, _, none⟩) NB397_404.out _).trans (hHeld.2.2.2.1)), ((cell_far (p := ⟨gb404, _, none⟩) NB397_404.out _).trans (hHeld.2.2.2.2.1)), ((cell_far (p := ⟨gb404, _, none⟩) NB397_404.out _).trans (hHeld.2.2.2.2.2.1)), ((cell_far (p := ⟨gb404, _, none⟩) NB398_404.out _).trans (hHeld.2.2.2.2.2.2.1)), ((cell_far (p := ⟨gb404, _, none⟩) NB398_404.out _).trans (hHeld.2.2.2.2.2.2.2.1)), ((cell_far (p := ⟨gb404, _, none⟩) NB398_404.out _).trans (hHeld.2.2.2.2.2.2.2.2.1)), ((cell_far (p := ⟨gb404, _, none⟩) NB398_404.out _).trans (hHeld.2.2.2.2.2.2.2.2.2.1)), ((cell_far (p := ⟨gb404, _, none⟩) NB398_404.out _).trans (hHeld.2.2.2.2.2.2.2.2.2.2))⟩ (fun hHeld => ?_)
      clear hK K
      refine done_ (done_of HT_.out (by kernel_rfl)) ?_
      have hcz88_0 : w84.cell? ⟨gb404, 0, none⟩ = some (.slice A0_0 l0_0.length c0_0) := (bkC BK404.out 0).trans rfl
      have hcz88_1 : w84.cell? ⟨gb404, 1, none⟩ = some (.slice A0_1 l0_1.length c0_1) := (bkC BK404.out 1).trans rfl
      have hcz88_2 : w84.cell? ⟨gb404, 2, none⟩ = some (.slice A0_2 l0_2.length c0_2) := (bkC BK404.out 2).trans rfl
      have hcz88_3 : w84.cell? ⟨gb404, 3, none⟩ = some (.int .i64 a0_3) := (bkC BK404.out 3).trans rfl
      have hcz88_4 : w84.cell? ⟨gb404, 4, none⟩ = some (.int .i64 a0_4) := (bkC BK404.out 4).trans rfl
      have hcz88_5 : w84.cell? ⟨gb404, 5, none⟩ = some (.int .i64 a0_5) := (bkC BK404.out 5).trans rfl
      have hfz88_0 := bkF BK404.out 0
      have hfz88_1 := bkF BK404.out 1
      have hfz88_2 := bkF BK404.out 2
      have hfz88_3 := bkF BK404.out 3
      have hfz88_4 := bkF BK404.out 4
      have hfz88_5 := bkF BK404.out 5
      have hnb89 := NB399_398.out
      have hnc89 := NB398_399.out
      have hcz90_0 : w84.cell? ⟨gb399, 0, none⟩ = some (.int .i64 a2_0) := (bkC BK399.out 0).trans rfl
      have hcz90_1 : w84.cell? ⟨gb399, 1, none⟩ = some (.int .i64 a2_1) := (bkC BK399.out 1).trans rfl
      have hcz90_2 : w84.cell? ⟨gb399, 2, none⟩ = some (.int .i64 a2_2) := (bkC BK399.out 2).trans rfl
      have hcz90_3 : w84.cell? ⟨gb399, 3, none⟩ = some (.int .i64 a2_3) := (bkC BK399.out 3).trans rfl
      have hcz90_4 : w84.cell? ⟨gb399, 4, none⟩ = some (.int .i64 a2_4) := (bkC BK399.out 4).trans rfl
      have hcz90_5 : w84.cell? ⟨gb399, 5, none⟩ = some (.int .i64 a2_5) := (bkC BK399.out 5).trans rfl
      have hcz90_6 : w84.cell? ⟨gb399, 6, none⟩ = some (.int .i64 a2_6) := (bkC BK399.out 6).trans rfl
      have hfz90_0 := bkF BK399.out 0
      have hfz90_1 := bkF BK399.out 1
      have hfz90_2 := bkF BK399.out 2
      have hfz90_3 := bkF BK399.out 3
      have hfz90_4 := bkF BK399.out 4
      have hfz90_5 := bkF BK399.out 5
      have hfz90_6 := bkF BK399.out 6
      try go_wp2_with (first | ((with_reducible refine gate_callee (f := 23) rfl ?_); refine goesL_ (some 62) rfl rfl Try.func23 (by kernel_rfl) rfl #[.agg #[.slice A0_0 l0_0.length c0_0, .slice A0_1 l0_1.length c0_1, .slice Ao86 y411.length co86, .int .i64 a0_3, .int .i64 a0_4, .int .i64 a0_5], .agg #[.int .i64 a2_0, .int .i64 a2_1], .int .i64 a2_4, .agg #[.int .i64 a2_2, .int .i64 a2_3]] rfl (by (try simp only [List.map_toArray, List.map_cons, List.map_nil]); first | done | rfl | (simp only [List.length_drop, List.length_take]; rfl)) ?_; (with_reducible refine (geometry_At.calls kj24 _ _ l0_0 _ _ l0_1 _ _ y411 a0_3 a0_4 a0_5 a2_0 a2_1 a2_4 a2_2 a2_3 t414 t415 _ ?side1 ?side2 ?side3 ?side4 ?side5 ?side6 A39.out).mono ?_); (case side1 => exact Kd.C_below HR0_0.out (by repeat (first | (with_reducible first | exact HB.out | apply blA | apply blN | apply blD | refine blS ?_ GE397.out | refine blS ?_ GE398.out | refine blS ?_ GE399.out | refine blS ?_ GE404.out) | exact HB.out))); (case side2 => exact HC0_0.out); (case side3 => exact Kd.C_below HR0_1.out (by repeat (first | (with_reducible first | exact HB.out | apply blA | apply blN | apply blD | refine blS ?_ GE397.out | refine blS ?_ GE398.out | refine blS ?_ GE399.out | refine blS ?_ GE404.out) | exact HB.out))); (case side4 => exact HC0_1.out); (case side5 => refine (Kd.R_reads' (e := 47) (base := w.heap.size) (ok := fun k_ => (some k_ ≠ (.slice Ao85 y408.length co85 : Value).ownBlock ∧ k_ ≠ gb398)) (n := y411.length) (c := co86) ?_).2.2; exact (by (with_reducible repeat (first | apply Kd.R_alloc | apply Kd.R_drewN | apply Kd.R_drew)); exact (Kd.R_mono (Kd.R_far (p := ⟨gb404, 2, none⟩) (Kd.R_types HO413.out BK404.out (by decide)) (fun _ hk => hk.2) (.slice Ao86 y411.length co86)) (fun _ h_ => h_.1)))); (case side6 => exact (Kd.R_reads' HO413.out).2.1); rintro e w91 ⟨rfl, hb⟩; refine ⟨_, rfl, ?_⟩; have n0_ := Aside0.mk (Kd.R_below (by (with_reducible repeat (first | apply Kd.R_alloc | apply Kd.R_drewN | apply Kd.R_drew)); exact (Kd.R_mono (Kd.R_far (p := ⟨gb404, 2, none⟩) (Kd.R_types HO410.out BK404.out (by decide)) (fun _ hk => hk.2) (.slice Ao86 y411.length co86)) (fun _ h_ => h_.1))) hb); have n1_ := Aside0.mk (Kd.R_below (by (with_reducible repeat (first | apply Kd.R_alloc | apply Kd.R_drewN | apply Kd.R_drew)); exact (Kd.R_mono (Kd.R_far (p := ⟨gb404, 2, none⟩) (Kd.R_types HO413.out BK404.out (by decide)) (fun _ hk => hk.2) (.slice Ao86 y411.length co86)) (fun _ h_ => h_.1))) hb); have n2_ := Aside0.mk (bkB (g := gb397) (o := .cells #[.slice A0_0 l0_0.length c0_0, .slice A0_1 l0_1.length c0_1, .slice A0_2 l0_2.length c0_2, .int .i64 a0_3, .int .i64 a0_4, .int .i64 a0_5] 26 (0, 0)) (by (with_reducible repeat (first | refine bkN ?_ _ | refine bkD ?_ | refine bkA ?_ _)); refine blk_far ?_ NB397_404.out _; (with_reducible repeat (first | refine bkN ?_ _ | refine bkD ?_ | refine bkA ?_ _)); exact BK397.out) hb); have n3_ := Aside0.mk (bkB (g := gb398) (o := .cells #[.int .i64 a1_0, .int .i64 a1_1, .int .i64 a1_2, .int .i64 a1_3, .int .i64 a1_4] 47 (0, 0)) (by (with_reducible repeat (first | refine bkN ?_ _ | refine bkD ?_ | refine bkA ?_ _)); refine blk_far ?_ NB398_404.out _; (with_reducible repeat (first | refine bkN ?_ _ | refine bkD ?_ | refine bkA ?_ _)); exact BK398.out) hb); have n4_ := Aside0.mk (bkB (g := gb399) (o := .cells #[.int .i64 a2_0, .int .i64 a2_1, .int .i64 a2_2, .int .i64 a2_3, .int .i64 a2_4, .int .i64 a2_5, .int .i64 a2_6] 56 (0, 0)) (by (with_reducible repeat (first | refine bkN ?_ _ | refine bkD ?_ | refine bkA ?_ _)); refine blk_far ?_ NB399_404.out _; (with_reducible repeat (first | refine bkN ?_ _ | refine bkD ?_ | refine bkA ?_ _)); exact BK399.out) hb); have n5_ := Aside0.mk (bkB (g := gb404) (o := .cells #[.slice A0_0 l0_0.length c0_0, .slice A0_1 l0_1.length c0_1, .slice Ao86 y411.length co86, .int .i64 a0_3, .int .i64 a0_4, .int .i64 a0_5] 26 (0, 0)) (by (with_reducible repeat (first | refine bkN ?_ _ | refine bkD ?_ | refine bkA ?_ _)); refine blk_put (cs := #[.slice A0_0 l0_0.length c0_0, .slice A0_1 l0_1.length c0_1, .slice A0_2 l0_2.length c0_2, .int .i64 a0_3, .int .i64 a0_4, .int .i64 a0_5]) ?_ 2 _ rfl; (with_reducible repeat (first | refine bkN ?_ _ | refine bkD ?_ | refine bkA ?_ _)); exact BK404.out) hb); have n6_ := Aside0.mk (below_step (by repeat (first | (with_reducible first | exact HB.out | apply blA | apply blN | apply blD | refine blS ?_ GE397.out | refine blS ?_ GE398.out | refine blS ?_ GE399.out | refine blS ?_ GE404.out) | exact HB.out)) hb); clear HO410; clear HO413; clear BK397; clear BK398; clear BK399; clear BK404; clear HB; have HO410 := n0_; have HO413 := n1_; have BK397 := n2_; have BK398 := n3_; have BK399 := n4_; have BK404 := n5_; have HB := n6_; clear n0_ n1_ n2_ n3_ n4_ n5_ n6_; (try clear hb); (try clear hb2); (try clear hk); (try clear hi); have hcz92_0 : w91.cell? ⟨gb399, 0, none⟩ = some (.int .i64 a2_0) := (bkC BK399.out 0).trans rfl; have hcz92_1 : w91.cell? ⟨gb399, 1, none⟩ = some (.int .i64 a2_1) := (bkC BK399.out 1).trans rfl; have hcz92_2 : w91.cell? ⟨gb399, 2, none⟩ = some (.int .i64 a2_2) := (bkC BK399.out 2).trans rfl; have hcz92_3 : w91.cell? ⟨gb399, 3, none⟩ = some (.int .i64 a2_3) := (bkC BK399.out 3).trans rfl; have hcz92_4 : w91.cell? ⟨gb399, 4, none⟩ = some (.int .i64 a2_4) := (bkC BK399.out 4).trans rfl; have hcz92_5 : w91.cell? ⟨gb399, 5, none⟩ = some (.int .i64 a2_5) := (bkC BK399.out 5).trans rfl; have hcz92_6 : w91.cell? ⟨gb399, 6, none⟩ = some (.int .i64 a2_6) := (bkC BK399.out 6).trans rfl; have hfz92_0 := bkF BK399.out 0; have hfz92_1 := bkF BK399.out 1; have hfz92_2 := bkF BK399.out 2; have hfz92_3 := bkF BK399.out 3; have hfz92_4 := bkF BK399.out 4; have hfz92_5 := bkF BK399.out 5; have hfz92_6 := bkF BK399.out 6; have hcz93_0 : w91.cell? ⟨gb398, 0, none⟩ = some (.int .i64 a1_0) := (bkC BK398.out 0).trans rfl; have hcz93_1 : w91.cell? ⟨gb398, 1, none⟩ = some (.int .i64 a1_1) := (bkC BK398.out 1).trans rfl; have hcz93_2 : w91.cell? ⟨gb398, 2, none⟩ = some (.int .i64 a1_2) := (bkC BK398.out 2).trans rfl; have hcz93_3 : w91.cell? ⟨gb398, 3, none⟩ = some (.int .i64 a1_3) := (bkC BK398.out 3).trans rfl; have hcz93_4 : w91.cell? ⟨gb398, 4, none⟩ = some (.int .i64 a1_4) := (bkC BK398.out 4).trans rfl; have hfz93_0 := bkF BK398.out 0; have hfz93_1 := bkF BK398.out 1; have hfz93_2 := bkF BK398.out 2; have hfz93_3 := bkF BK398.out 3; have hfz93_4 := bkF BK398.out 4) | ((with_reducible refine gate_callee (f := 27) rfl ?_); refine goesL_ (some 79) rfl rfl Try.func27 (by kernel_rfl) rfl #[.agg #[.int .i64 a2_0, .int .i64 a2_1], .agg #[.int .i64 a2_2, .int .i64 a2_3], .agg #[.int .i64 a1_0, .int .i64 a1_1, .int .i64 a1_2, .int .i64 a1_3, .int .i64 a1_4]] rfl (by (try simp only [List.map_toArray, List.map_cons, List.map_nil]); first | done | rfl | (simp only [List.length_drop, List.length_take]; rfl)) ?_; (with_reducible refine (geometry_Crosses.calls kj24 a2_0 a2_1 a2_2 a2_3 a1_0 a1_1 a1_2 a1_3 a1_4 true _ A41.out).mono ?_); rintro e w94 ⟨rfl, hb⟩; refine ⟨_, rfl, ?_⟩; have n0_ := Aside0.mk (Kd.R_below (by (with_reducible repeat (first | apply Kd.R_alloc | apply Kd.R_drewN | apply Kd.R_drew)); exact HO410.out) hb); have n1_ := Aside0.mk (Kd.R_below (by (with_reducible repeat (first | apply Kd.R_alloc | apply Kd.R_drewN | apply Kd.R_drew)); exact HO413.out) hb); have n2_ := Aside0.mk (bkB (g := gb397) (o := .cells #[.slice A0_0 l0_0.length c0_0, .slice A0_1 l0_1.length c0_1, .slice A0_2 l0_2.length c0_2, .int .i64 a0_3, .int .i64 a0_4, .int .i64 a0_5] 26 (0, 0)) (by (with_reducible repeat (first | refine bkN ?_ _ | refine bkD ?_ | refine bkA ?_ _)); exact BK397.out) hb); have n3_ := Aside0.mk (bkB (g := gb398) (o := .cells #[.int .i64 a1_0, .int .i64 a1_1, .int .i64 a1_2, .int .i64 a1_3, .int .i64 a1_4] 47 (0, 0)) (by (with_reducible repeat (first | refine bkN ?_ _ | refine bkD ?_ | refine bkA ?_ _)); exact BK398.out) hb); have n4_ := Aside0.mk (bkB (g := gb399) (o := .cells #[.int .i64 a2_0, .int .i64 a2_1, .int .i64 a2_2, .int .i64 a2_3, .int .i64 a2_4, .int .i64 a2_5, .int .i64 a2_6] 56 (0, 0)) (by (with_reducible repeat (first | refine bkN ?_ _ | refine bkD ?_ | refine bkA ?_ _)); exact BK399.out) hb); have n5_ := Aside0.mk (bkB (g := gb404) (o := .cells #[.slice A0_0 l0_0.length c0_0, .slice A0_1 l0_1.length c0_1, .slice Ao86 y411.length co86, .int .i64 a0_3, .int .i64 a0_4, .int .i64 a0_5] 26 (0, 0)) (by (with_reducible repeat (first | refine bkN ?_ _ | refine bkD ?_ | refine bkA ?_ _)); exact BK404.out) hb); have n6_ := Aside0.mk (below_step (by repeat (first | (with_reducible first | exact HB.out | apply blA | apply blN | apply blD | refine blS ?_ GE397.out | refine blS ?_ GE398.out | refine blS ?_ GE399.out | refine blS ?_ GE404.out) | exact HB.out)) hb); clear HO410; clear HO413; clear BK397; clear BK398; clear BK399; clear BK404; clear HB; have HO410 := n0_; have HO413 := n1_; have BK397 := n2_; have BK398 := n3_; have BK399 := n4_; have BK404 := n5_; have HB := n6_; clear n0_ n1_ n2_ n3_ n4_ n5_ n6_; (try clear hb); (try clear hb2); (try clear hk); (try clear hi); have hcz95_0 : w94.cell? ⟨gb398, 0, none⟩ = some (.int .i64 a1_0) := (bkC BK398.out 0).trans rfl; have hcz95_1 : w94.cell? ⟨gb398, 1, none⟩ = some (.int .i64 a1_1) := (bkC BK398.out 1).trans rfl; have hcz95_2 : w94.cell? ⟨gb398, 2, none⟩ = some (.int .i64 a1_2) := (bkC BK398.out 2).trans rfl; have hcz95_3 : w94.cell? ⟨gb398, 3, none⟩ = some (.int .i64 a1_3) := (bkC BK398.out 3).trans rfl; have hcz95_4 : w94.cell? ⟨gb398, 4, none⟩ = some (.int .i64 a1_4) := (bkC BK398.out 4).trans rfl; have hfz95_0 := bkF BK398.out 0; have hfz95_1 := bkF BK398.out 1; have hfz95_2 := bkF BK398.out 2; have hfz95_3 := bkF BK398.out 3; have hfz95_4 := bkF BK398.out 4))
      go_ret
      exact ⟨by first | rfl | (simp [errW_none, errW_some] <;> rfl) | (simp [*, errW_none, errW_some] <;> rfl), by repeat (first | (with_reducible first | exact HB.out | apply blA | apply blN | apply blD | refine blS ?_ GE397.out | refine blS ?_ GE398.out | refine blS ?_ GE399.out | refine blS ?_ GE404.out) | exact HB.out)⟩
     rw [if_pos c43] at H
     have c43b0 : (a1_4 == 1000) = true := beq_iff_eq.mpr c43
     have c43b1 : (a1_4 != 1000) = false := bne_eq_false_iff_eq.mpr c43
     clear c43
     obtain rfl := Option.some.inj H
     have hnb44 := NB397_398.out
     have hnc44 := NB398_397.out
     have hnb45 := NB397_399.out
     have hnc45 := NB399_397.out
     have hcz46_0 : wc.cell? ⟨gb397, 0, none⟩ = some (.slice A0_0 l0_0.length c0_0) := (bkC BK397.out 0).trans rfl
     have hcz46_1 : wc.cell? ⟨gb397, 1, none⟩ = some (.slice A0_1 l0_1.length c0_1) := (bkC BK397.out 1).trans rfl
     have hcz46_2 : wc.cell? ⟨gb397, 2, none⟩ = some (.slice A0_2 l0_2.length c0_2) := (bkC BK397.out 2).trans rfl
     have hcz46_3 : wc.cell? ⟨gb397, 3, none⟩ = some (.int .i64 a0_3) := (bkC BK397.out 3).trans rfl
     have hcz46_4 : wc.cell? ⟨gb397, 4, none⟩ = some (.int .i64 a0_4) := (bkC BK397.out 4).trans rfl
     have hcz46_5 : wc.cell? ⟨gb397, 5, none⟩ = some (.int .i64 a0_5) := (bkC BK397.out 5).trans rfl
     have hfz46_0 := bkF BK397.out 0
     have hfz46_1 := bkF BK397.out 1
     have hfz46_2 := bkF BK397.out 2
     have hfz46_3 := bkF BK397.out 3
     have hfz46_4 := bkF BK397.out 4
     have hfz46_5 := bkF BK397.out 5
     try go_wp2_with (first | ((with_reducible refine gate_dst (N := 9) rfl ?_); refine box_event ?hg (N := 9) ?hd (cs := #[.slice none 0 0, .slice none 0 0, .slice none 0 0, .int .i64 0, .int .i64 0, .int .i64 0]) (t := 26) ?hr ?_; (case hd => rfl); (case hg => rfl); (case hr => first | (go_simp; done) | (go_simp; rfl)); intro gb404 hg w47 hbox hb; have n0_ := Aside0.mk (bkB (g := gb397) (o := .cells #[.slice A0_0 l0_0.length c0_0, .slice A0_1 l0_1.length c0_1, .slice A0_2 l0_2.length c0_2, .int .i64 a0_3, .int .i64 a0_4, .int .i64 a0_5] 26 (0, 0)) (by (with_reducible repeat (first | refine bkN ?_ _ | refine bkD ?_ | refine bkA ?_ _)); exact BK397.out) hb); have n1_ := Aside0.mk (bkB (g := gb398) (o := .cells #[.int .i64 a1_0, .int .i64 a1_1, .int .i64 a1_2, .int .i64 a1_3, .int .i64 a1_4] 47 (0, 0)) (by (with_reducible repeat (first | refine bkN ?_ _ | refine bkD ?_ | refine bkA ?_ _)); exact BK398.out) hb); have n2_ := Aside0.mk (bkB (g := gb399) (o := .cells #[.int .i64 a2_0, .int .i64 a2_1, .int .i64 a2_2, .int .i64 a2_3, .int .i64 a2_4, .int .i64 a2_5, .int .i64 a2_6] 56 (0, 0)) (by (with_reducible repeat (first | refine bkN ?_ _ | refine bkD ?_ | refine bkA ?_ _)); exact BK399.out) hb); have n3_ := Aside0.mk (below_step (by repeat (first | (with_reducible first | exact HB.out | apply blA | apply blN | apply blD | refine blS ?_ GE397.out | refine blS ?_ GE398.out | refine blS ?_ GE399.out) | exact HB.out)) hb); have n4_ := Aside0.mk (hbox); have n5_ := Aside0.mk ((by rw [hg]; exact (below_size (by repeat (first | (with_reducible first | exact HB.out | apply blA | apply blN | apply blD | refine blS ?_ GE397.out | refine blS ?_ GE398.out | refine blS ?_ GE399.out) | exact HB.out))) : w.heap.size ≤ gb404)); have n6_ := Aside0.mk ((by rw [hg]; exact (below_size (by repeat (first | (with_reducible first | exact HB.out | apply blA | apply blN | apply blD | refine blS ?_ GE397.out | refine blS ?_ GE398.out | refine blS ?_ GE399.out) | exact HB.out))) : w.heap.size ≤ gb404)); have n7_ := Aside0.mk ((by rw [hg]; exact Nat.ne_of_lt (blk_lt (g := gb397) (o := .cells #[.slice A0_0 l0_0.length c0_0, .slice A0_1 l0_1.length c0_1, .slice A0_2 l0_2.length c0_2, .int .i64 a0_3, .int .i64 a0_4, .int .i64 a0_5] 26 (0, 0)) (by (with_reducible repeat (first | refine bkN ?_ _ | refine bkD ?_ | refine bkA ?_ _)); exact BK397.out)) : gb397 ≠ gb404)); have n8_ := Aside0.mk ((by rw [hg]; exact Nat.ne_of_gt (blk_lt (g := gb397) (o := .cells #[.slice A0_0 l0_0.length c0_0, .slice A0_1 l0_1.length c0_1, .slice A0_2 l0_2.length c0_2, .int .i64 a0_3, .int .i64 a0_4, .int .i64 a0_5] 26 (0, 0)) (by (with_reducible repeat (first | refine bkN ?_ _ | refine bkD ?_ | refine bkA ?_ _)); exact BK397.out)) : gb404 ≠ gb397)); have n9_ := Aside0.mk ((by rw [hg]; exact Nat.ne_of_lt (blk_lt (g := gb398) (o := .cells #[.int .i64 a1_0, .int .i64 a1_1, .int .i64 a1_2, .int .i64 a1_3, .int .i64 a1_4] 47 (0, 0)) (by (with_reducible repeat (first | refine bkN ?_ _ | refine bkD ?_ | refine bkA ?_ _)); exact BK398.out)) : gb398 ≠ gb404)); have n10_ := Aside0.mk ((by rw [hg]; exact Nat.ne_of_gt (blk_lt (g := gb398) (o := .cells #[.int .i64 a1_0, .int .i64 a1_1, .int .i64 a1_2, .int .i64 a1_3, .int .i64 a1_4] 47 (0, 0)) (by (with_reducible repeat (first | refine bkN ?_ _ | refine bkD ?_ | refine bkA ?_ _)); exact BK398.out)) : gb404 ≠ gb398)); have n11_ := Aside0.mk ((by rw [hg]; exact Nat.ne_of_lt (blk_lt (g := gb399) (o := .cells #[.int .i64 a2_0, .int .i64 a2_1, .int .i64 a2_2, .int .i64 a2_3, .int .i64 a2_4, .int .i64 a2_5, .int .i64 a2_6] 56 (0, 0)) (by (with_reducible repeat (first | refine bkN ?_ _ | refine bkD ?_ | refine bkA ?_ _)); exact BK399.out)) : gb399 ≠ gb404)); have n12_ := Aside0.mk ((by rw [hg]; exact Nat.ne_of_gt (blk_lt (g := gb399) (o := .cells #[.int .i64 a2_0, .int .i64 a2_1, .int .i64 a2_2, .int .i64 a2_3, .int .i64 a2_4, .int .i64 a2_5, .int .i64 a2_6] 56 (0, 0)) (by (with_reducible repeat (first | refine bkN ?_ _ | refine bkD ?_ | refine bkA ?_ _)); exact BK399.out)) : gb404 ≠ gb399)); clear BK397; clear BK398; clear BK399; clear HB; have BK397 := n0_; have BK398 := n1_; have BK399 := n2_; have HB := n3_; have BK404 := n4_; have GW404 := n5_; have GE404 := n6_; have NB397_404 := n7_; have NB404_397 := n8_; have NB398_404 := n9_; have NB404_398 := n10_; have NB399_404 := n11_; have NB404_399 := n12_; clear n0_ n1_ n2_ n3_ n4_ n5_ n6_ n7_ n8_ n9_ n10_ n11_ n12_; clear hb hbox hg; have hnb48 := NB404_397.out; have hnc48 := NB397_404.out; have hnb49 := NB404_398.out; have hnc49 := NB398_404.out; have hnb50 := NB404_399.out; have hnc50 := NB399_404.out; have hcz51_0 : w47.cell? ⟨gb404, 0, none⟩ = some (.slice none 0 0) := (bkC BK404.out 0).trans rfl; have hcz51_1 : w47.cell? ⟨gb404, 1, none⟩ = some (.slice none 0 0) := (bkC BK404.out 1).trans rfl; have hcz51_2 : w47.cell? ⟨gb404, 2, none⟩ = some (.slice none 0 0) := (bkC BK404.out 2).trans rfl; have hcz51_3 : w47.cell? ⟨gb404, 3, none⟩ = some (.int .i64 0) := (bkC BK404.out 3).trans rfl; have hcz51_4 : w47.cell? ⟨gb404, 4, none⟩ = some (.int .i64 0) := (bkC BK404.out 4).trans rfl; have hcz51_5 : w47.cell? ⟨gb404, 5, none⟩ = some (.int .i64 0) := (bkC BK404.out 5).trans rfl; have hfz51_0 := bkF BK404.out 0; have hfz51_1 := bkF BK404.out 1; have hfz51_2 := bkF BK404.out 2; have hfz51_3 := bkF BK404.out 3; have hfz51_4 := bkF BK404.out 4; have hfz51_5 := bkF BK404.out 5))
     have n0_ : Aside0 (((((((w47.setCell ⟨gb404, 0, none⟩ (.slice A0_0 l0_0.length c0_0)).setCell ⟨gb404, 1, none⟩ (.slice A0_1 l0_1.length c0_1)).setCell ⟨gb404, 2, none⟩ (.slice A0_2 l0_2.length c0_2)).setCell ⟨gb404, 3, none⟩ (.int .i64 a0_3)).setCell ⟨gb404, 4, none⟩ (.int .i64 a0_4)).setCell ⟨gb404, 5, none⟩ (.int .i64 a0_5)).heap[gb397]? = some (.cells #[.slice A0_0 l0_0.length c0_0, .slice A0_1 l0_1.length c0_1, .slice A0_2 l0_2.length c0_2, .int .i64 a0_3, .int .i64 a0_4, .int .i64 a0_5] 26 (0, 0))) := ⟨by (with_reducible repeat (first | refine bkN ?_ _ | refine bkD ?_ | refine bkA ?_ _)); refine blk_far ?_ NB397_404.out _; (with_reducible repeat (first | refine bkN ?_ _ | refine bkD ?_ | refine bkA ?_ _)); refine blk_far ?_ NB397_404.out _; (with_reducible repeat (first | refine bkN ?_ _ | refine bkD ?_ | refine bkA ?_ _)); refine blk_far ?_ NB397_404.out _; (with_reducible repeat (first | refine bkN ?_ _ | refine bkD ?_ | refine bkA ?_ _)); refine blk_far ?_ NB397_404.out _; (with_reducible repeat (first | refine bkN ?_ _ | refine bkD ?_ | refine bkA ?_ _)); refine blk_far ?_ NB397_404.out _; (with_reducible repeat (first | refine bkN ?_ _ | refine bkD ?_ | refine bkA ?_ _)); refine blk_far ?_ NB397_404.out _; (with_reducible repeat (first | refine bkN ?_ _ | refine bkD ?_ | refine bkA ?_ _)); exact BK397.out⟩
     have n1_ : Aside0 (((((((w47.setCell ⟨gb404, 0, none⟩ (.slice A0_0 l0_0.length c0_0)).setCell ⟨gb404, 1, none⟩ (.slice A0_1 l0_1.length c0_1)).setCell ⟨gb404, 2, none⟩ (.slice A0_2 l0_2.length c0_2)).setCell ⟨gb404, 3, none⟩ (.int .i64 a0_3)).setCell ⟨gb404, 4, none⟩ (.int .i64 a0_4)).setCell ⟨gb404, 5, none⟩ (.int .i64 a0_5)).heap[gb398]? = some (.cells #[.int .i64 a1_0, .int .i64 a1_1, .int .i64 a1_2, .int .i64 a1_3, .int .i64 a1_4] 47 (0, 0))) := ⟨by (with_reducible repeat (first | refine bkN ?_ _ | refine bkD ?_ | refine bkA ?_ _)); refine blk_far ?_ NB398_404.out _; (with_reducible repeat (first | refine bkN ?_ _ | refine bkD ?_ | refine bkA ?_ _)); refine blk_far ?_ NB398_404.out _; (with_reducible repeat (first | refine bkN ?_ _ | refine bkD ?_ | refine bkA ?_ _)); refine blk_far ?_ NB398_404.out _; (with_reducible repeat (first | refine bkN ?_ _ | refine bkD ?_ | refine bkA ?_ _)); refine blk_far ?_ NB398_404.out _; (with_reducible repeat (first | refine bkN ?_ _ | refine bkD ?_ | refine bkA ?_ _)); refine blk_far ?_ NB398_404.out _; (with_reducible repeat (first | refine bkN ?_ _ | refine bkD ?_ | refine bkA ?_ _)); refine blk_far ?_ NB398_404.out _; (with_reducible repeat (first | refine bkN ?_ _ | refine bkD ?_ | refine bkA ?_ _)); exact BK398.out⟩
     have n2_ : Aside0 (((((((w47.setCell ⟨gb404, 0, none⟩ (.slice A0_0 l0_0.length c0_0)).setCell ⟨gb404, 1, none⟩ (.slice A0_1 l0_1.length c0_1)).setCell ⟨gb404, 2, none⟩ (.slice A0_2 l0_2.length c0_2)).setCell ⟨gb404, 3, none⟩ (.int .i64 a0_3)).setCell ⟨gb404, 4, none⟩ (.int .i64 a0_4)).setCell ⟨gb404, 5, none⟩ (.int .i64 a0_5)).heap[gb399]? = some (.cells #[.int .i64 a2_0, .int .i64 a2_1, .int .i64 a2_2, .int .i64 a2_3, .int .i64 a2_4, .int .i64 a2_5, .int .i64 a2_6] 56 (0, 0))) := ⟨by (with_reducible repeat (first | refine bkN ?_ _ | refine bkD ?_ | refine bkA ?_ _)); refine blk_far ?_ NB399_404.out _; (with_reducible repeat (first | refine bkN ?_ _ | refine bkD ?_ | refine bkA ?_ _)); refine blk_far ?_ NB399_404.out _; (with_reducible repeat (first | refine bkN ?_ _ | refine bkD ?_ | refine bkA ?_ _)); refine blk_far ?_ NB399_404.out _; (with_reducible repeat (first | refine bkN ?_ _ | refine bkD ?_ | refine bkA ?_ _)); refine blk_far ?_ NB399_404.out _; (with_reducible repeat (first | refine bkN ?_ _ | refine bkD ?_ | refine bkA ?_ _)); refine blk_far ?_ NB399_404.out _; (with_reducible repeat (first | refine bkN ?_ _ | refine bkD ?_ | refine bkA ?_ _)); refine blk_far ?_ NB399_404.out _; (with_reducible repeat (first | refine bkN ?_ _ | refine bkD ?_ | refine bkA ?_ _)); exact BK399.out⟩
     have n3_ : Aside0 (((((((w47.setCell ⟨gb404, 0, none⟩ (.slice A0_0 l0_0.length c0_0)).setCell ⟨gb404, 1, none⟩ (.slice A0_1 l0_1.length c0_1)).setCell ⟨gb404, 2, none⟩ (.slice A0_2 l0_2.length c0_2)).setCell ⟨gb404, 3, none⟩ (.int .i64 a0_3)).setCell ⟨gb404, 4, none⟩ (.int .i64 a0_4)).setCell ⟨gb404, 5, none⟩ (.int .i64 a0_5)).heap[gb404]? = some (.cells #[.slice A0_0 l0_0.length c0_0, .slice A0_1 l0_1.length c0_1, .slice A0_2 l0_2.length c0_2, .int .i64 a0_3, .int .i64 a0_4, .int .i64 a0_5] 26 (0, 0))) := ⟨by (with_reducible repeat (first | refine bkN ?_ _ | refine bkD ?_ | refine bkA ?_ _)); refine blk_put (cs := #[.slice A0_0 l0_0.length c0_0, .slice A0_1 l0_1.length c0_1, .slice A0_2 l0_2.length c0_2, .int .i64 a0_3, .int .i64 a0_4, .int .i64 0]) ?_ 5 _ rfl; (with_reducible repeat (first | refine bkN ?_ _ | refine bkD ?_ | refine bkA ?_ _)); refine blk_put (cs := #[.slice A0_0 l0_0.length c0_0, .slice A0_1 l0_1.length c0_1, .slice A0_2 l0_2.length c0_2, .int .i64 a0_3, .int .i64 0, .int .i64 0]) ?_ 4 _ rfl; (with_reducible repeat (first | refine bkN ?_ _ | refine bkD ?_ | refine bkA ?_ _)); refine blk_put (cs := #[.slice A0_0 l0_0.length c0_0, .slice A0_1 l0_1.length c0_1, .slice A0_2 l0_2.length c0_2, .int .i64 0, .int .i64 0, .int .i64 0]) ?_ 3 _ rfl; (with_reducible repeat (first | refine bkN ?_ _ | refine bkD ?_ | refine bkA ?_ _)); refine blk_put (cs := #[.slice A0_0 l0_0.length c0_0, .slice A0_1 l0_1.length c0_1, .slice none 0 0, .int .i64 0, .int .i64 0, .int .i64 0]) ?_ 2 _ rfl; (with_reducible repeat (first | refine bkN ?_ _ | refine bkD ?_ | refine bkA ?_ _)); refine blk_put (cs := #[.slice A0_0 l0_0.length c0_0, .slice none 0 0, .slice none 0 0, .int .i64 0, .int .i64 0, .int .i64 0]) ?_ 1 _ rfl; (with_reducible repeat (first | refine bkN ?_ _ | refine bkD ?_ | refine bkA ?_ _)); refine blk_put (cs := #[.slice none 0 0, .slice none 0 0, .slice none 0 0, .int .i64 0, .int .i64 0, .int .i64 0]) ?_ 0 _ rfl; (with_reducible repeat (first | refine bkN ?_ _ | refine bkD ?_ | refine bkA ?_ _)); exact BK404.out⟩
     have n4_ : Aside0 (Below w.heap.size w ((((((w47.setCell ⟨gb404, 0, none⟩ (.slice A0_0 l0_0.length c0_0)).setCell ⟨gb404, 1, none⟩ (.slice A0_1 l0_1.length c0_1)).setCell ⟨gb404, 2, none⟩ (.slice A0_2 l0_2.length c0_2)).setCell ⟨gb404, 3, none⟩ (.int .i64 a0_3)).setCell ⟨gb404, 4, none⟩ (.int .i64 a0_4)).setCell ⟨gb404, 5, none⟩ (.int .i64 a0_5))) := ⟨by repeat (first | (with_reducible first | exact HB.out | apply blA | apply blN | apply blD | refine blS ?_ GE397.out | refine blS ?_ GE398.out | refine blS ?_ GE399.out | refine blS ?_ GE404.out) | exact HB.out)⟩
     (try clear BK397)
     (try clear BK398)
     (try clear BK399)
     (try clear BK404)
     (try clear HB)
     generalize ((((((w47.setCell ⟨gb404, 0, none⟩ (.slice A0_0 l0_0.length c0_0)).setCell ⟨gb404, 1, none⟩ (.slice A0_1 l0_1.length c0_1)).setCell ⟨gb404, 2, none⟩ (.slice A0_2 l0_2.length c0_2)).setCell ⟨gb404, 3, none⟩ (.int .i64 a0_3)).setCell ⟨gb404, 4, none⟩ (.int .i64 a0_4)).setCell ⟨gb404, 5, none⟩ (.int .i64 a0_5)) = w52 at n0_ n1_ n2_ n3_ n4_ ⊢
     have BK397 := n0_
     have BK398 := n1_
     have BK399 := n2_
     have BK404 := n3_
     have HB := n4_
     clear n0_ n1_ n2_ n3_ n4_
     have n0_ := Aside0.mk (bkD BK397.out)
     have n1_ := Aside0.mk (bkD BK398.out)
     have n2_ := Aside0.mk (bkD BK399.out)
     have n3_ := Aside0.mk (bkD BK404.out)
     have n4_ := Aside0.mk (blD HB.out)
     clear BK397
     clear BK398
     clear BK399
     clear BK404
     clear HB
     have BK397 := n0_
     have BK398 := n1_
     have BK399 := n2_
     have BK404 := n3_
     have HB := n4_
     clear n0_ n1_ n2_ n3_ n4_
     refine start_ (n := 8) (S := fun w' => w'.cell? ⟨gb397, 0, none⟩ = some (.slice A0_0 l0_0.length c0_0) ∧ w'.cell? ⟨gb397, 1, none⟩ = some (.slice A0_1 l0_1.length c0_1) ∧ w'.cell? ⟨gb397, 2, none⟩ = some (.slice A0_2 l0_2.length c0_2) ∧ w'.cell? ⟨gb397, 3, none⟩ = some (.int .i64 a0_3) ∧ w'.cell? ⟨gb397, 4, none⟩ = some (.int .i64 a0_4) ∧ w'.cell? ⟨gb397, 5, none⟩ = some (.int .i64 a0_5) ∧ w'.cell? ⟨gb398, 0, none⟩ = some (.int .i64 a1_0) ∧ w'.cell? ⟨gb398, 1, none⟩ = some (.int .i64 a1_1) ∧ w'.cell? ⟨gb398, 2, none⟩ = some (.int .i64 a1_2) ∧ w'.cell? ⟨gb398, 3, none⟩ = some (.int .i64 a1_3) ∧ w'.cell? ⟨gb398, 4, none⟩ = some (.int .i64 a1_4)) (ds := []) #[false, false, false, false, false, false, false, false] (by kernel_rfl) rfl rfl ⟨(bkC BK397.out 0).trans rfl, (bkC BK397.out 1).trans rfl, (bkC BK397.out 2).trans rfl, (bkC BK397.out 3).trans rfl, (bkC BK397.out 4).trans rfl, (bkC BK397.out 5).trans rfl, (bkC BK398.out 0).trans rfl, (bkC BK398.out 1).trans rfl, (bkC BK398.out 2).trans rfl, (bkC BK398.out 3).trans rfl, (bkC BK398.out 4).trans rfl⟩ (fun hHeld => ?_); refine with_tabW hopmeshlaw05_GeometryWalls.tab11 hopmeshlaw05_GeometryWalls.bits11 (fun HT_ HW_ => ?_)
     generalize w52.drew = w53 at BK397 BK398 BK399 BK404 HB hHeld ⊢
     refine pure_ (i := 0) (N := some 47) (v := ?_) (a' := ?_) #[true, false, false, false, false, false, false, false] rfl rfl (any_of HT_.out (by kernel_rfl)) (fun _ _ _ h => h) (Or.inl ⟨by rfl, ?_⟩) ?_ ?_
     rotate_left
     ·intro w'
      go_simp
      with_reducible rfl
     rotate_left
     ·simp only [Act.put, List.setIfInBounds_toArray, List.set_cons_zero, List.set_cons_succ, i64_w, i32_w]
      rfl
     refine take_ (i := 1) (N := some 48) (v := ?_) (a' := ?_) #[true, true, false, false, false, false, false, false] rfl rfl (take_ofW HT_.out HW_.out (by kernel_rfl)) (fun _ _ _ h => h) (Or.inl ⟨by rfl, ?_⟩) hHeld ?_ ?_
     rotate_left
     ·rintro w' ⟨s0, s1, s2, s3, s4, s5, s6, s7, s8, s9, s10⟩
      go_simp
      with_reducible rfl
     rotate_left
     ·simp only [Act.put, List.setIfInBounds_toArray, List.set_cons_zero, List.set_cons_succ, i64_w, i32_w]
      rfl
     refine take_ (i := 3) (N := some 50) (v := ?_) (a' := ?_) #[true, true, false, true, false, false, false, false] rfl rfl (take_ofW HT_.out HW_.out (by kernel_rfl)) (fun _ _ _ h => h) (Or.inl ⟨by rfl, ?_⟩) hHeld ?_ ?_
     rotate_left
     ·rintro w' ⟨s0, s1, s2, s3, s4, s5, s6, s7, s8, s9, s10⟩
      go_simp
      with_reducible rfl
     rotate_left
     ·simp only [Act.put, List.setIfInBounds_toArray, List.set_cons_zero, List.set_cons_succ, i64_w, i32_w]
      rfl
     refine join_ (σ := Value × Value) 3 #[true, true, true, true, true, false, false, false] (fun s_ => [(49, s_.1), (51, s_.2)]) (fun s_ w' => (w'.cell? ⟨gb397, 0, none⟩ = some (.slice A0_0 l0_0.length c0_0) ∧ w'.cell? ⟨gb397, 1, none⟩ = some (.slice A0_1 l0_1.length c0_1) ∧ w'.cell? ⟨gb397, 2, none⟩ = some (.slice A0_2 l0_2.length c0_2) ∧ w'.cell? ⟨gb397, 3, none⟩ = some (.int .i64 a0_3) ∧ w'.cell? ⟨gb397, 4, none⟩ = some (.int .i64 a0_4) ∧ w'.cell? ⟨gb397, 5, none⟩ = some (.int .i64 a0_5) ∧ w'.cell? ⟨gb398, 0, none⟩ = some (.int .i64 a1_0) ∧ w'.cell? ⟨gb398, 1, none⟩ = some (.int .i64 a1_1) ∧ w'.cell? ⟨gb398, 2, none⟩ = some (.int .i64 a1_2) ∧ w'.cell? ⟨gb398, 3, none⟩ = some (.int .i64 a1_3) ∧ w'.cell? ⟨gb398, 4, none⟩ = some (.int .i64 a1_4)) ∧ (Kd.R k47 47 w' w.heap.size (fun k_ => some k_ ≠ (s_.2 : Value).ownBlock ∧ k_ ≠ gb398) s_.1 t405) ∧ (Kd.R k47 47 w' w.heap.size (fun k_ => some k_ ≠ (s_.1 : Value).ownBlock ∧ k_ ≠ gb398) s_.2 y408) ∧ (w'.heap[gb397]? = some (.cells #[.slice A0_0 l0_0.length c0_0, .slice A0_1 l0_1.length c0_1, .slice A0_2 l0_2.length c0_2, .int .i64 a0_3, .int .i64 a0_4, .int .i64 a0_5] 26 (0, 0))) ∧ (w'.heap[gb398]? = some (.cells #[.int .i64 a1_0, .int .i64 a1_1, .int .i64 a1_2, .int .i64 a1_3, .int .i64 a1_4] 47 (0, 0))) ∧ (w'.heap[gb399]? = some (.cells #[.int .i64 a2_0, .int .i64 a2_1, .int .i64 a2_2, .int .i64 a2_3, .int .i64 a2_4, .int .i64 a2_5, .int .i64 a2_6] 56 (0, 0))) ∧ (w'.heap[gb404]? = some (.cells #[.slice A0_0 l0_0.length c0_0, .slice A0_1 l0_1.length c0_1, .slice A0_2 l0_2.length c0_2, .int .i64 a0_3, .int .i64 a0_4, .int .i64 a0_5] 26 (0, 0))) ∧ (Below w.heap.size w w')) ?_ ?_
     rotate_left
     ·intro hCont
      refine two_ (i := 2) (j := 4) (Ni := some 49) (Nj := some 51) #[true, true, true, true, false, false, false, false] #[true, true, false, true, true, false, false, false] rfl rfl rfl rfl (two_of HT_.out (by kernel_rfl)) (by decide) (by decide) (fun K hK => ?_) (fun K hK => ?_)
      rotate_left
      ·skip
       refine Kd.R_lit_step k47 _ 47 ?hg (N := 51) ?hd (xs := ([(⟨(⟨a1_0, a1_1⟩ : S28), (⟨a1_2, a1_3⟩ : S28), a1_4⟩ : S47)] : List (S47))) (inner := [.int .i64 a1_0, .int .i64 a1_1, .int .i64 a1_2, .int .i64 a1_3, .int .i64 a1_4]) (ok := fun _ => True) (okp := fun _ => True) ?hr ?hp (fun _ hk => hk) trivial (Below.refl _ _) (Nat.le_refl _) (by simp) ?_; (case hd => rfl); (case hg => rfl); (case hr => first | (go_simp; done) | (go_simp; rfl)); (case hp => exact (Reps.c5 (show Kd.M k47 _ _ _ (⟨(⟨a1_0, a1_1⟩ : S28), (⟨a1_2, a1_3⟩ : S28), a1_4⟩ : S47) [.int .i64 a1_0, .int .i64 a1_1, .int .i64 a1_2, .int .i64 a1_3, .int .i64 a1_4] from (k47_mkM _ _ _ (⟨(⟨a1_0, a1_1⟩ : S28), (⟨a1_2, a1_3⟩ : S28), a1_4⟩ : S47) )) (Reps.none _ _)))
       intro v409 w54 ho55 hb hg_ hnew_
       clear hg_ hnew_
       (first | rw [← Ny408.out] at ho55 | (simp only [Int.reduceToNat] at ho55; rw [← Ny408.out] at ho55))
       have n0_ := Aside0.mk (Kd.R_lower (Kd.R_newB ho55 (g := gb398) (o := .cells #[.int .i64 a1_0, .int .i64 a1_1, .int .i64 a1_2, .int .i64 a1_3, .int .i64 a1_4] 47 (0, 0)) (by (with_reducible repeat (first | refine bkN ?_ _ | refine bkD ?_ | refine bkA ?_ _)); exact BK398.out)) (below_size (by repeat (first | (with_reducible first | exact HB.out | apply blA | apply blN | apply blD | refine blS ?_ GE397.out | refine blS ?_ GE398.out | refine blS ?_ GE399.out | refine blS ?_ GE404.out) | exact HB.out))))
       have n1_ := Aside0.mk (bkB (g := gb397) (o := .cells #[.slice A0_0 l0_0.length c0_0, .slice A0_1 l0_1.length c0_1, .slice A0_2 l0_2.length c0_2, .int .i64 a0_3, .int .i64 a0_4, .int .i64 a0_5] 26 (0, 0)) (by (with_reducible repeat (first | refine bkN ?_ _ | refine bkD ?_ | refine bkA ?_ _)); exact BK397.out) hb)
       have n2_ := Aside0.mk (bkB (g := gb398) (o := .cells #[.int .i64 a1_0, .int .i64 a1_1, .int .i64 a1_2, .int .i64 a1_3, .int .i64 a1_4] 47 (0, 0)) (by (with_reducible repeat (first | refine bkN ?_ _ | refine bkD ?_ | refine bkA ?_ _)); exact BK398.out) hb)
       have n3_ := Aside0.mk (bkB (g := gb399) (o := .cells #[.int .i64 a2_0, .int .i64 a2_1, .int .i64 a2_2, .int .i64 a2_3, .int .i64 a2_4, .int .i64 a2_5, .int .i64 a2_6] 56 (0, 0)) (by (with_reducible repeat (first | refine bkN ?_ _ | refine bkD ?_ | refine bkA ?_ _)); exact BK399.out) hb)
       have n4_ := Aside0.mk (bkB (g := gb404) (o := .cells #[.slice A0_0 l0_0.length c0_0, .slice A0_1 l0_1.length c0_1, .slice A0_2 l0_2.length c0_2, .int .i64 a0_3, .int .i64 a0_4, .int .i64 a0_5] 26 (0, 0)) (by (with_reducible repeat (first | refine bkN ?_ _ | refine bkD ?_ | refine bkA ?_ _)); exact BK404.out) hb)
       have n5_ := Aside0.mk (below_step (by repeat (first | (with_reducible first | exact HB.out | apply blA | apply blN | apply blD | refine blS ?_ GE397.out | refine blS ?_ GE398.out | refine blS ?_ GE399.out | refine blS ?_ GE404.out) | exact HB.out)) hb)
       clear BK397
       clear BK398
       clear BK399
       clear BK404
       clear HB
       have HO410 := n0_
       have BK397 := n1_
       have BK398 := n2_
       have BK399 := n3_
       have BK404 := n4_
       have HB := n5_
       clear n0_ n1_ n2_ n3_ n4_ n5_
       clear hb ho55
       refine hK.out _ _ ⟨(bkC BK397.out 0).trans rfl, (bkC BK397.out 1).trans rfl, (bkC BK397.out 2).trans rfl, (bkC BK397.out 3).trans rfl, (bkC BK397.out 4).trans rfl, (bkC BK397.out 5).trans rfl, (bkC BK398.out 0).trans rfl, (bkC BK398.out 1).trans rfl, (bkC BK398.out 2).trans rfl, (bkC BK398.out 3).trans rfl, (bkC BK398.out 4).trans rfl⟩ (fun hHeld => ?_)
       clear hK K
       refine norm_ (a' := ?_) ?_ ?_
       rotate_left
       ·show Act.put _ (some 51) _ = _
        simp only [Act.put, List.setIfInBounds_toArray, List.set_cons_zero, List.set_cons_succ, i64_w, i32_w]
        rfl
       refine one_ (i := 2) (N := some 49) #[true, true, true, true, true, false, false, false] rfl rfl (one_of HT_.out (by kernel_rfl)) (by decide) (fun K hK => ?_)
       refine goes_ Try.func32 (by kernel_rfl) rfl #[.slice A0_2 l0_2.length c0_2] (by rfl) rfl rfl (by (try simp only [List.map_toArray, List.map_cons, List.map_nil]); first | done | rfl | (simp only [List.length_drop, List.length_take]; rfl)) ?_
       with_reducible refine (slices_Clone_api_Wall_api_Wall.calls _ _ l0_2 t405 _ ?side1 ?side2 A37.out).mono ?_
       (case side1 => repeat (first | exact (Kd.C_below HR0_2.out HB.out) | (with_reducible refine Kd.C_alloc ?_ _) | (with_reducible refine Kd.C_drewN ?_ _) | (with_reducible refine Kd.C_drew ?_)))
       (case side2 => exact HC0_2.out)
       rintro e w56 ⟨v406, rfl, ho0, hb⟩
       refine ⟨_, rfl, ?_⟩
       have n0_ := Aside0.mk (Kd.R_elder' (by (with_reducible repeat (first | apply Kd.R_alloc | apply Kd.R_drewN | apply Kd.R_drew)); exact HO410.out) (Kd.R_base ho0) hb)
       have n1_ := Aside0.mk (Kd.R_lower (Kd.R_newB (Kd.R_new' ho0 (Kd.R_lt (by (with_reducible repeat (first | apply Kd.R_alloc | apply Kd.R_drewN | apply Kd.R_drew)); exact HO410.out))) (g := gb398) (o := .cells #[.int .i64 a1_0, .int .i64 a1_1, .int .i64 a1_2, .int .i64 a1_3, .int .i64 a1_4] 47 (0, 0)) (by (with_reducible repeat (first | refine bkN ?_ _ | refine bkD ?_ | refine bkA ?_ _)); exact BK398.out)) (below_size (by repeat (first | (with_reducible first | exact HB.out | apply blA | apply blN | apply blD | refine blS ?_ GE397.out | refine blS ?_ GE398.out | refine blS ?_ GE399.out | refine blS ?_ GE404.out) | exact HB.out))))
       have n2_ := Aside0.mk (bkB (g := gb397) (o := .cells #[.slice A0_0 l0_0.length c0_0, .slice A0_1 l0_1.length c0_1, .slice A0_2 l0_2.length c0_2, .int .i64 a0_3, .int .i64 a0_4, .int .i64 a0_5] 26 (0, 0)) (by (with_reducible repeat (first | refine bkN ?_ _ | refine bkD ?_ | refine bkA ?_ _)); exact BK397.out) hb)
       have n3_ := Aside0.mk (bkB (g := gb398) (o := .cells #[.int .i64 a1_0, .int .i64 a1_1, .int .i64 a1_2, .int .i64 a1_3, .int .i64 a1_4] 47 (0, 0)) (by (with_reducible repeat (first | refine bkN ?_ _ | refine bkD ?_ | refine bkA ?_ _)); exact BK398.out) hb)
       have n4_ := Aside0.mk (bkB (g := gb399) (o := .cells #[.int .i64 a2_0, .int .i64 a2_1, .int .i64 a2_2, .int .i64 a2_3, .int .i64 a2_4, .int .i64 a2_5, .int .i64 a2_6] 56 (0, 0)) (by (with_reducible repeat (first | refine bkN ?_ _ | refine bkD ?_ | refine bkA ?_ _)); exact BK399.out) hb)
       have n5_ := Aside0.mk (bkB (g := gb404) (o := .cells #[.slice A0_0 l0_0.length c0_0, .slice A0_1 l0_1.length c0_1, .slice A0_2 l0_2.length c0_2, .int .i64 a0_3, .int .i64 a0_4, .int .i64 a0_5] 26 (0, 0)) (by (with_reducible repeat (first | refine bkN ?_ _ | refine bkD ?_ | refine bkA ?_ _)); exact BK404.out) hb)
       have n6_ := Aside0.mk (below_step (by repeat (first | (with_reducible first | exact HB.out | apply blA | apply blN | apply blD | refine blS ?_ GE397.out | refine blS ?_ GE398.out | refine blS ?_ GE399.out | refine blS ?_ GE404.out) | exact HB.out)) hb)
       clear HO410
       clear BK397
       clear BK398
       clear BK399
       clear BK404
       clear HB
       have HO410 := n0_
       have HO407 := n1_
       have BK397 := n2_
       have BK398 := n3_
       have BK399 := n4_
       have BK404 := n5_
       have HB := n6_
       clear n0_ n1_ n2_ n3_ n4_ n5_ n6_
       (try clear hb)
       (try clear hb2)
       (try clear hk)
       (try clear hi)
       (try clear ho0)
       refine hK.out _ _ ⟨(bkC BK397.out 0).trans rfl, (bkC BK397.out 1).trans rfl, (bkC BK397.out 2).trans rfl, (bkC BK397.out 3).trans rfl, (bkC BK397.out 4).trans rfl, (bkC BK397.out 5).trans rfl, (bkC BK398.out 0).trans rfl, (bkC BK398.out 1).trans rfl, (bkC BK398.out 2).trans rfl, (bkC BK398.out 3).trans rfl, (bkC BK398.out 4).trans rfl⟩ (fun hHeld => ?_)
       clear hK K
       refine norm_ (a' := ?_) ?_ ?_
       rotate_left
       ·show Act.put _ (some 49) _ = _
        simp only [Act.put, List.setIfInBounds_toArray, List.set_cons_zero, List.set_cons_succ, i64_w, i32_w]
        rfl
       exact norm_ (by simp only [putAll, Act.put, List.setIfInBounds_toArray, List.set_cons_zero, List.set_cons_succ]) (hCont (v406, v409) _ ⟨hHeld, (by (with_reducible repeat (first | apply Kd.R_alloc | apply Kd.R_drewN | apply Kd.R_drew)); exact Kd.R_mono HO407.out (fun _ hk => ⟨hk.1.2, hk.2⟩)), (by (with_reducible repeat (first | apply Kd.R_alloc | apply Kd.R_drewN | apply Kd.R_drew)); exact Kd.R_mono HO410.out (fun _ hk => ⟨hk.2, hk.1.2⟩)), (by (with_reducible repeat (first | refine bkN ?_ _ | refine bkD ?_ | refine bkA ?_ _)); exact BK397.out), (by (with_reducible repeat (first | refine bkN ?_ _ | refine bkD ?_ | refine bkA ?_ _)); exact BK398.out), (by (with_reducible repeat (first | refine bkN ?_ _ | refine bkD ?_ | refine bkA ?_ _)); exact BK399.out), (by (with_reducible repeat (first | refine bkN ?_ _ | refine bkD ?_ | refine bkA ?_ _)); exact BK404.out), (by repeat (first | (with_reducible first | exact HB.out | apply blA | apply blN | apply blD | refine blS ?_ GE397.out | refine blS ?_ GE398.out | refine blS ?_ GE399.out | refine blS ?_ GE404.out) | exact HB.out))⟩)
      skip
      refine goes_ Try.func32 (by kernel_rfl) rfl #[.slice A0_2 l0_2.length c0_2] (by rfl) rfl rfl (by (try simp only [List.map_toArray, List.map_cons, List.map_nil]); first | done | rfl | (simp only [List.length_drop, List.length_take]; rfl)) ?_
      with_reducible refine (slices_Clone_api_Wall_api_Wall.calls _ _ l0_2 t405 _ ?side1 ?side2 A37.out).mono ?_
      (case side1 => repeat (first | exact (Kd.C_below HR0_2.out HB.out) | (with_reducible refine Kd.C_alloc ?_ _) | (with_reducible refine Kd.C_drewN ?_ _) | (with_reducible refine Kd.C_drew ?_)))
      (case side2 => exact HC0_2.out)
      rintro e w54 ⟨v406, rfl, ho0, hb⟩
      refine ⟨_, rfl, ?_⟩
      have n0_ := Aside0.mk (Kd.R_lower (Kd.R_newB ho0 (g := gb398) (o := .cells #[.int .i64 a1_0, .int .i64 a1_1, .int .i64 a1_2, .int .i64 a1_3, .int .i64 a1_4] 47 (0, 0)) (by (with_reducible repeat (first | refine bkN ?_ _ | refine bkD ?_ | refine bkA ?_ _)); exact BK398.out)) (below_size (by repeat (first | (with_reducible first | exact HB.out | apply blA | apply blN | apply blD | refine blS ?_ GE397.out | refine blS ?_ GE398.out | refine blS ?_ GE399.out | refine blS ?_ GE404.out) | exact HB.out))))
      have n1_ := Aside0.mk (bkB (g := gb397) (o := .cells #[.slice A0_0 l0_0.length c0_0, .slice A0_1 l0_1.length c0_1, .slice A0_2 l0_2.length c0_2, .int .i64 a0_3, .int .i64 a0_4, .int .i64 a0_5] 26 (0, 0)) (by (with_reducible repeat (first | refine bkN ?_ _ | refine bkD ?_ | refine bkA ?_ _)); exact BK397.out) hb)
      have n2_ := Aside0.mk (bkB (g := gb398) (o := .cells #[.int .i64 a1_0, .int .i64 a1_1, .int .i64 a1_2, .int .i64 a1_3, .int .i64 a1_4] 47 (0, 0)) (by (with_reducible repeat (first | refine bkN ?_ _ | refine bkD ?_ | refine bkA ?_ _)); exact BK398.out) hb)
      have n3_ := Aside0.mk (bkB (g := gb399) (o := .cells #[.int .i64 a2_0, .int .i64 a2_1, .int .i64 a2_2, .int .i64 a2_3, .int .i64 a2_4, .int .i64 a2_5, .int .i64 a2_6] 56 (0, 0)) (by (with_reducible repeat (first | refine bkN ?_ _ | refine bkD ?_ | refine bkA ?_ _)); exact BK399.out) hb)
      have n4_ := Aside0.mk (bkB (g := gb404) (o := .cells #[.slice A0_0 l0_0.length c0_0, .slice A0_1 l0_1.length c0_1, .slice A0_2 l0_2.length c0_2, .int .i64 a0_3, .int .i64 a0_4, .int .i64 a0_5] 26 (0, 0)) (by (with_reducible repeat (first | refine bkN ?_ _ | refine bkD ?_ | refine bkA ?_ _)); exact BK404.out) hb)
      have n5_ := Aside0.mk (below_step (by repeat (first | (with_reducible first | exact HB.out | apply blA | apply blN | apply blD | refine blS ?_ GE397.out | refine blS ?_ GE398.out | refine blS ?_ GE399.out | refine blS ?_ GE404.out) | exact HB.out)) hb)
      clear BK397
      clear BK398
      clear BK399
      clear BK404
      clear HB
      have HO407 := n0_
      have BK397 := n1_
      have BK398 := n2_
      have BK399 := n3_
      have BK404 := n4_
      have HB := n5_
      clear n0_ n1_ n2_ n3_ n4_ n5_
      (try clear hb)
      (try clear hb2)
      (try clear hk)
      (try clear hi)
      (try clear ho0)
      refine hK.out _ _ ⟨(bkC BK397.out 0).trans rfl, (bkC BK397.out 1).trans rfl, (bkC BK397.out 2).trans rfl, (bkC BK397.out 3).trans rfl, (bkC BK397.out 4).trans rfl, (bkC BK397.out 5).trans rfl, (bkC BK398.out 0).trans rfl, (bkC BK398.out 1).trans rfl, (bkC BK398.out 2).trans rfl, (bkC BK398.out 3).trans rfl, (bkC BK398.out 4).trans rfl⟩ (fun hHeld => ?_)
      clear hK K
      refine norm_ (a' := ?_) ?_ ?_
      rotate_left
      ·show Act.put _ (some 49) _ = _
       simp only [Act.put, List.setIfInBounds_toArray, List.set_cons_zero, List.set_cons_succ, i64_w, i32_w]
       rfl
      refine one_ (i := 4) (N := some 51) #[true, true, true, true, true, false, false, false] rfl rfl (one_of HT_.out (by kernel_rfl)) (by decide) (fun K hK => ?_)
      refine Kd.R_lit_step k47 _ 47 ?hg (N := 51) ?hd (xs := ([(⟨(⟨a1_0, a1_1⟩ : S28), (⟨a1_2, a1_3⟩ : S28), a1_4⟩ : S47)] : List (S47))) (inner := [.int .i64 a1_0, .int .i64 a1_1, .int .i64 a1_2, .int .i64 a1_3, .int .i64 a1_4]) (ok := fun _ => True) (okp := fun _ => True) ?hr ?hp (fun _ hk => hk) trivial (Below.refl _ _) (Nat.le_refl _) (by simp) ?_; (case hd => rfl); (case hg => rfl); (case hr => first | (go_simp; done) | (go_simp; rfl)); (case hp => exact (Reps.c5 (show Kd.M k47 _ _ _ (⟨(⟨a1_0, a1_1⟩ : S28), (⟨a1_2, a1_3⟩ : S28), a1_4⟩ : S47) [.int .i64 a1_0, .int .i64 a1_1, .int .i64 a1_2, .int .i64 a1_3, .int .i64 a1_4] from (k47_mkM _ _ _ (⟨(⟨a1_0, a1_1⟩ : S28), (⟨a1_2, a1_3⟩ : S28), a1_4⟩ : S47) )) (Reps.none _ _)))
      intro v409 w55 ho56 hb hg_ hnew_
      clear hg_ hnew_
      (first | rw [← Ny408.out] at ho56 | (simp only [Int.reduceToNat] at ho56; rw [← Ny408.out] at ho56))
      have n0_ := Aside0.mk (Kd.R_elder' (by (with_reducible repeat (first | apply Kd.R_alloc | apply Kd.R_drewN | apply Kd.R_drew)); exact HO407.out) (Kd.R_base ho56) hb)
      have n1_ := Aside0.mk (Kd.R_lower (Kd.R_newB (Kd.R_new' ho56 (Kd.R_lt (by (with_reducible repeat (first | apply Kd.R_alloc | apply Kd.R_drewN | apply Kd.R_drew)); exact HO407.out))) (g := gb398) (o := .cells #[.int .i64 a1_0, .int .i64 a1_1, .int .i64 a1_2, .int .i64 a1_3, .int .i64 a1_4] 47 (0, 0)) (by (with_reducible repeat (first | refine bkN ?_ _ | refine bkD ?_ | refine bkA ?_ _)); exact BK398.out)) (below_size (by repeat (first | (with_reducible first | exact HB.out | apply blA | apply blN | apply blD | refine blS ?_ GE397.out | refine blS ?_ GE398.out | refine blS ?_ GE399.out | refine blS ?_ GE404.out) | exact HB.out))))
      have n2_ := Aside0.mk (bkB (g := gb397) (o := .cells #[.slice A0_0 l0_0.length c0_0, .slice A0_1 l0_1.length c0_1, .slice A0_2 l0_2.length c0_2, .int .i64 a0_3, .int .i64 a0_4, .int .i64 a0_5] 26 (0, 0)) (by (with_reducible repeat (first | refine bkN ?_ _ | refine bkD ?_ | refine bkA ?_ _)); exact BK397.out) hb)
      have n3_ := Aside0.mk (bkB (g := gb398) (o := .cells #[.int .i64 a1_0, .int .i64 a1_1, .int .i64 a1_2, .int .i64 a1_3, .int .i64 a1_4] 47 (0, 0)) (by (with_reducible repeat (first | refine bkN ?_ _ | refine bkD ?_ | refine bkA ?_ _)); exact BK398.out) hb)
      have n4_ := Aside0.mk (bkB (g := gb399) (o := .cells #[.int .i64 a2_0, .int .i64 a2_1, .int .i64 a2_2, .int .i64 a2_3, .int .i64 a2_4, .int .i64 a2_5, .int .i64 a2_6] 56 (0, 0)) (by (with_reducible repeat (first | refine bkN ?_ _ | refine bkD ?_ | refine bkA ?_ _)); exact BK399.out) hb)
      have n5_ := Aside0.mk (bkB (g := gb404) (o := .cells #[.slice A0_0 l0_0.length c0_0, .slice A0_1 l0_1.length c0_1, .slice A0_2 l0_2.length c0_2, .int .i64 a0_3, .int .i64 a0_4, .int .i64 a0_5] 26 (0, 0)) (by (with_reducible repeat (first | refine bkN ?_ _ | refine bkD ?_ | refine bkA ?_ _)); exact BK404.out) hb)
      have n6_ := Aside0.mk (below_step (by repeat (first | (with_reducible first | exact HB.out | apply blA | apply blN | apply blD | refine blS ?_ GE397.out | refine blS ?_ GE398.out | refine blS ?_ GE399.out | refine blS ?_ GE404.out) | exact HB.out)) hb)
      clear HO407
      clear BK397
      clear BK398
      clear BK399
      clear BK404
      clear HB
      have HO407 := n0_
      have HO410 := n1_
      have BK397 := n2_
      have BK398 := n3_
      have BK399 := n4_
      have BK404 := n5_
      have HB := n6_
      clear n0_ n1_ n2_ n3_ n4_ n5_ n6_
      clear hb ho56
      refine hK.out _ _ ⟨(bkC BK397.out 0).trans rfl, (bkC BK397.out 1).trans rfl, (bkC BK397.out 2).trans rfl, (bkC BK397.out 3).trans rfl, (bkC BK397.out 4).trans rfl, (bkC BK397.out 5).trans rfl, (bkC BK398.out 0).trans rfl, (bkC BK398.out 1).trans rfl, (bkC BK398.out 2).trans rfl, (bkC BK398.out 3).trans rfl, (bkC BK398.out 4).trans rfl⟩ (fun hHeld => ?_)
      clear hK K
      refine norm_ (a' := ?_) ?_ ?_
      rotate_left
      ·show Act.put _ (some 51) _ = _
       simp only [Act.put, List.setIfInBounds_toArray, List.set_cons_zero, List.set_cons_succ, i64_w, i32_w]
       rfl
      exact norm_ (by simp only [putAll, Act.put, List.setIfInBounds_toArray, List.set_cons_zero, List.set_cons_succ]) (hCont (v406, v409) _ ⟨hHeld, (by (with_reducible repeat (first | apply Kd.R_alloc | apply Kd.R_drewN | apply Kd.R_drew)); exact Kd.R_mono HO407.out (fun _ hk => ⟨hk.2, hk.1.2⟩)), (by (with_reducible repeat (first | apply Kd.R_alloc | apply Kd.R_drewN | apply Kd.R_drew)); exact Kd.R_mono HO410.out (fun _ hk => ⟨hk.1.2, hk.2⟩)), (by (with_reducible repeat (first | refine bkN ?_ _ | refine bkD ?_ | refine bkA ?_ _)); exact BK397.out), (by (with_reducible repeat (first | refine bkN ?_ _ | refine bkD ?_ | refine bkA ?_ _)); exact BK398.out), (by (with_reducible repeat (first | refine bkN ?_ _ | refine bkD ?_ | refine bkA ?_ _)); exact BK399.out), (by (with_reducible repeat (first | refine bkN ?_ _ | refine bkD ?_ | refine bkA ?_ _)); exact BK404.out), (by repeat (first | (with_reducible first | exact HB.out | apply blA | apply blN | apply blD | refine blS ?_ GE397.out | refine blS ?_ GE398.out | refine blS ?_ GE399.out | refine blS ?_ GE404.out) | exact HB.out))⟩)
     rintro ⟨v406, v409⟩ w57 ⟨hS_, h0_, h1_, h2_, h3_, h4_, h5_, h6_⟩
     have n0_ : Aside0 (Kd.R k47 47 w57 w.heap.size (fun k_ => some k_ ≠ (v409 : Value).ownBlock ∧ k_ ≠ gb398) v406 t405) := ⟨h0_⟩
     have n1_ : Aside0 (Kd.R k47 47 w57 w.heap.size (fun k_ => some k_ ≠ (v406 : Value).ownBlock ∧ k_ ≠ gb398) v409 y408) := ⟨h1_⟩
     have n2_ : Aside0 (w57.heap[gb397]? = some (.cells #[.slice A0_0 l0_0.length c0_0, .slice A0_1 l0_1.length c0_1, .slice A0_2 l0_2.length c0_2, .int .i64 a0_3, .int .i64 a0_4, .int .i64 a0_5] 26 (0, 0))) := ⟨h2_⟩
     have n3_ : Aside0 (w57.heap[gb398]? = some (.cells #[.int .i64 a1_0, .int .i64 a1_1, .int .i64 a1_2, .int .i64 a1_3, .int .i64 a1_4] 47 (0, 0))) := ⟨h3_⟩
     have n4_ : Aside0 (w57.heap[gb399]? = some (.cells #[.int .i64 a2_0, .int .i64 a2_1, .int .i64 a2_2, .int .i64 a2_3, .int .i64 a2_4, .int .i64 a2_5, .int .i64 a2_6] 56 (0, 0))) := ⟨h4_⟩
     have n5_ : Aside0 (w57.heap[gb404]? = some (.cells #[.slice A0_0 l0_0.length c0_0, .slice A0_1 l0_1.length c0_1, .slice A0_2 l0_2.length c0_2, .int .i64 a0_3, .int .i64 a0_4, .int .i64 a0_5] 26 (0, 0))) := ⟨h5_⟩
     have n6_ : Aside0 (Below w.heap.size w w57) := ⟨h6_⟩
     clear BK397
     clear BK398
     clear BK399
     clear BK404
     clear HB
     clear h0_ h1_ h2_ h3_ h4_ h5_ h6_
     have HO407 := n0_
     have HO410 := n1_
     have BK397 := n2_
     have BK398 := n3_
     have BK399 := n4_
     have BK404 := n5_
     have HB := n6_
     clear n0_ n1_ n2_ n3_ n4_ n5_ n6_
     have hHeld : w57.cell? ⟨gb397, 0, none⟩ = some (.slice A0_0 l0_0.length c0_0) ∧ w57.cell? ⟨gb397, 1, none⟩ = some (.slice A0_1 l0_1.length c0_1) ∧ w57.cell? ⟨gb397, 2, none⟩ = some (.slice A0_2 l0_2.length c0_2) ∧ w57.cell? ⟨gb397, 3, none⟩ = some (.int .i64 a0_3) ∧ w57.cell? ⟨gb397, 4, none⟩ = some (.int .i64 a0_4) ∧ w57.cell? ⟨gb397, 5, none⟩ = some (.int .i64 a0_5) ∧ w57.cell? ⟨gb398, 0, none⟩ = some (.int .i64 a1_0) ∧ w57.cell? ⟨gb398, 1, none⟩ = some (.int .i64 a1_1) ∧ w57.cell? ⟨gb398, 2, none⟩ = some (.int .i64 a1_2) ∧ w57.cell? ⟨gb398, 3, none⟩ = some (.int .i64 a1_3) ∧ w57.cell? ⟨gb398, 4, none⟩ = some (.int .i64 a1_4) := hS_
     obtain ⟨Ao59, co59, eo59⟩ := Kd.R_slice HO410.out
     (first | subst eo59 | (injection eo59 with f1_ f2_ f3_; have f4_ := f1_.symm; have f5_ := f3_.symm; clear f1_ f2_ f3_; subst f4_; subst f5_))
     refine norm_ (a' := ?_) ?_ ?_
     rotate_left
     ·simp only [putAll, Act.put, List.setIfInBounds_toArray, List.set_cons_zero, List.set_cons_succ]
      rfl
     refine one_ (i := 5) (N := some 52) #[true, true, true, true, true, true, false, false] rfl rfl (one_of HT_.out (by kernel_rfl)) (by decide) (fun K hK => ?_)
     refine Kd.R_append_rows_step k47 (w0 := w) w.heap.size (by rfl) (.tmp 49) (.tmp 51) 24 47 (.agg #[(.int .i64 0), (.int .i64 0), (.int .i64 0), (.int .i64 0), (.int .i64 0)]) 40 rfl Try.underlying24 info47 rfl (by decide) (by omega) v406 t405 y408 _ _ _ (fun k_ => some k_ ≠ (.slice Ao59 y408.length co59 : Value).ownBlock ∧ k_ ≠ gb398) (fun _ => False) rfl rfl ?aO ?aR (fun _ _ h => h) (fun _ h => h.elim) ?aF ?aB ?aS ?aL ?_
     (case aR => repeat (first | exact (Kd.R_reads' HO410.out).2.2 | (with_reducible refine Kd.C_alloc ?_ _) | (with_reducible refine Kd.C_drewN ?_ _) | (with_reducible refine Kd.C_drew ?_)))
     (case aB => exact (by repeat (first | (with_reducible first | exact HB.out | apply blA | apply blN | apply blD | refine blS ?_ GE397.out | refine blS ?_ GE398.out | refine blS ?_ GE399.out | refine blS ?_ GE404.out) | exact HB.out)))
     (case aF => exact (fun k_ hk => ⟨Kd.fresh' (Kd.R_lt (by (with_reducible repeat (first | apply Kd.R_alloc | apply Kd.R_drewN | apply Kd.R_drew)); exact HO410.out)) k_ hk, Kd.freshB (g := gb398) (o := .cells #[.int .i64 a1_0, .int .i64 a1_1, .int .i64 a1_2, .int .i64 a1_3, .int .i64 a1_4] 47 (0, 0)) (by (with_reducible repeat (first | refine bkN ?_ _ | refine bkD ?_ | refine bkA ?_ _)); exact BK398.out) k_ hk⟩))
     (case aO => exact (by (with_reducible repeat (first | apply Kd.R_alloc | apply Kd.R_drewN | apply Kd.R_drew)); exact HO407.out))
     (case aS => exact (below_size (by repeat (first | (with_reducible first | exact HB.out | apply blA | apply blN | apply blD | refine blS ?_ GE397.out | refine blS ?_ GE398.out | refine blS ?_ GE399.out | refine blS ?_ GE404.out) | exact HB.out))))
     (case aL => have := LMc38.out; omega)
     intro v412 w58 ho hb hg hat
     rw [← Ny411.out] at ho
     have n0_ := Aside0.mk (blk_grown (g := gb397) (o := .cells #[.slice A0_0 l0_0.length c0_0, .slice A0_1 l0_1.length c0_1, .slice A0_2 l0_2.length c0_2, .int .i64 a0_3, .int .i64 a0_4, .int .i64 a0_5] 26 (0, 0)) (by (with_reducible repeat (first | refine bkN ?_ _ | refine bkD ?_ | refine bkA ?_ _)); exact BK397.out) hg (Kd.R_ne HO407.out BK397.out (by decide)))
     have n1_ := Aside0.mk (blk_grown (g := gb398) (o := .cells #[.int .i64 a1_0, .int .i64 a1_1, .int .i64 a1_2, .int .i64 a1_3, .int .i64 a1_4] 47 (0, 0)) (by (with_reducible repeat (first | refine bkN ?_ _ | refine bkD ?_ | refine bkA ?_ _)); exact BK398.out) hg (Kd.R_away HO407.out (fun _ hk => hk.2)))
     have n2_ := Aside0.mk (blk_grown (g := gb399) (o := .cells #[.int .i64 a2_0, .int .i64 a2_1, .int .i64 a2_2, .int .i64 a2_3, .int .i64 a2_4, .int .i64 a2_5, .int .i64 a2_6] 56 (0, 0)) (by (with_reducible repeat (first | refine bkN ?_ _ | refine bkD ?_ | refine bkA ?_ _)); exact BK399.out) hg (Kd.R_ne HO407.out BK399.out (by decide)))
     have n3_ := Aside0.mk (blk_grown (g := gb404) (o := .cells #[.slice A0_0 l0_0.length c0_0, .slice A0_1 l0_1.length c0_1, .slice A0_2 l0_2.length c0_2, .int .i64 a0_3, .int .i64 a0_4, .int .i64 a0_5] 26 (0, 0)) (by (with_reducible repeat (first | refine bkN ?_ _ | refine bkD ?_ | refine bkA ?_ _)); exact BK404.out) hg (Kd.R_ne HO407.out BK404.out (by decide)))
     have n4_ := Aside0.mk (Kd.R_after (ok := (fun k_ => k_ ≠ gb398)) (by (with_reducible repeat (first | apply Kd.R_alloc | apply Kd.R_drewN | apply Kd.R_drew)); exact Kd.R_mono HO410.out (fun _ hk => ⟨hk.2, hk.1⟩)) hg hat)
     have n5_ := Aside0.mk (hb)
     have n6_ := Aside0.mk (ho)
     clear BK397
     clear BK398
     clear BK399
     clear BK404
     clear HO410
     clear HB
     clear HO407
     have BK397 := n0_
     have BK398 := n1_
     have BK399 := n2_
     have BK404 := n3_
     have HO410 := n4_
     have HB := n5_
     have HO413 := n6_
     clear n0_ n1_ n2_ n3_ n4_ n5_ n6_
     clear ho hb hg hat
     obtain ⟨Ao60, co60, eo60⟩ := Kd.R_slice HO413.out
     (first | subst eo60 | (injection eo60 with f1_ f2_ f3_; have f4_ := f1_.symm; have f5_ := f3_.symm; clear f1_ f2_ f3_; subst f4_; subst f5_))
     refine hK.out _ _ ⟨(bkC BK397.out 0).trans rfl, (bkC BK397.out 1).trans rfl, (bkC BK397.out 2).trans rfl, (bkC BK397.out 3).trans rfl, (bkC BK397.out 4).trans rfl, (bkC BK397.out 5).trans rfl, (bkC BK398.out 0).trans rfl, (bkC BK398.out 1).trans rfl, (bkC BK398.out 2).trans rfl, (bkC BK398.out 3).trans rfl, (bkC BK398.out 4).trans rfl⟩ (fun hHeld => ?_)
     clear hK K
     refine norm_ (a' := ?_) ?_ ?_
     rotate_left
     ·show Act.put _ (some 52) _ = _
      simp only [Act.put, List.setIfInBounds_toArray, List.set_cons_zero, List.set_cons_succ, i64_w, i32_w]
      rfl
     refine pure_ (i := 6) (N := some 53) (v := ?_) (a' := ?_) #[true, true, true, true, true, true, true, false] rfl rfl (any_of HT_.out (by kernel_rfl)) (fun _ _ _ h => h) (Or.inl ⟨by rfl, ?_⟩) ?_ ?_
     rotate_left
     ·intro w'
      go_simp
      with_reducible rfl
     rotate_left
     ·simp only [Act.put, List.setIfInBounds_toArray, List.set_cons_zero, List.set_cons_succ, i64_w, i32_w]
      rfl
     refine one_ (i := 7) (N := none) #[true, true, true, true, true, true, true, true] rfl rfl (one_of HT_.out (by kernel_rfl)) (by decide) (fun K hK => ?_)
     have hs61 : w58.cell? ⟨gb404, 2, none⟩ = some (.slice A0_2 l0_2.length c0_2) := (bkC BK404.out 2).trans rfl
     have hfs61 := bkF BK404.out 2
     have hns61_0 := NB397_404.out
     have hns61_1 := NB398_404.out
     have hns61_2 := NB399_404.out
     have hms61_0 := NB404_397.out
     have hms61_1 := NB404_398.out
     have hms61_2 := NB404_399.out
     refine skip_ (w1 := ?_) (by rfl) rfl ?_ ?_
     rotate_left
     ·go_simp
      rfl
     refine hK.out _ _ ⟨((cell_far (p := ⟨gb404, _, none⟩) NB397_404.out _).trans (hHeld.1)), ((cell_far (p := ⟨gb404, _, none⟩) NB397_404.out _).trans (hHeld.2.1)), ((cell_far (p := ⟨gb404, _, none⟩) NB397_404.out _).trans (hHeld.2.2.1)), ((cell_far (p := ⟨gb404, _, none⟩) NB397_404.out _).trans (hHeld.2.2.2.1)), ((cell_far (p := ⟨gb404, _, none⟩) NB397_404.out _).trans (hHeld.2.2.2.2.1)), ((cell_far (p := ⟨gb404, _, none⟩) NB397_404.out _).trans (hHeld.2.2.2.2.2.1)), ((cell_far (p := ⟨gb404, _, none⟩) NB398_404.out _).trans (hHeld.2.2.2.2.2.2.1)), ((cell_far (p := ⟨gb404, _, none⟩) NB398_404.out _).trans (hHeld.2.2.2.2.2.2.2.1)), ((cell_far (p := ⟨gb404, _, none⟩) NB398_404.out _).trans (hHeld.2.2.2.2.2.2.2.2.1)), ((cell_far (p := ⟨gb404, _, none⟩) NB398_404.out _).trans (hHeld.2.2.2.2.2.2.2.2.2.1)), ((cell_far (p := ⟨gb404, _, none⟩) NB398_404.out _).trans (hHeld.2.2.2.2.2.2.2.2.2.2))⟩ (fun hHeld => ?_)
     clear hK K
     refine done_ (done_of HT_.out (by kernel_rfl)) ?_
     have hcz62_0 : w58.cell? ⟨gb404, 0, none⟩ = some (.slice A0_0 l0_0.length c0_0) := (bkC BK404.out 0).trans rfl
     have hcz62_1 : w58.cell? ⟨gb404, 1, none⟩ = some (.slice A0_1 l0_1.length c0_1) := (bkC BK404.out 1).trans rfl
     have hcz62_2 : w58.cell? ⟨gb404, 2, none⟩ = some (.slice A0_2 l0_2.length c0_2) := (bkC BK404.out 2).trans rfl
     have hcz62_3 : w58.cell? ⟨gb404, 3, none⟩ = some (.int .i64 a0_3) := (bkC BK404.out 3).trans rfl
     have hcz62_4 : w58.cell? ⟨gb404, 4, none⟩ = some (.int .i64 a0_4) := (bkC BK404.out 4).trans rfl
     have hcz62_5 : w58.cell? ⟨gb404, 5, none⟩ = some (.int .i64 a0_5) := (bkC BK404.out 5).trans rfl
     have hfz62_0 := bkF BK404.out 0
     have hfz62_1 := bkF BK404.out 1
     have hfz62_2 := bkF BK404.out 2
     have hfz62_3 := bkF BK404.out 3
     have hfz62_4 := bkF BK404.out 4
     have hfz62_5 := bkF BK404.out 5
     have hnb63 := NB399_398.out
     have hnc63 := NB398_399.out
     have hcz64_0 : w58.cell? ⟨gb399, 0, none⟩ = some (.int .i64 a2_0) := (bkC BK399.out 0).trans rfl
     have hcz64_1 : w58.cell? ⟨gb399, 1, none⟩ = some (.int .i64 a2_1) := (bkC BK399.out 1).trans rfl
     have hcz64_2 : w58.cell? ⟨gb399, 2, none⟩ = some (.int .i64 a2_2) := (bkC BK399.out 2).trans rfl
     have hcz64_3 : w58.cell? ⟨gb399, 3, none⟩ = some (.int .i64 a2_3) := (bkC BK399.out 3).trans rfl
     have hcz64_4 : w58.cell? ⟨gb399, 4, none⟩ = some (.int .i64 a2_4) := (bkC BK399.out 4).trans rfl
     have hcz64_5 : w58.cell? ⟨gb399, 5, none⟩ = some (.int .i64 a2_5) := (bkC BK399.out 5).trans rfl
     have hcz64_6 : w58.cell? ⟨gb399, 6, none⟩ = some (.int .i64 a2_6) := (bkC BK399.out 6).trans rfl
     have hfz64_0 := bkF BK399.out 0
     have hfz64_1 := bkF BK399.out 1
     have hfz64_2 := bkF BK399.out 2
     have hfz64_3 := bkF BK399.out 3
     have hfz64_4 := bkF BK399.out 4
     have hfz64_5 := bkF BK399.out 5
     have hfz64_6 := bkF BK399.out 6
     try go_wp2_with (first | ((with_reducible refine gate_callee (f := 23) rfl ?_); refine goesL_ (some 62) rfl rfl Try.func23 (by kernel_rfl) rfl #[.agg #[.slice A0_0 l0_0.length c0_0, .slice A0_1 l0_1.length c0_1, .slice Ao60 y411.length co60, .int .i64 a0_3, .int .i64 a0_4, .int .i64 a0_5], .agg #[.int .i64 a2_0, .int .i64 a2_1], .int .i64 a2_4, .agg #[.int .i64 a2_2, .int .i64 a2_3]] rfl (by (try simp only [List.map_toArray, List.map_cons, List.map_nil]); first | done | rfl | (simp only [List.length_drop, List.length_take]; rfl)) ?_; (with_reducible refine (geometry_At.calls kj24 _ _ l0_0 _ _ l0_1 _ _ y411 a0_3 a0_4 a0_5 a2_0 a2_1 a2_4 a2_2 a2_3 t414 t415 _ ?side1 ?side2 ?side3 ?side4 ?side5 ?side6 A39.out).mono ?_); (case side1 => exact Kd.C_below HR0_0.out (by repeat (first | (with_reducible first | exact HB.out | apply blA | apply blN | apply blD | refine blS ?_ GE397.out | refine blS ?_ GE398.out | refine blS ?_ GE399.out | refine blS ?_ GE404.out) | exact HB.out))); (case side2 => exact HC0_0.out); (case side3 => exact Kd.C_below HR0_1.out (by repeat (first | (with_reducible first | exact HB.out | apply blA | apply blN | apply blD | refine blS ?_ GE397.out | refine blS ?_ GE398.out | refine blS ?_ GE399.out | refine blS ?_ GE404.out) | exact HB.out))); (case side4 => exact HC0_1.out); (case side5 => refine (Kd.R_reads' (e := 47) (base := w.heap.size) (ok := fun k_ => (some k_ ≠ (.slice Ao59 y408.length co59 : Value).ownBlock ∧ k_ ≠ gb398)) (n := y411.length) (c := co60) ?_).2.2; exact (by (with_reducible repeat (first | apply Kd.R_alloc | apply Kd.R_drewN | apply Kd.R_drew)); exact (Kd.R_mono (Kd.R_far (p := ⟨gb404, 2, none⟩) (Kd.R_types HO413.out BK404.out (by decide)) (fun _ hk => hk.2) (.slice Ao60 y411.length co60)) (fun _ h_ => h_.1)))); (case side6 => exact (Kd.R_reads' HO413.out).2.1); rintro e w65 ⟨rfl, hb⟩; refine ⟨_, rfl, ?_⟩; have n0_ := Aside0.mk (Kd.R_below (by (with_reducible repeat (first | apply Kd.R_alloc | apply Kd.R_drewN | apply Kd.R_drew)); exact (Kd.R_mono (Kd.R_far (p := ⟨gb404, 2, none⟩) (Kd.R_types HO410.out BK404.out (by decide)) (fun _ hk => hk.2) (.slice Ao60 y411.length co60)) (fun _ h_ => h_.1))) hb); have n1_ := Aside0.mk (Kd.R_below (by (with_reducible repeat (first | apply Kd.R_alloc | apply Kd.R_drewN | apply Kd.R_drew)); exact (Kd.R_mono (Kd.R_far (p := ⟨gb404, 2, none⟩) (Kd.R_types HO413.out BK404.out (by decide)) (fun _ hk => hk.2) (.slice Ao60 y411.length co60)) (fun _ h_ => h_.1))) hb); have n2_ := Aside0.mk (bkB (g := gb397) (o := .cells #[.slice A0_0 l0_0.length c0_0, .slice A0_1 l0_1.length c0_1, .slice A0_2 l0_2.length c0_2, .int .i64 a0_3, .int .i64 a0_4, .int .i64 a0_5] 26 (0, 0)) (by (with_reducible repeat (first | refine bkN ?_ _ | refine bkD ?_ | refine bkA ?_ _)); refine blk_far ?_ NB397_404.out _; (with_reducible repeat (first | refine bkN ?_ _ | refine bkD ?_ | refine bkA ?_ _)); exact BK397.out) hb); have n3_ := Aside0.mk (bkB (g := gb398) (o := .cells #[.int .i64 a1_0, .int .i64 a1_1, .int .i64 a1_2, .int .i64 a1_3, .int .i64 a1_4] 47 (0, 0)) (by (with_reducible repeat (first | refine bkN ?_ _ | refine bkD ?_ | refine bkA ?_ _)); refine blk_far ?_ NB398_404.out _; (with_reducible repeat (first | refine bkN ?_ _ | refine bkD ?_ | refine bkA ?_ _)); exact BK398.out) hb); have n4_ := Aside0.mk (bkB (g := gb399) (o := .cells #[.int .i64 a2_0, .int .i64 a2_1, .int .i64 a2_2, .int .i64 a2_3, .int .i64 a2_4, .int .i64 a2_5, .int .i64 a2_6] 56 (0, 0)) (by (with_reducible repeat (first | refine bkN ?_ _ | refine bkD ?_ | refine bkA ?_ _)); refine blk_far ?_ NB399_404.out _; (with_reducible repeat (first | refine bkN ?_ _ | refine bkD ?_ | refine bkA ?_ _)); exact BK399.out) hb); have n5_ := Aside0.mk (bkB (g := gb404) (o := .cells #[.slice A0_0 l0_0.length c0_0, .slice A0_1 l0_1.length c0_1, .slice Ao60 y411.length co60, .int .i64 a0_3, .int .i64 a0_4, .int .i64 a0_5] 26 (0, 0)) (by (with_reducible repeat (first | refine bkN ?_ _ | refine bkD ?_ | refine bkA ?_ _)); refine blk_put (cs := #[.slice A0_0 l0_0.length c0_0, .slice A0_1 l0_1.length c0_1, .slice A0_2 l0_2.length c0_2, .int .i64 a0_3, .int .i64 a0_4, .int .i64 a0_5]) ?_ 2 _ rfl; (with_reducible repeat (first | refine bkN ?_ _ | refine bkD ?_ | refine bkA ?_ _)); exact BK404.out) hb); have n6_ := Aside0.mk (below_step (by repeat (first | (with_reducible first | exact HB.out | apply blA | apply blN | apply blD | refine blS ?_ GE397.out | refine blS ?_ GE398.out | refine blS ?_ GE399.out | refine blS ?_ GE404.out) | exact HB.out)) hb); clear HO410; clear HO413; clear BK397; clear BK398; clear BK399; clear BK404; clear HB; have HO410 := n0_; have HO413 := n1_; have BK397 := n2_; have BK398 := n3_; have BK399 := n4_; have BK404 := n5_; have HB := n6_; clear n0_ n1_ n2_ n3_ n4_ n5_ n6_; (try clear hb); (try clear hb2); (try clear hk); (try clear hi); have hcz66_0 : w65.cell? ⟨gb399, 0, none⟩ = some (.int .i64 a2_0) := (bkC BK399.out 0).trans rfl; have hcz66_1 : w65.cell? ⟨gb399, 1, none⟩ = some (.int .i64 a2_1) := (bkC BK399.out 1).trans rfl; have hcz66_2 : w65.cell? ⟨gb399, 2, none⟩ = some (.int .i64 a2_2) := (bkC BK399.out 2).trans rfl; have hcz66_3 : w65.cell? ⟨gb399, 3, none⟩ = some (.int .i64 a2_3) := (bkC BK399.out 3).trans rfl; have hcz66_4 : w65.cell? ⟨gb399, 4, none⟩ = some (.int .i64 a2_4) := (bkC BK399.out 4).trans rfl; have hcz66_5 : w65.cell? ⟨gb399, 5, none⟩ = some (.int .i64 a2_5) := (bkC BK399.out 5).trans rfl; have hcz66_6 : w65.cell? ⟨gb399, 6, none⟩ = some (.int .i64 a2_6) := (bkC BK399.out 6).trans rfl; have hfz66_0 := bkF BK399.out 0; have hfz66_1 := bkF BK399.out 1; have hfz66_2 := bkF BK399.out 2; have hfz66_3 := bkF BK399.out 3; have hfz66_4 := bkF BK399.out 4; have hfz66_5 := bkF BK399.out 5; have hfz66_6 := bkF BK399.out 6; have hcz67_0 : w65.cell? ⟨gb398, 0, none⟩ = some (.int .i64 a1_0) := (bkC BK398.out 0).trans rfl; have hcz67_1 : w65.cell? ⟨gb398, 1, none⟩ = some (.int .i64 a1_1) := (bkC BK398.out 1).trans rfl; have hcz67_2 : w65.cell? ⟨gb398, 2, none⟩ = some (.int .i64 a1_2) := (bkC BK398.out 2).trans rfl; have hcz67_3 : w65.cell? ⟨gb398, 3, none⟩ = some (.int .i64 a1_3) := (bkC BK398.out 3).trans rfl; have hcz67_4 : w65.cell? ⟨gb398, 4, none⟩ = some (.int .i64 a1_4) := (bkC BK398.out 4).trans rfl; have hfz67_0 := bkF BK398.out 0; have hfz67_1 := bkF BK398.out 1; have hfz67_2 := bkF BK398.out 2; have hfz67_3 := bkF BK398.out 3; have hfz67_4 := bkF BK398.out 4) | ((with_reducible refine gate_callee (f := 27) rfl ?_); refine goesL_ (some 79) rfl rfl Try.func27 (by kernel_rfl) rfl #[.agg #[.int .i64 a2_0, .int .i64 a2_1], .agg #[.int .i64 a2_2, .int .i64 a2_3], .agg #[.int .i64 a1_0, .int .i64 a1_1, .int .i64 a1_2, .int .i64 a1_3, .int .i64 a1_4]] rfl (by (try simp only [List.map_toArray, List.map_cons, List.map_nil]); first | done | rfl | (simp only [List.length_drop, List.length_take]; rfl)) ?_; (with_reducible refine (geometry_Crosses.calls kj24 a2_0 a2_1 a2_2 a2_3 a1_0 a1_1 a1_2 a1_3 a1_4 true _ A41.out).mono ?_); rintro e w68 ⟨rfl, hb⟩; refine ⟨_, rfl, ?_⟩; have n0_ := Aside0.mk (Kd.R_below (by (with_reducible repeat (first | apply Kd.R_alloc | apply Kd.R_drewN | apply Kd.R_drew)); exact HO410.out) hb); have n1_ := Aside0.mk (Kd.R_below (by (with_reducible repeat (first | apply Kd.R_alloc | apply Kd.R_drewN | apply Kd.R_drew)); exact HO413.out) hb); have n2_ := Aside0.mk (bkB (g := gb397) (o := .cells #[.slice A0_0 l0_0.length c0_0, .slice A0_1 l0_1.length c0_1, .slice A0_2 l0_2.length c0_2, .int .i64 a0_3, .int .i64 a0_4, .int .i64 a0_5] 26 (0, 0)) (by (with_reducible repeat (first | refine bkN ?_ _ | refine bkD ?_ | refine bkA ?_ _)); exact BK397.out) hb); have n3_ := Aside0.mk (bkB (g := gb398) (o := .cells #[.int .i64 a1_0, .int .i64 a1_1, .int .i64 a1_2, .int .i64 a1_3, .int .i64 a1_4] 47 (0, 0)) (by (with_reducible repeat (first | refine bkN ?_ _ | refine bkD ?_ | refine bkA ?_ _)); exact BK398.out) hb); have n4_ := Aside0.mk (bkB (g := gb399) (o := .cells #[.int .i64 a2_0, .int .i64 a2_1, .int .i64 a2_2, .int .i64 a2_3, .int .i64 a2_4, .int .i64 a2_5, .int .i64 a2_6] 56 (0, 0)) (by (with_reducible repeat (first | refine bkN ?_ _ | refine bkD ?_ | refine bkA ?_ _)); exact BK399.out) hb); have n5_ := Aside0.mk (bkB (g := gb404) (o := .cells #[.slice A0_0 l0_0.length c0_0, .slice A0_1 l0_1.length c0_1, .slice Ao60 y411.length co60, .int .i64 a0_3, .int .i64 a0_4, .int .i64 a0_5] 26 (0, 0)) (by (with_reducible repeat (first | refine bkN ?_ _ | refine bkD ?_ | refine bkA ?_ _)); exact BK404.out) hb); have n6_ := Aside0.mk (below_step (by repeat (first | (with_reducible first | exact HB.out | apply blA | apply blN | apply blD | refine blS ?_ GE397.out | refine blS ?_ GE398.out | refine blS ?_ GE399.out | refine blS ?_ GE404.out) | exact HB.out)) hb); clear HO410; clear HO413; clear BK397; clear BK398; clear BK399; clear BK404; clear HB; have HO410 := n0_; have HO413 := n1_; have BK397 := n2_; have BK398 := n3_; have BK399 := n4_; have BK404 := n5_; have HB := n6_; clear n0_ n1_ n2_ n3_ n4_ n5_ n6_; (try clear hb); (try clear hb2); (try clear hk); (try clear hi); have hcz69_0 : w68.cell? ⟨gb398, 0, none⟩ = some (.int .i64 a1_0) := (bkC BK398.out 0).trans rfl; have hcz69_1 : w68.cell? ⟨gb398, 1, none⟩ = some (.int .i64 a1_1) := (bkC BK398.out 1).trans rfl; have hcz69_2 : w68.cell? ⟨gb398, 2, none⟩ = some (.int .i64 a1_2) := (bkC BK398.out 2).trans rfl; have hcz69_3 : w68.cell? ⟨gb398, 3, none⟩ = some (.int .i64 a1_3) := (bkC BK398.out 3).trans rfl; have hcz69_4 : w68.cell? ⟨gb398, 4, none⟩ = some (.int .i64 a1_4) := (bkC BK398.out 4).trans rfl; have hfz69_0 := bkF BK398.out 0; have hfz69_1 := bkF BK398.out 1; have hfz69_2 := bkF BK398.out 2; have hfz69_3 := bkF BK398.out 3; have hfz69_4 := bkF BK398.out 4))
     go_ret
     exact ⟨by first | rfl | (simp [errW_none, errW_some] <;> rfl) | (simp [*, errW_none, errW_some] <;> rfl), by repeat (first | (with_reducible first | exact HB.out | apply blA | apply blN | apply blD | refine blS ?_ GE397.out | refine blS ?_ GE398.out | refine blS ?_ GE399.out | refine blS ?_ GE404.out) | exact HB.out)⟩
end Go.Proofs.Ytcdgpnjlaicbcaa.PA
