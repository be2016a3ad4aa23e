-- Written by a program of this session (mkprint.py: the kit's print, changed) for this claim. Not trusted: Lean checks it.
import Derived.Test.YtcdgpnjlaicbcaaPAx0
import Derived.Test.YtcdgpnjlaicbcaaPAx3
import Derived.Test.YtcdgpnjlaicbcaaPAx5
namespace Go.Proofs.Ytcdgpnjlaicbcaa.PA
open Go.RowKit Go.Proofs.YtcdgpnjlaicbcaaW.PrintWords Go.Proofs.YtcdgpnjlaicbcaaW.PrintLast Go.Proofs.YtcdgpnjlaicbcaaW.PrintMore
attribute [local go_sem] max2_int min2_int max_two min_two max_three min_three max_four min_four   -- for this text's walks alone
-- thin
set_option linter.unusedVariables false
set_option linter.unusedSimpArgs false

/-! ### geometry_Crosses: function 27 -/
def geometry_Crosses.j0 : Nat → Bool → Int → Int → Int → Int → Int → Int → Int → Int → Int → Option (Bool)
 | 0, _, _, _, _, _, _, _, _, _, _ => none
 | k + 1, x34, x122000, x122001, x123000, x123001, x124000, x124001, x124002, x124003, x124004 => if x34 = true then (some true) else ((geometry_turn.f x122000 x122001 x123000 x123001 x124000 x124001).bind fun t128 => ((geometry_turn.f x122000 x122001 x123000 x123001 x124002 x124003).bind fun t129 => (if (wrap64 (t128 * t129)) < 0 then ((geometry_turn.f x124000 x124001 x124002 x124003 x122000 x122001).bind fun t130 => ((geometry_turn.f x124000 x124001 x124002 x124003 x123000 x123001).bind fun t131 => (some (decide ((wrap64 (t130 * t131)) < 0))))) else (some false))))
def geometry_Crosses.f (k : Nat) (a0_0 : Int) (a0_1 : Int) (a1_0 : Int) (a1_1 : Int) (a2_0 : Int) (a2_1 : Int) (a2_2 : Int) (a2_3 : Int) (a2_4 : Int) : Option (Bool) := (geometry_on.f k a2_0 a2_1 a0_0 a0_1 a1_0 a1_1).bind fun t124 => (if t124 = true then (geometry_Crosses.j0 k true a0_0 a0_1 a1_0 a1_1 a2_0 a2_1 a2_2 a2_3 a2_4) else ((geometry_on.f k a2_2 a2_3 a0_0 a0_1 a1_0 a1_1).bind fun t125 => (if t125 = true then (geometry_Crosses.j0 k true a0_0 a0_1 a1_0 a1_1 a2_0 a2_1 a2_2 a2_3 a2_4) else ((geometry_on.f k a0_0 a0_1 a2_0 a2_1 a2_2 a2_3).bind fun t126 => (if t126 = true then (geometry_Crosses.j0 k true a0_0 a0_1 a1_0 a1_1 a2_0 a2_1 a2_2 a2_3 a2_4) else ((geometry_on.f k a1_0 a1_1 a2_0 a2_1 a2_2 a2_3).bind fun t127 => (geometry_Crosses.j0 k t127 a0_0 a0_1 a1_0 a1_1 a2_0 a2_1 a2_2 a2_3 a2_4)))))))
theorem geometry_Crosses.mono_l : ∀ k, (∀ y0 y1 y2 y3 y4 y5 y6 y7 y8 y9, LeO (geometry_Crosses.j0 k y0 y1 y2 y3 y4 y5 y6 y7 y8 y9) (geometry_Crosses.j0 (k + 1) y0 y1 y2 y3 y4 y5 y6 y7 y8 y9))
 | 0 => fun _ _ _ _ _ _ _ _ _ _ r h => by simp [geometry_Crosses.j0] at h
 | k + 1 => by
  have ih0 := geometry_Crosses.mono_l k
  ·intro y0 y1 y2 y3 y4 y5 y6 y7 y8 y9
   unfold geometry_Crosses.j0
   repeat' first
   | (with_reducible exact ih0 _ _ _ _ _ _ _ _ _ _)
   | (with_reducible exact geometry_on.mono _ _ _ _ _ _ _)
   | (with_reducible exact LeO.refl _)
   | (with_reducible exact LeO.none _)
   | (with_reducible refine LeO.ite ?_ ?_)
   | (with_reducible refine LeO.bind ?_ (fun _ => ?_))
   | exact ih0 _ _ _ _ _ _ _ _ _ _
   | exact geometry_on.mono _ _ _ _ _ _ _
   | exact LeO.none _
   | refine LeO.ite ?_ ?_
   | refine LeO.bind ?_ (fun _ => ?_)
theorem geometry_Crosses.mono : ∀ a0 a1 a2 a3 a4 a5 a6 a7 a8 k, LeO (geometry_Crosses.f k a0 a1 a2 a3 a4 a5 a6 a7 a8) (geometry_Crosses.f (k + 1) a0 a1 a2 a3 a4 a5 a6 a7 a8) := by
 intro a0 a1 a2 a3 a4 a5 a6 a7 a8 k
 have ih0 := geometry_Crosses.mono_l k
 unfold geometry_Crosses.f
 repeat' first
  | (with_reducible exact ih0 _ _ _ _ _ _ _ _ _ _)
  | (with_reducible exact geometry_on.mono _ _ _ _ _ _ _)
  | (with_reducible exact LeO.refl _)
  | (with_reducible exact LeO.none _)
  | (with_reducible refine LeO.ite ?_ ?_)
  | (with_reducible refine LeO.bind ?_ (fun _ => ?_))
  | exact ih0 _ _ _ _ _ _ _ _ _ _
  | exact geometry_on.mono _ _ _ _ _ _ _
  | exact LeO.none _
  | refine LeO.ite ?_ ?_
  | refine LeO.bind ?_ (fun _ => ?_)
def geometry_Crosses.T3 : Bool × List (List Nat × List Nat) := (true, [([], []), ([], []), ([], []), ([2], [2]), ([0, 1, 3], [0, 1, 3]), ([], []), ([], []), ([], []), ([7], [7]), ([5, 6, 8, 4], [5, 6, 8]), ([4, 9], [4, 9]), ([10], [10]), ([11, 9], [11]), ([12], [12]), ([13, 12], [12, 13]), ([12], [12]), ([15, 12], [12, 15]), ([12], [12]), ([14, 16, 17, 12, 12], [12, 14, 16, 17]), ([12], [12]), ([19, 12], [12, 19]), ([12], [12]), ([21, 12], [12, 21]), ([12], [12]), ([20, 22, 23, 18, 12], [12, 20, 22, 23]), ([18, 24, 12], [12, 18, 24]), ([25, 12], [12, 25]), ([12, 26], [12, 26]), ([27, 24, 0, 1, 2, 3, 4, 5, 6, 7, 8, 9, 10, 11, 12, 13, 14, 15, 16, 17, 18, 19, 20, 21, 22, 23, 24, 25, 26, 27], [27])])
def geometry_Crosses.B3 : List Nat := [0, 0, 0, 4, 15, 0, 0, 0, 128, 511, 1023, 2047, 4095, 8191, 16383, 8191, 40959, 8191, 262143, 8191, 532479, 8191, 2105343, 8191, 16777215, 33554431, 67108863, 134217727, 268435455]
theorem geometry_Crosses.tab3 : rtab .any (opsOf Try.f27 3) = geometry_Crosses.T3 := by kernel_rfl
theorem geometry_Crosses.bits3 : waitsOk geometry_Crosses.T3.2 geometry_Crosses.B3 = true := by kernel_rfl
set_option maxHeartbeats 8000000 in
set_option maxRecDepth 100000 in
theorem geometry_Crosses.calls (k : Nat) (a0_0 : Int) (a0_1 : Int) (a1_0 : Int) (a1_1 : Int) (a2_0 : Int) (a2_1 : Int) (a2_2 : Int) (a2_3 : Int) (a2_4 : Int) (r : Bool) (w : World) (h : geometry_Crosses.f k a0_0 a0_1 a1_0 a1_1 a2_0 a2_1 a2_2 a2_3 a2_4 = some r) :
 Calls Try.prog 27 #[.agg #[.int .i64 a0_0, .int .i64 a0_1], .agg #[.int .i64 a1_0, .int .i64 a1_1], .agg #[.int .i64 a2_0, .int .i64 a2_1, .int .i64 a2_2, .int .i64 a2_3, .int .i64 a2_4]] w fun e w' => e = .returned (.bool r) ∧ Below w.heap.size w w' := by
 have hu28 := Try.underlying28
 have hu47 := Try.underlying47
 have HB := Aside0.mk (Below.refl w.heap.size w)
 have H : ((geometry_on.f k a2_0 a2_1 a0_0 a0_1 a1_0 a1_1).bind fun t124 => (if t124 = true then (geometry_Crosses.j0 k true a0_0 a0_1 a1_0 a1_1 a2_0 a2_1 a2_2 a2_3 a2_4) else ((geometry_on.f k a2_2 a2_3 a0_0 a0_1 a1_0 a1_1).bind fun t125 => (if t125 = true then (geometry_Crosses.j0 k true a0_0 a0_1 a1_0 a1_1 a2_0 a2_1 a2_2 a2_3 a2_4) else ((geometry_on.f k a0_0 a0_1 a2_0 a2_1 a2_2 a2_3).bind fun t126 => (if t126 = true then (geometry_Crosses.j0 k true a0_0 a0_1 a1_0 a1_1 a2_0 a2_1 a2_2 a2_3 a2_4) else ((geometry_on.f k a1_0 a1_1 a2_0 a2_1 a2_2 a2_3).bind fun t127 => (geometry_Crosses.j0 k t127 a0_0 a0_1 a1_0 a1_1 a2_0 a2_1 a2_2 a2_3 a2_4)))))))) = some r := h
 clear h
 have HC4 := Aside0.mk H
 clear H
 go_enter Try.func27, Try.ntmps27
 go_upto_region 1 with (first | ((with_reducible refine gate_dst (N := 3) rfl ?_); refine box_event ?hg (N := 3) ?hd (cs := #[.int .i64 a0_0, .int .i64 a0_1]) (t := 28) ?hr ?_; (case hd => rfl); (case hg => rfl); (case hr => first | (go_simp; done) | (go_simp; rfl)); intro gb121 hg w5 hbox hb; have n0_ := Aside0.mk (below_step (by repeat (first | (with_reducible first | exact HB.out | apply blA | apply blN | apply blD) | exact HB.out)) hb); have n1_ := Aside0.mk (hbox); have n2_ := Aside0.mk ((by rw [hg]; exact (below_size (by repeat (first | (with_reducible first | exact HB.out | apply blA | apply blN | apply blD) | exact HB.out))) : w.heap.size ≤ gb121)); have n3_ := Aside0.mk ((by rw [hg]; exact (below_size (by repeat (first | (with_reducible first | exact HB.out | apply blA | apply blN | apply blD) | exact HB.out))) : w.heap.size ≤ gb121)); clear HB; have HB := n0_; have BK121 := n1_; have GW121 := n2_; have GE121 := n3_; clear n0_ n1_ n2_ n3_; clear hb hbox hg) | ((with_reducible refine gate_dst (N := 4) rfl ?_); refine box_event ?hg (N := 4) ?hd (cs := #[.int .i64 a1_0, .int .i64 a1_1]) (t := 28) ?hr ?_; (case hd => rfl); (case hg => rfl); (case hr => first | (go_simp; done) | (go_simp; rfl)); intro gb122 hg w6 hbox hb; have n0_ := Aside0.mk (bkB (g := gb121) (o := .cells #[.int .i64 a0_0, .int .i64 a0_1] 28 (0, 0)) (by (with_reducible repeat (first | refine bkN ?_ _ | refine bkD ?_ | refine bkA ?_ _)); exact BK121.out) hb); have n1_ := Aside0.mk (below_step (by repeat (first | (with_reducible first | exact HB.out | apply blA | apply blN | apply blD | refine blS ?_ GE121.out) | exact HB.out)) hb); have n2_ := Aside0.mk (hbox); have n3_ := Aside0.mk ((by rw [hg]; exact (below_size (by repeat (first | (with_reducible first | exact HB.out | apply blA | apply blN | apply blD | refine blS ?_ GE121.out) | exact HB.out))) : w.heap.size ≤ gb122)); have n4_ := Aside0.mk ((by rw [hg]; exact (below_size (by repeat (first | (with_reducible first | exact HB.out | apply blA | apply blN | apply blD | refine blS ?_ GE121.out) | exact HB.out))) : w.heap.size ≤ gb122)); have n5_ := Aside0.mk ((by rw [hg]; exact Nat.ne_of_lt (blk_lt (g := gb121) (o := .cells #[.int .i64 a0_0, .int .i64 a0_1] 28 (0, 0)) (by (with_reducible repeat (first | refine bkN ?_ _ | refine bkD ?_ | refine bkA ?_ _)); exact BK121.out)) : gb121 ≠ gb122)); have n6_ := Aside0.mk ((by rw [hg]; exact Nat.ne_of_gt (blk_lt (g := gb121) (o := .cells #[.int .i64 a0_0, .int .i64 a0_1] 28 (0, 0)) (by (with_reducible repeat (first | refine bkN ?_ _ | refine bkD ?_ | refine bkA ?_ _)); exact BK121.out)) : gb122 ≠ gb121)); clear BK121; clear HB; have BK121 := n0_; have HB := n1_; have BK122 := n2_; have GW122 := n3_; have GE122 := n4_; have NB121_122 := n5_; have NB122_121 := n6_; clear n0_ n1_ n2_ n3_ n4_ n5_ n6_; clear hb hbox hg) | ((with_reducible refine gate_dst (N := 5) rfl ?_); refine box_event ?hg (N := 5) ?hd (cs := #[.int .i64 a2_0, .int .i64 a2_1, .int .i64 a2_2, .int .i64 a2_3, .int .i64 a2_4]) (t := 47) ?hr ?_; (case hd => rfl); (case hg => rfl); (case hr => first | (go_simp; done) | (go_simp; rfl)); intro gb123 hg w7 hbox hb; have n0_ := Aside0.mk (bkB (g := gb121) (o := .cells #[.int .i64 a0_0, .int .i64 a0_1] 28 (0, 0)) (by (with_reducible repeat (first | refine bkN ?_ _ | refine bkD ?_ | refine bkA ?_ _)); exact BK121.out) hb); have n1_ := Aside0.mk (bkB (g := gb122) (o := .cells #[.int .i64 a1_0, .int .i64 a1_1] 28 (0, 0)) (by (with_reducible repeat (first | refine bkN ?_ _ | refine bkD ?_ | refine bkA ?_ _)); exact BK122.out) hb); have n2_ := Aside0.mk (below_step (by repeat (first | (with_reducible first | exact HB.out | apply blA | apply blN | apply blD | refine blS ?_ GE121.out | refine blS ?_ GE122.out) | exact HB.out)) hb); have n3_ := Aside0.mk (hbox); have n4_ := Aside0.mk ((by rw [hg]; exact (below_size (by repeat (first | (with_reducible first | exact HB.out | apply blA | apply blN | apply blD | refine blS ?_ GE121.out | refine blS ?_ GE122.out) | exact HB.out))) : w.heap.size ≤ gb123)); have n5_ := Aside0.mk ((by rw [hg]; exact (below_size (by repeat (first | (with_reducible first | exact HB.out | apply blA | apply blN | apply blD | refine blS ?_ GE121.out | refine blS ?_ GE122.out) | exact HB.out))) : w.heap.size ≤ gb123)); have n6_ := Aside0.mk ((by rw [hg]; exact Nat.ne_of_lt (blk_lt (g := gb121) (o := .cells #[.int .i64 a0_0, .int .i64 a0_1] 28 (0, 0)) (by (with_reducible repeat (first | refine bkN ?_ _ | refine bkD ?_ | refine bkA ?_ _)); exact BK121.out)) : gb121 ≠ gb123)); have n7_ := Aside0.mk ((by rw [hg]; exact Nat.ne_of_gt (blk_lt (g := gb121) (o := .cells #[.int .i64 a0_0, .int .i64 a0_1] 28 (0, 0)) (by (with_reducible repeat (first | refine bkN ?_ _ | refine bkD ?_ | refine bkA ?_ _)); exact BK121.out)) : gb123 ≠ gb121)); have n8_ := Aside0.mk ((by rw [hg]; exact Nat.ne_of_lt (blk_lt (g := gb122) (o := .cells #[.int .i64 a1_0, .int .i64 a1_1] 28 (0, 0)) (by (with_reducible repeat (first | refine bkN ?_ _ | refine bkD ?_ | refine bkA ?_ _)); exact BK122.out)) : gb122 ≠ gb123)); have n9_ := Aside0.mk ((by rw [hg]; exact Nat.ne_of_gt (blk_lt (g := gb122) (o := .cells #[.int .i64 a1_0, .int .i64 a1_1] 28 (0, 0)) (by (with_reducible repeat (first | refine bkN ?_ _ | refine bkD ?_ | refine bkA ?_ _)); exact BK122.out)) : gb123 ≠ gb122)); clear BK121; clear BK122; clear HB; have BK121 := n0_; have BK122 := n1_; have HB := n2_; have BK123 := n3_; have GW123 := n4_; have GE123 := n5_; have NB121_123 := n6_; have NB123_121 := n7_; have NB122_123 := n8_; have NB123_122 := n9_; clear n0_ n1_ n2_ n3_ n4_ n5_ n6_ n7_ n8_ n9_; clear hb hbox hg))
 (try simp only [Act.put, List.setIfInBounds_toArray, List.set_cons_zero, List.set_cons_succ])
 go_cut [34] (fun v34 wc => ∃ (kq : Nat) (x34_3 : Bool), v34 = .bool x34_3 ∧ Aside0 (geometry_Crosses.j0 kq x34_3 a0_0 a0_1 a1_0 a1_1 a2_0 a2_1 a2_2 a2_3 a2_4 = some r) ∧ Aside0 (kq ≤ k) ∧ Aside0 (wc.heap[gb121]? = some (.cells #[.int .i64 a0_0, .int .i64 a0_1] 28 (0, 0))) ∧ Aside0 (wc.heap[gb122]? = some (.cells #[.int .i64 a1_0, .int .i64 a1_1] 28 (0, 0))) ∧ Aside0 (wc.heap[gb123]? = some (.cells #[.int .i64 a2_0, .int .i64 a2_1, .int .i64 a2_2, .int .i64 a2_3, .int .i64 a2_4] 47 (0, 0))) ∧ Aside0 (Below w.heap.size w wc))
 case first =>
  have H := HC4.out
  clear HC4
  replace H := Option.bind_eq_some_iff.mp H
  obtain ⟨t124, A80, H⟩ := H
  replace H : (if t124 = true then (geometry_Crosses.j0 k true a0_0 a0_1 a1_0 a1_1 a2_0 a2_1 a2_2 a2_3 a2_4) else ((geometry_on.f k a2_2 a2_3 a0_0 a0_1 a1_0 a1_1).bind fun t125 => (if t125 = true then (geometry_Crosses.j0 k true a0_0 a0_1 a1_0 a1_1 a2_0 a2_1 a2_2 a2_3 a2_4) else ((geometry_on.f k a0_0 a0_1 a2_0 a2_1 a2_2 a2_3).bind fun t126 => (if t126 = true then (geometry_Crosses.j0 k true a0_0 a0_1 a1_0 a1_1 a2_0 a2_1 a2_2 a2_3 a2_4) else ((geometry_on.f k a1_0 a1_1 a2_0 a2_1 a2_2 a2_3).bind fun t127 => (geometry_Crosses.j0 k t127 a0_0 a0_1 a1_0 a1_1 a2_0 a2_1 a2_2 a2_3 a2_4))))))) = some r := H
  have A8 := Aside0.mk A80
  clear A80
  by_cases c9 : t124 = true
  ·subst c9
   have H1 : (geometry_Crosses.j0 k true a0_0 a0_1 a1_0 a1_1 a2_0 a2_1 a2_2 a2_3 a2_4) = some r := by rw [if_pos rfl] at H; exact H
   clear H
   have H := H1
   clear H1
   have H' := Aside0.mk H
   clear H
   have hnb10 := NB123_121.out
   have hnc10 := NB121_123.out
   have hnb11 := NB123_122.out
   have hnc11 := NB122_123.out
   have hcz12_0 : w7.cell? ⟨gb123, 0, none⟩ = some (.int .i64 a2_0) := (bkC BK123.out 0).trans rfl
   have hcz12_1 : w7.cell? ⟨gb123, 1, none⟩ = some (.int .i64 a2_1) := (bkC BK123.out 1).trans rfl
   have hcz12_2 : w7.cell? ⟨gb123, 2, none⟩ = some (.int .i64 a2_2) := (bkC BK123.out 2).trans rfl
   have hcz12_3 : w7.cell? ⟨gb123, 3, none⟩ = some (.int .i64 a2_3) := (bkC BK123.out 3).trans rfl
   have hcz12_4 : w7.cell? ⟨gb123, 4, none⟩ = some (.int .i64 a2_4) := (bkC BK123.out 4).trans rfl
   have hfz12_0 := bkF BK123.out 0
   have hfz12_1 := bkF BK123.out 1
   have hfz12_2 := bkF BK123.out 2
   have hfz12_3 := bkF BK123.out 3
   have hfz12_4 := bkF BK123.out 4
   have hnb13 := NB121_122.out
   have hnc13 := NB122_121.out
   have hcz14_0 : w7.cell? ⟨gb121, 0, none⟩ = some (.int .i64 a0_0) := (bkC BK121.out 0).trans rfl
   have hcz14_1 : w7.cell? ⟨gb121, 1, none⟩ = some (.int .i64 a0_1) := (bkC BK121.out 1).trans rfl
   have hfz14_0 := bkF BK121.out 0
   have hfz14_1 := bkF BK121.out 1
   have hcz15_0 : w7.cell? ⟨gb122, 0, none⟩ = some (.int .i64 a1_0) := (bkC BK122.out 0).trans rfl
   have hcz15_1 : w7.cell? ⟨gb122, 1, none⟩ = some (.int .i64 a1_1) := (bkC BK122.out 1).trans rfl
   have hfz15_0 := bkF BK122.out 0
   have hfz15_1 := bkF BK122.out 1
   go_wp2_with (first | ((with_reducible refine gate_callee (f := 54) rfl ?_); refine goesL_ (some 11) rfl rfl Try.func54 (by kernel_rfl) rfl #[.agg #[.int .i64 a2_0, .int .i64 a2_1], .agg #[.int .i64 a0_0, .int .i64 a0_1], .agg #[.int .i64 a1_0, .int .i64 a1_1]] rfl (by (try simp only [List.map_toArray, List.map_cons, List.map_nil]); first | done | rfl | (simp only [List.length_drop, List.length_take]; rfl)) ?_; (with_reducible refine (geometry_on.calls k a2_0 a2_1 a0_0 a0_1 a1_0 a1_1 true _ A8.out).mono ?_); rintro e w16 ⟨rfl, hb⟩; refine ⟨_, rfl, ?_⟩; have n0_ := Aside0.mk (bkB (g := gb121) (o := .cells #[.int .i64 a0_0, .int .i64 a0_1] 28 (0, 0)) (by (with_reducible repeat (first | refine bkN ?_ _ | refine bkD ?_ | refine bkA ?_ _)); exact BK121.out) hb); have n1_ := Aside0.mk (bkB (g := gb122) (o := .cells #[.int .i64 a1_0, .int .i64 a1_1] 28 (0, 0)) (by (with_reducible repeat (first | refine bkN ?_ _ | refine bkD ?_ | refine bkA ?_ _)); exact BK122.out) hb); have n2_ := Aside0.mk (bkB (g := gb123) (o := .cells #[.int .i64 a2_0, .int .i64 a2_1, .int .i64 a2_2, .int .i64 a2_3, .int .i64 a2_4] 47 (0, 0)) (by (with_reducible repeat (first | refine bkN ?_ _ | refine bkD ?_ | refine bkA ?_ _)); exact BK123.out) hb); have n3_ := Aside0.mk (below_step (by repeat (first | (with_reducible first | exact HB.out | apply blA | apply blN | apply blD | refine blS ?_ GE121.out | refine blS ?_ GE122.out | refine blS ?_ GE123.out) | exact HB.out)) hb); clear BK121; clear BK122; clear BK123; clear HB; have BK121 := n0_; have BK122 := n1_; have BK123 := n2_; have HB := n3_; clear n0_ n1_ n2_ n3_; (try clear hb); (try clear hb2); (try clear hk); (try clear hi)))
   go_meet
   case rel => exact ⟨_, (true), (by first | rfl | (simp; done) | (simp [*]; done)), H', ⟨by first | omega | exact Nat.le_refl _⟩, ⟨by (with_reducible repeat (first | refine bkN ?_ _ | refine bkD ?_ | refine bkA ?_ _)); exact BK121.out⟩, ⟨by (with_reducible repeat (first | refine bkN ?_ _ | refine bkD ?_ | refine bkA ?_ _)); exact BK122.out⟩, ⟨by (with_reducible repeat (first | refine bkN ?_ _ | refine bkD ?_ | refine bkA ?_ _)); exact BK123.out⟩, ⟨by repeat (first | (with_reducible first | exact HB.out | apply blA | apply blN | apply blD | refine blS ?_ GE121.out | refine blS ?_ GE122.out | refine blS ?_ GE123.out) | exact HB.out)⟩⟩
  replace c9 := Bool.eq_false_iff.mpr c9
  subst c9
  have H1 : ((geometry_on.f k a2_2 a2_3 a0_0 a0_1 a1_0 a1_1).bind fun t125 => (if t125 = true then (geometry_Crosses.j0 k true a0_0 a0_1 a1_0 a1_1 a2_0 a2_1 a2_2 a2_3 a2_4) else ((geometry_on.f k a0_0 a0_1 a2_0 a2_1 a2_2 a2_3).bind fun t126 => (if t126 = true then (geometry_Crosses.j0 k true a0_0 a0_1 a1_0 a1_1 a2_0 a2_1 a2_2 a2_3 a2_4) else ((geometry_on.f k a1_0 a1_1 a2_0 a2_1 a2_2 a2_3).bind fun t127 => (geometry_Crosses.j0 k t127 a0_0 a0_1 a1_0 a1_1 a2_0 a2_1 a2_2 a2_3 a2_4)))))) = some r := by rw [if_neg (show ¬ (false = true) by decide)] at H; exact H
  clear H
  have H := H1
  clear H1
  replace H := Option.bind_eq_some_iff.mp H
  obtain ⟨t125, A170, H⟩ := H
  replace H : (if t125 = true then (geometry_Crosses.j0 k true a0_0 a0_1 a1_0 a1_1 a2_0 a2_1 a2_2 a2_3 a2_4) else ((geometry_on.f k a0_0 a0_1 a2_0 a2_1 a2_2 a2_3).bind fun t126 => (if t126 = true then (geometry_Crosses.j0 k true a0_0 a0_1 a1_0 a1_1 a2_0 a2_1 a2_2 a2_3 a2_4) else ((geometry_on.f k a1_0 a1_1 a2_0 a2_1 a2_2 a2_3).bind fun t127 => (geometry_Crosses.j0 k t127 a0_0 a0_1 a1_0 a1_1 a2_0 a2_1 a2_2 a2_3 a2_4))))) = some r := H
  have A17 := Aside0.mk A170
  clear A170
  by_cases c18 : t125 = true
  ·subst c18
   have H1 : (geometry_Crosses.j0 k true a0_0 a0_1 a1_0 a1_1 a2_0 a2_1 a2_2 a2_3 a2_4) = some r := by rw [if_pos rfl] at H; exact H
   clear H
   have H := H1
   clear H1
   have H' := Aside0.mk H
   clear H
   have hnb19 := NB123_121.out
   have hnc19 := NB121_123.out
   have hnb20 := NB123_122.out
   have hnc20 := NB122_123.out
   have hcz21_0 : w7.cell? ⟨gb123, 0, none⟩ = some (.int .i64 a2_0) := (bkC BK123.out 0).trans rfl
   have hcz21_1 : w7.cell? ⟨gb123, 1, none⟩ = some (.int .i64 a2_1) := (bkC BK123.out 1).trans rfl
   have hcz21_2 : w7.cell? ⟨gb123, 2, none⟩ = some (.int .i64 a2_2) := (bkC BK123.out 2).trans rfl
   have hcz21_3 : w7.cell? ⟨gb123, 3, none⟩ = some (.int .i64 a2_3) := (bkC BK123.out 3).trans rfl
   have hcz21_4 : w7.cell? ⟨gb123, 4, none⟩ = some (.int .i64 a2_4) := (bkC BK123.out 4).trans rfl
   have hfz21_0 := bkF BK123.out 0
   have hfz21_1 := bkF BK123.out 1
   have hfz21_2 := bkF BK123.out 2
   have hfz21_3 := bkF BK123.out 3
   have hfz21_4 := bkF BK123.out 4
   have hnb22 := NB121_122.out
   have hnc22 := NB122_121.out
   have hcz23_0 : w7.cell? ⟨gb121, 0, none⟩ = some (.int .i64 a0_0) := (bkC BK121.out 0).trans rfl
   have hcz23_1 : w7.cell? ⟨gb121, 1, none⟩ = some (.int .i64 a0_1) := (bkC BK121.out 1).trans rfl
   have hfz23_0 := bkF BK121.out 0
   have hfz23_1 := bkF BK121.out 1
   have hcz24_0 : w7.cell? ⟨gb122, 0, none⟩ = some (.int .i64 a1_0) := (bkC BK122.out 0).trans rfl
   have hcz24_1 : w7.cell? ⟨gb122, 1, none⟩ = some (.int .i64 a1_1) := (bkC BK122.out 1).trans rfl
   have hfz24_0 := bkF BK122.out 0
   have hfz24_1 := bkF BK122.out 1
   go_wp2_with (first | ((with_reducible refine gate_callee (f := 54) rfl ?_); refine goesL_ (some 11) rfl rfl Try.func54 (by kernel_rfl) rfl #[.agg #[.int .i64 a2_0, .int .i64 a2_1], .agg #[.int .i64 a0_0, .int .i64 a0_1], .agg #[.int .i64 a1_0, .int .i64 a1_1]] rfl (by (try simp only [List.map_toArray, List.map_cons, List.map_nil]); first | done | rfl | (simp only [List.length_drop, List.length_take]; rfl)) ?_; (with_reducible refine (geometry_on.calls k a2_0 a2_1 a0_0 a0_1 a1_0 a1_1 false _ A8.out).mono ?_); rintro e w25 ⟨rfl, hb⟩; refine ⟨_, rfl, ?_⟩; have n0_ := Aside0.mk (bkB (g := gb121) (o := .cells #[.int .i64 a0_0, .int .i64 a0_1] 28 (0, 0)) (by (with_reducible repeat (first | refine bkN ?_ _ | refine bkD ?_ | refine bkA ?_ _)); exact BK121.out) hb); have n1_ := Aside0.mk (bkB (g := gb122) (o := .cells #[.int .i64 a1_0, .int .i64 a1_1] 28 (0, 0)) (by (with_reducible repeat (first | refine bkN ?_ _ | refine bkD ?_ | refine bkA ?_ _)); exact BK122.out) hb); have n2_ := Aside0.mk (bkB (g := gb123) (o := .cells #[.int .i64 a2_0, .int .i64 a2_1, .int .i64 a2_2, .int .i64 a2_3, .int .i64 a2_4] 47 (0, 0)) (by (with_reducible repeat (first | refine bkN ?_ _ | refine bkD ?_ | refine bkA ?_ _)); exact BK123.out) hb); have n3_ := Aside0.mk (below_step (by repeat (first | (with_reducible first | exact HB.out | apply blA | apply blN | apply blD | refine blS ?_ GE121.out | refine blS ?_ GE122.out | refine blS ?_ GE123.out) | exact HB.out)) hb); clear BK121; clear BK122; clear BK123; clear HB; have BK121 := n0_; have BK122 := n1_; have BK123 := n2_; have HB := n3_; clear n0_ n1_ n2_ n3_; (try clear hb); (try clear hb2); (try clear hk); (try clear hi); have hcz26_0 : w25.cell? ⟨gb123, 0, none⟩ = some (.int .i64 a2_0) := (bkC BK123.out 0).trans rfl; have hcz26_1 : w25.cell? ⟨gb123, 1, none⟩ = some (.int .i64 a2_1) := (bkC BK123.out 1).trans rfl; have hcz26_2 : w25.cell? ⟨gb123, 2, none⟩ = some (.int .i64 a2_2) := (bkC BK123.out 2).trans rfl; have hcz26_3 : w25.cell? ⟨gb123, 3, none⟩ = some (.int .i64 a2_3) := (bkC BK123.out 3).trans rfl; have hcz26_4 : w25.cell? ⟨gb123, 4, none⟩ = some (.int .i64 a2_4) := (bkC BK123.out 4).trans rfl; have hfz26_0 := bkF BK123.out 0; have hfz26_1 := bkF BK123.out 1; have hfz26_2 := bkF BK123.out 2; have hfz26_3 := bkF BK123.out 3; have hfz26_4 := bkF BK123.out 4; have hcz27_0 : w25.cell? ⟨gb121, 0, none⟩ = some (.int .i64 a0_0) := (bkC BK121.out 0).trans rfl; have hcz27_1 : w25.cell? ⟨gb121, 1, none⟩ = some (.int .i64 a0_1) := (bkC BK121.out 1).trans rfl; have hfz27_0 := bkF BK121.out 0; have hfz27_1 := bkF BK121.out 1; have hcz28_0 : w25.cell? ⟨gb122, 0, none⟩ = some (.int .i64 a1_0) := (bkC BK122.out 0).trans rfl; have hcz28_1 : w25.cell? ⟨gb122, 1, none⟩ = some (.int .i64 a1_1) := (bkC BK122.out 1).trans rfl; have hfz28_0 := bkF BK122.out 0; have hfz28_1 := bkF BK122.out 1) | (go_at_call 54; (with_reducible refine (geometry_on.calls k a2_2 a2_3 a0_0 a0_1 a1_0 a1_1 true _ A17.out).mono ?_); rintro e w29 ⟨rfl, hb⟩; have n0_ := Aside0.mk (bkB (g := gb121) (o := .cells #[.int .i64 a0_0, .int .i64 a0_1] 28 (0, 0)) (by (with_reducible repeat (first | refine bkN ?_ _ | refine bkD ?_ | refine bkA ?_ _)); exact BK121.out) hb); have n1_ := Aside0.mk (bkB (g := gb122) (o := .cells #[.int .i64 a1_0, .int .i64 a1_1] 28 (0, 0)) (by (with_reducible repeat (first | refine bkN ?_ _ | refine bkD ?_ | refine bkA ?_ _)); exact BK122.out) hb); have n2_ := Aside0.mk (bkB (g := gb123) (o := .cells #[.int .i64 a2_0, .int .i64 a2_1, .int .i64 a2_2, .int .i64 a2_3, .int .i64 a2_4] 47 (0, 0)) (by (with_reducible repeat (first | refine bkN ?_ _ | refine bkD ?_ | refine bkA ?_ _)); exact BK123.out) hb); have n3_ := Aside0.mk (below_step (by repeat (first | (with_reducible first | exact HB.out | apply blA | apply blN | apply blD | refine blS ?_ GE121.out | refine blS ?_ GE122.out | refine blS ?_ GE123.out) | exact HB.out)) hb); clear BK121; clear BK122; clear BK123; clear HB; have BK121 := n0_; have BK122 := n1_; have BK123 := n2_; have HB := n3_; clear n0_ n1_ n2_ n3_; (try clear hb); (try clear hb2); (try clear hk); (try clear hi)))
   go_meet
   case rel => exact ⟨_, (true), (by first | rfl | (simp; done) | (simp [*]; done)), H', ⟨by first | omega | exact Nat.le_refl _⟩, ⟨by (with_reducible repeat (first | refine bkN ?_ _ | refine bkD ?_ | refine bkA ?_ _)); exact BK121.out⟩, ⟨by (with_reducible repeat (first | refine bkN ?_ _ | refine bkD ?_ | refine bkA ?_ _)); exact BK122.out⟩, ⟨by (with_reducible repeat (first | refine bkN ?_ _ | refine bkD ?_ | refine bkA ?_ _)); exact BK123.out⟩, ⟨by repeat (first | (with_reducible first | exact HB.out | apply blA | apply blN | apply blD | refine blS ?_ GE121.out | refine blS ?_ GE122.out | refine blS ?_ GE123.out) | exact HB.out)⟩⟩
  replace c18 := Bool.eq_false_iff.mpr c18
  subst c18
  have H1 : ((geometry_on.f k a0_0 a0_1 a2_0 a2_1 a2_2 a2_3).bind fun t126 => (if t126 = true then (geometry_Crosses.j0 k true a0_0 a0_1 a1_0 a1_1 a2_0 a2_1 a2_2 a2_3 a2_4) else ((geometry_on.f k a1_0 a1_1 a2_0 a2_1 a2_2 a2_3).bind fun t127 => (geometry_Crosses.j0 k t127 a0_0 a0_1 a1_0 a1_1 a2_0 a2_1 a2_2 a2_3 a2_4)))) = some r := by rw [if_neg (show ¬ (false = true) by decide)] at H; exact H
  clear H
  have H := H1
  clear H1
  replace H := Option.bind_eq_some_iff.mp H
  obtain ⟨t126, A300, H⟩ := H
  replace H : (if t126 = true then (geometry_Crosses.j0 k true a0_0 a0_1 a1_0 a1_1 a2_0 a2_1 a2_2 a2_3 a2_4) else ((geometry_on.f k a1_0 a1_1 a2_0 a2_1 a2_2 a2_3).bind fun t127 => (geometry_Crosses.j0 k t127 a0_0 a0_1 a1_0 a1_1 a2_0 a2_1 a2_2 a2_3 a2_4))) = some r := H
  have A30 := Aside0.mk A300
  clear A300
  by_cases c31 : t126 = true
  ·subst c31
   have H1 : (geometry_Crosses.j0 k true a0_0 a0_1 a1_0 a1_1 a2_0 a2_1 a2_2 a2_3 a2_4) = some r := by rw [if_pos rfl] at H; exact H
   clear H
   have H := H1
   clear H1
   have H' := Aside0.mk H
   clear H
   have hnb32 := NB123_121.out
   have hnc32 := NB121_123.out
   have hnb33 := NB123_122.out
   have hnc33 := NB122_123.out
   have hcz34_0 : w7.cell? ⟨gb123, 0, none⟩ = some (.int .i64 a2_0) := (bkC BK123.out 0).trans rfl
   have hcz34_1 : w7.cell? ⟨gb123, 1, none⟩ = some (.int .i64 a2_1) := (bkC BK123.out 1).trans rfl
   have hcz34_2 : w7.cell? ⟨gb123, 2, none⟩ = some (.int .i64 a2_2) := (bkC BK123.out 2).trans rfl
   have hcz34_3 : w7.cell? ⟨gb123, 3, none⟩ = some (.int .i64 a2_3) := (bkC BK123.out 3).trans rfl
   have hcz34_4 : w7.cell? ⟨gb123, 4, none⟩ = some (.int .i64 a2_4) := (bkC BK123.out 4).trans rfl
   have hfz34_0 := bkF BK123.out 0
   have hfz34_1 := bkF BK123.out 1
   have hfz34_2 := bkF BK123.out 2
   have hfz34_3 := bkF BK123.out 3
   have hfz34_4 := bkF BK123.out 4
   have hnb35 := NB121_122.out
   have hnc35 := NB122_121.out
   have hcz36_0 : w7.cell? ⟨gb121, 0, none⟩ = some (.int .i64 a0_0) := (bkC BK121.out 0).trans rfl
   have hcz36_1 : w7.cell? ⟨gb121, 1, none⟩ = some (.int .i64 a0_1) := (bkC BK121.out 1).trans rfl
   have hfz36_0 := bkF BK121.out 0
   have hfz36_1 := bkF BK121.out 1
   have hcz37_0 : w7.cell? ⟨gb122, 0, none⟩ = some (.int .i64 a1_0) := (bkC BK122.out 0).trans rfl
   have hcz37_1 : w7.cell? ⟨gb122, 1, none⟩ = some (.int .i64 a1_1) := (bkC BK122.out 1).trans rfl
   have hfz37_0 := bkF BK122.out 0
   have hfz37_1 := bkF BK122.out 1
   go_wp2_with (first | ((with_reducible refine gate_callee (f := 54) rfl ?_); refine goesL_ (some 11) rfl rfl Try.func54 (by kernel_rfl) rfl #[.agg #[.int .i64 a2_0, .int .i64 a2_1], .agg #[.int .i64 a0_0, .int .i64 a0_1], .agg #[.int .i64 a1_0, .int .i64 a1_1]] rfl (by (try simp only [List.map_toArray, List.map_cons, List.map_nil]); first | done | rfl | (simp only [List.length_drop, List.length_take]; rfl)) ?_; (with_reducible refine (geometry_on.calls k a2_0 a2_1 a0_0 a0_1 a1_0 a1_1 false _ A8.out).mono ?_); rintro e w38 ⟨rfl, hb⟩; refine ⟨_, rfl, ?_⟩; have n0_ := Aside0.mk (bkB (g := gb121) (o := .cells #[.int .i64 a0_0, .int .i64 a0_1] 28 (0, 0)) (by (with_reducible repeat (first | refine bkN ?_ _ | refine bkD ?_ | refine bkA ?_ _)); exact BK121.out) hb); have n1_ := Aside0.mk (bkB (g := gb122) (o := .cells #[.int .i64 a1_0, .int .i64 a1_1] 28 (0, 0)) (by (with_reducible repeat (first | refine bkN ?_ _ | refine bkD ?_ | refine bkA ?_ _)); exact BK122.out) hb); have n2_ := Aside0.mk (bkB (g := gb123) (o := .cells #[.int .i64 a2_0, .int .i64 a2_1, .int .i64 a2_2, .int .i64 a2_3, .int .i64 a2_4] 47 (0, 0)) (by (with_reducible repeat (first | refine bkN ?_ _ | refine bkD ?_ | refine bkA ?_ _)); exact BK123.out) hb); have n3_ := Aside0.mk (below_step (by repeat (first | (with_reducible first | exact HB.out | apply blA | apply blN | apply blD | refine blS ?_ GE121.out | refine blS ?_ GE122.out | refine blS ?_ GE123.out) | exact HB.out)) hb); clear BK121; clear BK122; clear BK123; clear HB; have BK121 := n0_; have BK122 := n1_; have BK123 := n2_; have HB := n3_; clear n0_ n1_ n2_ n3_; (try clear hb); (try clear hb2); (try clear hk); (try clear hi); have hcz39_0 : w38.cell? ⟨gb123, 0, none⟩ = some (.int .i64 a2_0) := (bkC BK123.out 0).trans rfl; have hcz39_1 : w38.cell? ⟨gb123, 1, none⟩ = some (.int .i64 a2_1) := (bkC BK123.out 1).trans rfl; have hcz39_2 : w38.cell? ⟨gb123, 2, none⟩ = some (.int .i64 a2_2) := (bkC BK123.out 2).trans rfl; have hcz39_3 : w38.cell? ⟨gb123, 3, none⟩ = some (.int .i64 a2_3) := (bkC BK123.out 3).trans rfl; have hcz39_4 : w38.cell? ⟨gb123, 4, none⟩ = some (.int .i64 a2_4) := (bkC BK123.out 4).trans rfl; have hfz39_0 := bkF BK123.out 0; have hfz39_1 := bkF BK123.out 1; have hfz39_2 := bkF BK123.out 2; have hfz39_3 := bkF BK123.out 3; have hfz39_4 := bkF BK123.out 4; have hcz40_0 : w38.cell? ⟨gb121, 0, none⟩ = some (.int .i64 a0_0) := (bkC BK121.out 0).trans rfl; have hcz40_1 : w38.cell? ⟨gb121, 1, none⟩ = some (.int .i64 a0_1) := (bkC BK121.out 1).trans rfl; have hfz40_0 := bkF BK121.out 0; have hfz40_1 := bkF BK121.out 1; have hcz41_0 : w38.cell? ⟨gb122, 0, none⟩ = some (.int .i64 a1_0) := (bkC BK122.out 0).trans rfl; have hcz41_1 : w38.cell? ⟨gb122, 1, none⟩ = some (.int .i64 a1_1) := (bkC BK122.out 1).trans rfl; have hfz41_0 := bkF BK122.out 0; have hfz41_1 := bkF BK122.out 1) | (go_at_call 54; (with_reducible refine (geometry_on.calls k a2_2 a2_3 a0_0 a0_1 a1_0 a1_1 false _ A17.out).mono ?_); rintro e w42 ⟨rfl, hb⟩; have n0_ := Aside0.mk (bkB (g := gb121) (o := .cells #[.int .i64 a0_0, .int .i64 a0_1] 28 (0, 0)) (by (with_reducible repeat (first | refine bkN ?_ _ | refine bkD ?_ | refine bkA ?_ _)); exact BK121.out) hb); have n1_ := Aside0.mk (bkB (g := gb122) (o := .cells #[.int .i64 a1_0, .int .i64 a1_1] 28 (0, 0)) (by (with_reducible repeat (first | refine bkN ?_ _ | refine bkD ?_ | refine bkA ?_ _)); exact BK122.out) hb); have n2_ := Aside0.mk (bkB (g := gb123) (o := .cells #[.int .i64 a2_0, .int .i64 a2_1, .int .i64 a2_2, .int .i64 a2_3, .int .i64 a2_4] 47 (0, 0)) (by (with_reducible repeat (first | refine bkN ?_ _ | refine bkD ?_ | refine bkA ?_ _)); exact BK123.out) hb); have n3_ := Aside0.mk (below_step (by repeat (first | (with_reducible first | exact HB.out | apply blA | apply blN | apply blD | refine blS ?_ GE121.out | refine blS ?_ GE122.out | refine blS ?_ GE123.out) | exact HB.out)) hb); clear BK121; clear BK122; clear BK123; clear HB; have BK121 := n0_; have BK122 := n1_; have BK123 := n2_; have HB := n3_; clear n0_ n1_ n2_ n3_; (try clear hb); (try clear hb2); (try clear hk); (try clear hi); have hcz43_0 : w42.cell? ⟨gb121, 0, none⟩ = some (.int .i64 a0_0) := (bkC BK121.out 0).trans rfl; have hcz43_1 : w42.cell? ⟨gb121, 1, none⟩ = some (.int .i64 a0_1) := (bkC BK121.out 1).trans rfl; have hfz43_0 := bkF BK121.out 0; have hfz43_1 := bkF BK121.out 1; have hcz44_0 : w42.cell? ⟨gb123, 0, none⟩ = some (.int .i64 a2_0) := (bkC BK123.out 0).trans rfl; have hcz44_1 : w42.cell? ⟨gb123, 1, none⟩ = some (.int .i64 a2_1) := (bkC BK123.out 1).trans rfl; have hcz44_2 : w42.cell? ⟨gb123, 2, none⟩ = some (.int .i64 a2_2) := (bkC BK123.out 2).trans rfl; have hcz44_3 : w42.cell? ⟨gb123, 3, none⟩ = some (.int .i64 a2_3) := (bkC BK123.out 3).trans rfl; have hcz44_4 : w42.cell? ⟨gb123, 4, none⟩ = some (.int .i64 a2_4) := (bkC BK123.out 4).trans rfl; have hfz44_0 := bkF BK123.out 0; have hfz44_1 := bkF BK123.out 1; have hfz44_2 := bkF BK123.out 2; have hfz44_3 := bkF BK123.out 3; have hfz44_4 := bkF BK123.out 4) | (go_at_call 54; (with_reducible refine (geometry_on.calls k a0_0 a0_1 a2_0 a2_1 a2_2 a2_3 true _ A30.out).mono ?_); rintro e w45 ⟨rfl, hb⟩; have n0_ := Aside0.mk (bkB (g := gb121) (o := .cells #[.int .i64 a0_0, .int .i64 a0_1] 28 (0, 0)) (by (with_reducible repeat (first | refine bkN ?_ _ | refine bkD ?_ | refine bkA ?_ _)); exact BK121.out) hb); have n1_ := Aside0.mk (bkB (g := gb122) (o := .cells #[.int .i64 a1_0, .int .i64 a1_1] 28 (0, 0)) (by (with_reducible repeat (first | refine bkN ?_ _ | refine bkD ?_ | refine bkA ?_ _)); exact BK122.out) hb); have n2_ := Aside0.mk (bkB (g := gb123) (o := .cells #[.int .i64 a2_0, .int .i64 a2_1, .int .i64 a2_2, .int .i64 a2_3, .int .i64 a2_4] 47 (0, 0)) (by (with_reducible repeat (first | refine bkN ?_ _ | refine bkD ?_ | refine bkA ?_ _)); exact BK123.out) hb); have n3_ := Aside0.mk (below_step (by repeat (first | (with_reducible first | exact HB.out | apply blA | apply blN | apply blD | refine blS ?_ GE121.out | refine blS ?_ GE122.out | refine blS ?_ GE123.out) | exact HB.out)) hb); clear BK121; clear BK122; clear BK123; clear HB; have BK121 := n0_; have BK122 := n1_; have BK123 := n2_; have HB := n3_; clear n0_ n1_ n2_ n3_; (try clear hb); (try clear hb2); (try clear hk); (try clear hi)))
   go_meet
   case rel => exact ⟨_, (true), (by first | rfl | (simp; done) | (simp [*]; done)), H', ⟨by first | omega | exact Nat.le_refl _⟩, ⟨by (with_reducible repeat (first | refine bkN ?_ _ | refine bkD ?_ | refine bkA ?_ _)); exact BK121.out⟩, ⟨by (with_reducible repeat (first | refine bkN ?_ _ | refine bkD ?_ | refine bkA ?_ _)); exact BK122.out⟩, ⟨by (with_reducible repeat (first | refine bkN ?_ _ | refine bkD ?_ | refine bkA ?_ _)); exact BK123.out⟩, ⟨by repeat (first | (with_reducible first | exact HB.out | apply blA | apply blN | apply blD | refine blS ?_ GE121.out | refine blS ?_ GE122.out | refine blS ?_ GE123.out) | exact HB.out)⟩⟩
  replace c31 := Bool.eq_false_iff.mpr c31
  subst c31
  have H1 : ((geometry_on.f k a1_0 a1_1 a2_0 a2_1 a2_2 a2_3).bind fun t127 => (geometry_Crosses.j0 k t127 a0_0 a0_1 a1_0 a1_1 a2_0 a2_1 a2_2 a2_3 a2_4)) = some r := by rw [if_neg (show ¬ (false = true) by decide)] at H; exact H
  clear H
  have H := H1
  clear H1
  replace H := Option.bind_eq_some_iff.mp H
  obtain ⟨t127, A460, H⟩ := H
  replace H : (geometry_Crosses.j0 k t127 a0_0 a0_1 a1_0 a1_1 a2_0 a2_1 a2_2 a2_3 a2_4) = some r := H
  have A46 := Aside0.mk A460
  clear A460
  have H' := Aside0.mk H
  clear H
  have hnb47 := NB123_121.out
  have hnc47 := NB121_123.out
  have hnb48 := NB123_122.out
  have hnc48 := NB122_123.out
  have hcz49_0 : w7.cell? ⟨gb123, 0, none⟩ = some (.int .i64 a2_0) := (bkC BK123.out 0).trans rfl
  have hcz49_1 : w7.cell? ⟨gb123, 1, none⟩ = some (.int .i64 a2_1) := (bkC BK123.out 1).trans rfl
  have hcz49_2 : w7.cell? ⟨gb123, 2, none⟩ = some (.int .i64 a2_2) := (bkC BK123.out 2).trans rfl
  have hcz49_3 : w7.cell? ⟨gb123, 3, none⟩ = some (.int .i64 a2_3) := (bkC BK123.out 3).trans rfl
  have hcz49_4 : w7.cell? ⟨gb123, 4, none⟩ = some (.int .i64 a2_4) := (bkC BK123.out 4).trans rfl
  have hfz49_0 := bkF BK123.out 0
  have hfz49_1 := bkF BK123.out 1
  have hfz49_2 := bkF BK123.out 2
  have hfz49_3 := bkF BK123.out 3
  have hfz49_4 := bkF BK123.out 4
  have hnb50 := NB121_122.out
  have hnc50 := NB122_121.out
  have hcz51_0 : w7.cell? ⟨gb121, 0, none⟩ = some (.int .i64 a0_0) := (bkC BK121.out 0).trans rfl
  have hcz51_1 : w7.cell? ⟨gb121, 1, none⟩ = some (.int .i64 a0_1) := (bkC BK121.out 1).trans rfl
  have hfz51_0 := bkF BK121.out 0
  have hfz51_1 := bkF BK121.out 1
  have hcz52_0 : w7.cell? ⟨gb122, 0, none⟩ = some (.int .i64 a1_0) := (bkC BK122.out 0).trans rfl
  have hcz52_1 : w7.cell? ⟨gb122, 1, none⟩ = some (.int .i64 a1_1) := (bkC BK122.out 1).trans rfl
  have hfz52_0 := bkF BK122.out 0
  have hfz52_1 := bkF BK122.out 1
  go_wp2_with (first | ((with_reducible refine gate_callee (f := 54) rfl ?_); refine goesL_ (some 11) rfl rfl Try.func54 (by kernel_rfl) rfl #[.agg #[.int .i64 a2_0, .int .i64 a2_1], .agg #[.int .i64 a0_0, .int .i64 a0_1], .agg #[.int .i64 a1_0, .int .i64 a1_1]] rfl (by (try simp only [List.map_toArray, List.map_cons, List.map_nil]); first | done | rfl | (simp only [List.length_drop, List.length_take]; rfl)) ?_; (with_reducible refine (geometry_on.calls k a2_0 a2_1 a0_0 a0_1 a1_0 a1_1 false _ A8.out).mono ?_); rintro e w53 ⟨rfl, hb⟩; refine ⟨_, rfl, ?_⟩; have n0_ := Aside0.mk (bkB (g := gb121) (o := .cells #[.int .i64 a0_0, .int .i64 a0_1] 28 (0, 0)) (by (with_reducible repeat (first | refine bkN ?_ _ | refine bkD ?_ | refine bkA ?_ _)); exact BK121.out) hb); have n1_ := Aside0.mk (bkB (g := gb122) (o := .cells #[.int .i64 a1_0, .int .i64 a1_1] 28 (0, 0)) (by (with_reducible repeat (first | refine bkN ?_ _ | refine bkD ?_ | refine bkA ?_ _)); exact BK122.out) hb); have n2_ := Aside0.mk (bkB (g := gb123) (o := .cells #[.int .i64 a2_0, .int .i64 a2_1, .int .i64 a2_2, .int .i64 a2_3, .int .i64 a2_4] 47 (0, 0)) (by (with_reducible repeat (first | refine bkN ?_ _ | refine bkD ?_ | refine bkA ?_ _)); exact BK123.out) hb); have n3_ := Aside0.mk (below_step (by repeat (first | (with_reducible first | exact HB.out | apply blA | apply blN | apply blD | refine blS ?_ GE121.out | refine blS ?_ GE122.out | refine blS ?_ GE123.out) | exact HB.out)) hb); clear BK121; clear BK122; clear BK123; clear HB; have BK121 := n0_; have BK122 := n1_; have BK123 := n2_; have HB := n3_; clear n0_ n1_ n2_ n3_; (try clear hb); (try clear hb2); (try clear hk); (try clear hi); have hcz54_0 : w53.cell? ⟨gb123, 0, none⟩ = some (.int .i64 a2_0) := (bkC BK123.out 0).trans rfl; have hcz54_1 : w53.cell? ⟨gb123, 1, none⟩ = some (.int .i64 a2_1) := (bkC BK123.out 1).trans rfl; have hcz54_2 : w53.cell? ⟨gb123, 2, none⟩ = some (.int .i64 a2_2) := (bkC BK123.out 2).trans rfl; have hcz54_3 : w53.cell? ⟨gb123, 3, none⟩ = some (.int .i64 a2_3) := (bkC BK123.out 3).trans rfl; have hcz54_4 : w53.cell? ⟨gb123, 4, none⟩ = some (.int .i64 a2_4) := (bkC BK123.out 4).trans rfl; have hfz54_0 := bkF BK123.out 0; have hfz54_1 := bkF BK123.out 1; have hfz54_2 := bkF BK123.out 2; have hfz54_3 := bkF BK123.out 3; have hfz54_4 := bkF BK123.out 4; have hcz55_0 : w53.cell? ⟨gb121, 0, none⟩ = some (.int .i64 a0_0) := (bkC BK121.out 0).trans rfl; have hcz55_1 : w53.cell? ⟨gb121, 1, none⟩ = some (.int .i64 a0_1) := (bkC BK121.out 1).trans rfl; have hfz55_0 := bkF BK121.out 0; have hfz55_1 := bkF BK121.out 1; have hcz56_0 : w53.cell? ⟨gb122, 0, none⟩ = some (.int .i64 a1_0) := (bkC BK122.out 0).trans rfl; have hcz56_1 : w53.cell? ⟨gb122, 1, none⟩ = some (.int .i64 a1_1) := (bkC BK122.out 1).trans rfl; have hfz56_0 := bkF BK122.out 0; have hfz56_1 := bkF BK122.out 1) | (go_at_call 54; (with_reducible refine (geometry_on.calls k a2_2 a2_3 a0_0 a0_1 a1_0 a1_1 false _ A17.out).mono ?_); rintro e w57 ⟨rfl, hb⟩; have n0_ := Aside0.mk (bkB (g := gb121) (o := .cells #[.int .i64 a0_0, .int .i64 a0_1] 28 (0, 0)) (by (with_reducible repeat (first | refine bkN ?_ _ | refine bkD ?_ | refine bkA ?_ _)); exact BK121.out) hb); have n1_ := Aside0.mk (bkB (g := gb122) (o := .cells #[.int .i64 a1_0, .int .i64 a1_1] 28 (0, 0)) (by (with_reducible repeat (first | refine bkN ?_ _ | refine bkD ?_ | refine bkA ?_ _)); exact BK122.out) hb); have n2_ := Aside0.mk (bkB (g := gb123) (o := .cells #[.int .i64 a2_0, .int .i64 a2_1, .int .i64 a2_2, .int .i64 a2_3, .int .i64 a2_4] 47 (0, 0)) (by (with_reducible repeat (first | refine bkN ?_ _ | refine bkD ?_ | refine bkA ?_ _)); exact BK123.out) hb); have n3_ := Aside0.mk (below_step (by repeat (first | (with_reducible first | exact HB.out | apply blA | apply blN | apply blD | refine blS ?_ GE121.out | refine blS ?_ GE122.out | refine blS ?_ GE123.out) | exact HB.out)) hb); clear BK121; clear BK122; clear BK123; clear HB; have BK121 := n0_; have BK122 := n1_; have BK123 := n2_; have HB := n3_; clear n0_ n1_ n2_ n3_; (try clear hb); (try clear hb2); (try clear hk); (try clear hi); have hcz58_0 : w57.cell? ⟨gb121, 0, none⟩ = some (.int .i64 a0_0) := (bkC BK121.out 0).trans rfl; have hcz58_1 : w57.cell? ⟨gb121, 1, none⟩ = some (.int .i64 a0_1) := (bkC BK121.out 1).trans rfl; have hfz58_0 := bkF BK121.out 0; have hfz58_1 := bkF BK121.out 1; have hcz59_0 : w57.cell? ⟨gb123, 0, none⟩ = some (.int .i64 a2_0) := (bkC BK123.out 0).trans rfl; have hcz59_1 : w57.cell? ⟨gb123, 1, none⟩ = some (.int .i64 a2_1) := (bkC BK123.out 1).trans rfl; have hcz59_2 : w57.cell? ⟨gb123, 2, none⟩ = some (.int .i64 a2_2) := (bkC BK123.out 2).trans rfl; have hcz59_3 : w57.cell? ⟨gb123, 3, none⟩ = some (.int .i64 a2_3) := (bkC BK123.out 3).trans rfl; have hcz59_4 : w57.cell? ⟨gb123, 4, none⟩ = some (.int .i64 a2_4) := (bkC BK123.out 4).trans rfl; have hfz59_0 := bkF BK123.out 0; have hfz59_1 := bkF BK123.out 1; have hfz59_2 := bkF BK123.out 2; have hfz59_3 := bkF BK123.out 3; have hfz59_4 := bkF BK123.out 4) | (go_at_call 54; (with_reducible refine (geometry_on.calls k a0_0 a0_1 a2_0 a2_1 a2_2 a2_3 false _ A30.out).mono ?_); rintro e w60 ⟨rfl, hb⟩; have n0_ := Aside0.mk (bkB (g := gb121) (o := .cells #[.int .i64 a0_0, .int .i64 a0_1] 28 (0, 0)) (by (with_reducible repeat (first | refine bkN ?_ _ | refine bkD ?_ | refine bkA ?_ _)); exact BK121.out) hb); have n1_ := Aside0.mk (bkB (g := gb122) (o := .cells #[.int .i64 a1_0, .int .i64 a1_1] 28 (0, 0)) (by (with_reducible repeat (first | refine bkN ?_ _ | refine bkD ?_ | refine bkA ?_ _)); exact BK122.out) hb); have n2_ := Aside0.mk (bkB (g := gb123) (o := .cells #[.int .i64 a2_0, .int .i64 a2_1, .int .i64 a2_2, .int .i64 a2_3, .int .i64 a2_4] 47 (0, 0)) (by (with_reducible repeat (first | refine bkN ?_ _ | refine bkD ?_ | refine bkA ?_ _)); exact BK123.out) hb); have n3_ := Aside0.mk (below_step (by repeat (first | (with_reducible first | exact HB.out | apply blA | apply blN | apply blD | refine blS ?_ GE121.out | refine blS ?_ GE122.out | refine blS ?_ GE123.out) | exact HB.out)) hb); clear BK121; clear BK122; clear BK123; clear HB; have BK121 := n0_; have BK122 := n1_; have BK123 := n2_; have HB := n3_; clear n0_ n1_ n2_ n3_; (try clear hb); (try clear hb2); (try clear hk); (try clear hi); have hcz61_0 : w60.cell? ⟨gb122, 0, none⟩ = some (.int .i64 a1_0) := (bkC BK122.out 0).trans rfl; have hcz61_1 : w60.cell? ⟨gb122, 1, none⟩ = some (.int .i64 a1_1) := (bkC BK122.out 1).trans rfl; have hfz61_0 := bkF BK122.out 0; have hfz61_1 := bkF BK122.out 1; have hcz62_0 : w60.cell? ⟨gb123, 0, none⟩ = some (.int .i64 a2_0) := (bkC BK123.out 0).trans rfl; have hcz62_1 : w60.cell? ⟨gb123, 1, none⟩ = some (.int .i64 a2_1) := (bkC BK123.out 1).trans rfl; have hcz62_2 : w60.cell? ⟨gb123, 2, none⟩ = some (.int .i64 a2_2) := (bkC BK123.out 2).trans rfl; have hcz62_3 : w60.cell? ⟨gb123, 3, none⟩ = some (.int .i64 a2_3) := (bkC BK123.out 3).trans rfl; have hcz62_4 : w60.cell? ⟨gb123, 4, none⟩ = some (.int .i64 a2_4) := (bkC BK123.out 4).trans rfl; have hfz62_0 := bkF BK123.out 0; have hfz62_1 := bkF BK123.out 1; have hfz62_2 := bkF BK123.out 2; have hfz62_3 := bkF BK123.out 3; have hfz62_4 := bkF BK123.out 4) | (go_at_call 54; (with_reducible refine (geometry_on.calls k a1_0 a1_1 a2_0 a2_1 a2_2 a2_3 t127 _ A46.out).mono ?_); rintro e w63 ⟨rfl, hb⟩; have n0_ := Aside0.mk (bkB (g := gb121) (o := .cells #[.int .i64 a0_0, .int .i64 a0_1] 28 (0, 0)) (by (with_reducible repeat (first | refine bkN ?_ _ | refine bkD ?_ | refine bkA ?_ _)); exact BK121.out) hb); have n1_ := Aside0.mk (bkB (g := gb122) (o := .cells #[.int .i64 a1_0, .int .i64 a1_1] 28 (0, 0)) (by (with_reducible repeat (first | refine bkN ?_ _ | refine bkD ?_ | refine bkA ?_ _)); exact BK122.out) hb); have n2_ := Aside0.mk (bkB (g := gb123) (o := .cells #[.int .i64 a2_0, .int .i64 a2_1, .int .i64 a2_2, .int .i64 a2_3, .int .i64 a2_4] 47 (0, 0)) (by (with_reducible repeat (first | refine bkN ?_ _ | refine bkD ?_ | refine bkA ?_ _)); exact BK123.out) hb); have n3_ := Aside0.mk (below_step (by repeat (first | (with_reducible first | exact HB.out | apply blA | apply blN | apply blD | refine blS ?_ GE121.out | refine blS ?_ GE122.out | refine blS ?_ GE123.out) | exact HB.out)) hb); clear BK121; clear BK122; clear BK123; clear HB; have BK121 := n0_; have BK122 := n1_; have BK123 := n2_; have HB := n3_; clear n0_ n1_ n2_ n3_; (try clear hb); (try clear hb2); (try clear hk); (try clear hi)))
  go_meet
  case rel => exact ⟨_, (t127), (by first | rfl | (simp; done) | (simp [*]; done)), H', ⟨by first | omega | exact Nat.le_refl _⟩, ⟨by (with_reducible repeat (first | refine bkN ?_ _ | refine bkD ?_ | refine bkA ?_ _)); exact BK121.out⟩, ⟨by (with_reducible repeat (first | refine bkN ?_ _ | refine bkD ?_ | refine bkA ?_ _)); exact BK122.out⟩, ⟨by (with_reducible repeat (first | refine bkN ?_ _ | refine bkD ?_ | refine bkA ?_ _)); exact BK123.out⟩, ⟨by repeat (first | (with_reducible first | exact HB.out | apply blA | apply blN | apply blD | refine blS ?_ GE121.out | refine blS ?_ GE122.out | refine blS ?_ GE123.out) | exact HB.out)⟩⟩
 case rest =>
  clear HC4
  try clear c1
  try clear c2
  try clear p2
  try clear c3
  try clear c4
  try clear c5
  try clear c9
  try clear c10
  try clear c11
  try clear c13
  try clear c18
  try clear c19
  try clear c20
  try clear c22
  try clear c27
  try clear c31
  try clear c32
  try clear c33
  try clear c35
  try clear c47
  try clear c48
  try clear c50
  try clear c54
  try clear hcz12_0
  try clear hcz12_1
  try clear hcz12_2
  try clear hcz12_3
  try clear hcz12_4
  try clear hcz14_0
  try clear hcz14_1
  try clear hcz15_0
  try clear hcz15_1
  try clear hcz21_0
  try clear hcz21_1
  try clear hcz21_2
  try clear hcz21_3
  try clear hcz21_4
  try clear hcz23_0
  try clear hcz23_1
  try clear hcz24_0
  try clear hcz24_1
  try clear hcz26_0
  try clear hcz26_1
  try clear hcz26_2
  try clear hcz26_3
  try clear hcz26_4
  try clear hcz27_0
  try clear hcz27_1
  try clear hcz28_0
  try clear hcz28_1
  try clear hcz34_0
  try clear hcz34_1
  try clear hcz34_2
  try clear hcz34_3
  try clear hcz34_4
  try clear hcz36_0
  try clear hcz36_1
  try clear hcz37_0
  try clear hcz37_1
  try clear hcz39_0
  try clear hcz39_1
  try clear hcz39_2
  try clear hcz39_3
  try clear hcz39_4
  try clear hcz40_0
  try clear hcz40_1
  try clear hcz41_0
  try clear hcz41_1
  try clear hcz43_0
  try clear hcz43_1
  try clear hcz44_0
  try clear hcz44_1
  try clear hcz44_2
  try clear hcz44_3
  try clear hcz44_4
  try clear hcz49_0
  try clear hcz49_1
  try clear hcz49_2
  try clear hcz49_3
  try clear hcz49_4
  try clear hcz51_0
  try clear hcz51_1
  try clear hcz52_0
  try clear hcz52_1
  try clear hcz54_0
  try clear hcz54_1
  try clear hcz54_2
  try clear hcz54_3
  try clear hcz54_4
  try clear hcz55_0
  try clear hcz55_1
  try clear hcz56_0
  try clear hcz56_1
  try clear hcz58_0
  try clear hcz58_1
  try clear hcz59_0
  try clear hcz59_1
  try clear hcz59_2
  try clear hcz59_3
  try clear hcz59_4
  try clear hcz61_0
  try clear hcz61_1
  try clear hcz62_0
  try clear hcz62_1
  try clear hcz62_2
  try clear hcz62_3
  try clear hcz62_4
  try clear hfz12_0
  try clear hfz12_1
  try clear hfz12_2
  try clear hfz12_3
  try clear hfz12_4
  try clear hfz14_0
  try clear hfz14_1
  try clear hfz15_0
  try clear hfz15_1
  try clear hfz21_0
  try clear hfz21_1
  try clear hfz21_2
  try clear hfz21_3
  try clear hfz21_4
  try clear hfz23_0
  try clear hfz23_1
  try clear hfz24_0
  try clear hfz24_1
  try clear hfz26_0
  try clear hfz26_1
  try clear hfz26_2
  try clear hfz26_3
  try clear hfz26_4
  try clear hfz27_0
  try clear hfz27_1
  try clear hfz28_0
  try clear hfz28_1
  try clear hfz34_0
  try clear hfz34_1
  try clear hfz34_2
  try clear hfz34_3
  try clear hfz34_4
  try clear hfz36_0
  try clear hfz36_1
  try clear hfz37_0
  try clear hfz37_1
  try clear hfz39_0
  try clear hfz39_1
  try clear hfz39_2
  try clear hfz39_3
  try clear hfz39_4
  try clear hfz40_0
  try clear hfz40_1
  try clear hfz41_0
  try clear hfz41_1
  try clear hfz43_0
  try clear hfz43_1
  try clear hfz44_0
  try clear hfz44_1
  try clear hfz44_2
  try clear hfz44_3
  try clear hfz44_4
  try clear hfz49_0
  try clear hfz49_1
  try clear hfz49_2
  try clear hfz49_3
  try clear hfz49_4
  try clear hfz51_0
  try clear hfz51_1
  try clear hfz52_0
  try clear hfz52_1
  try clear hfz54_0
  try clear hfz54_1
  try clear hfz54_2
  try clear hfz54_3
  try clear hfz54_4
  try clear hfz55_0
  try clear hfz55_1
  try clear hfz56_0
  try clear hfz56_1
  try clear hfz58_0
  try clear hfz58_1
  try clear hfz59_0
  try clear hfz59_1
  try clear hfz59_2
  try clear hfz59_3
  try clear hfz59_4
  try clear hfz61_0
  try clear hfz61_1
  try clear hfz62_0
  try clear hfz62_1
  try clear hfz62_2
  try clear hfz62_3
  try clear hfz62_4
  obtain ⟨kq, x34_3, rfl, HA, HJ3, BK121, BK122, BK123, HB⟩ := hcut
  cases kq with
  | zero => exact absurd HA.out (by simp [geometry_Crosses.j0])
  | succ kj3 =>
   have H := HA.out
   clear HA
   simp only [geometry_Crosses.j0] at H
   by_cases c64 : x34_3 = true
   ·subst c64
    have H1 : (some true) = some r := by rw [if_pos rfl] at H; exact H
    clear H
    have H := H1
    clear H1
    obtain rfl := Option.some.inj H
    go_wp2
    go_ret
    exact ⟨by first | rfl | (simp [errW_none, errW_some] <;> rfl) | (simp [*, errW_none, errW_some] <;> rfl), by repeat (first | (with_reducible first | exact HB.out | apply blA | apply blN | apply blD | refine blS ?_ GE121.out | refine blS ?_ GE122.out | refine blS ?_ GE123.out) | exact HB.out)⟩
   replace c64 := Bool.eq_false_iff.mpr c64
   subst c64
   have H1 : ((geometry_turn.f a0_0 a0_1 a1_0 a1_1 a2_0 a2_1).bind fun t128 => ((geometry_turn.f a0_0 a0_1 a1_0 a1_1 a2_2 a2_3).bind fun t129 => (if (wrap64 (t128 * t129)) < 0 then ((geometry_turn.f a2_0 a2_1 a2_2 a2_3 a0_0 a0_1).bind fun t130 => ((geometry_turn.f a2_0 a2_1 a2_2 a2_3 a1_0 a1_1).bind fun t131 => (some (decide ((wrap64 (t130 * t131)) < 0))))) else (some false)))) = some r := by rw [if_neg (show ¬ (false = true) by decide)] at H; exact H
   clear H
   have H := H1
   clear H1
   replace H := Option.bind_eq_some_iff.mp H
   obtain ⟨t128, A650, H⟩ := H
   replace H : ((geometry_turn.f a0_0 a0_1 a1_0 a1_1 a2_2 a2_3).bind fun t129 => (if (wrap64 (t128 * t129)) < 0 then ((geometry_turn.f a2_0 a2_1 a2_2 a2_3 a0_0 a0_1).bind fun t130 => ((geometry_turn.f a2_0 a2_1 a2_2 a2_3 a1_0 a1_1).bind fun t131 => (some (decide ((wrap64 (t130 * t131)) < 0))))) else (some false))) = some r := H
   have A65 := Aside0.mk A650
   clear A650
   replace H := Option.bind_eq_some_iff.mp H
   obtain ⟨t129, A660, H⟩ := H
   replace H : (if (wrap64 (t128 * t129)) < 0 then ((geometry_turn.f a2_0 a2_1 a2_2 a2_3 a0_0 a0_1).bind fun t130 => ((geometry_turn.f a2_0 a2_1 a2_2 a2_3 a1_0 a1_1).bind fun t131 => (some (decide ((wrap64 (t130 * t131)) < 0))))) else (some false)) = some r := H
   have A66 := Aside0.mk A660
   clear A660
   by_cases c67 : (wrap64 (t128 * t129)) < 0
   rotate_left
   ·rw [if_neg c67] at H
    have c67b0 : decide ((wrap64 (t128 * t129)) < 0) = false := decide_eq_false c67
    clear c67
    obtain rfl := Option.some.inj H
    try go_wp2
    have n0_ := Aside0.mk (bkD BK121.out)
    have n1_ := Aside0.mk (bkD BK122.out)
    have n2_ := Aside0.mk (bkD BK123.out)
    have n3_ := Aside0.mk (blD HB.out)
    clear BK121
    clear BK122
    clear BK123
    clear HB
    have BK121 := n0_
    have BK122 := n1_
    have BK123 := n2_
    have HB := n3_
    clear n0_ n1_ n2_ n3_
    refine start_ (n := 29) (S := fun w' => w'.cell? ⟨gb121, 0, none⟩ = some (.int .i64 a0_0) ∧ w'.cell? ⟨gb121, 1, none⟩ = some (.int .i64 a0_1) ∧ w'.cell? ⟨gb122, 0, none⟩ = some (.int .i64 a1_0) ∧ w'.cell? ⟨gb122, 1, none⟩ = some (.int .i64 a1_1) ∧ w'.cell? ⟨gb123, 0, none⟩ = some (.int .i64 a2_0) ∧ w'.cell? ⟨gb123, 1, none⟩ = some (.int .i64 a2_1) ∧ w'.cell? ⟨gb123, 2, none⟩ = some (.int .i64 a2_2) ∧ w'.cell? ⟨gb123, 3, none⟩ = some (.int .i64 a2_3) ∧ w'.cell? ⟨gb123, 4, none⟩ = some (.int .i64 a2_4)) (ds := []) #[false, false, false, false, false, false, false, false, false, false, false, false, false, false, false, false, false, false, false, false, false, false, false, false, false, false, false, false, false] (by kernel_rfl) rfl rfl ⟨(bkC BK121.out 0).trans rfl, (bkC BK121.out 1).trans rfl, (bkC BK122.out 0).trans rfl, (bkC BK122.out 1).trans rfl, (bkC BK123.out 0).trans rfl, (bkC BK123.out 1).trans rfl, (bkC BK123.out 2).trans rfl, (bkC BK123.out 3).trans rfl, (bkC BK123.out 4).trans rfl⟩ (fun hHeld => ?_); refine with_tabW geometry_Crosses.tab3 geometry_Crosses.bits3 (fun HT_ HW_ => ?_)
    generalize wc.drew = w75 at BK121 BK122 BK123 HB hHeld ⊢
    refine pure_ (i := 2) (N := some 37) (v := ?_) (a' := ?_) #[false, false, true, false, false, false, false, false, false, false, false, false, false, false, false, false, false, false, false, false, false, false, false, false, false, false, false, false, false] rfl rfl (any_of HT_.out (by kernel_rfl)) (fun _ _ _ h => h) (Or.inl ⟨by rfl, ?_⟩) ?_ ?_
    rotate_left
    ·intro w'
     go_simp
     with_reducible rfl
    rotate_left
    ·simp only [Act.put, List.setIfInBounds_toArray, List.set_cons_zero, List.set_cons_succ, i64_w, i32_w]
     rfl
    refine pure_ (i := 7) (N := some 42) (v := ?_) (a' := ?_) #[false, false, true, false, false, false, false, true, false, false, false, false, false, false, false, false, false, false, false, false, false, false, false, false, false, false, false, false, false] rfl rfl (any_of HT_.out (by kernel_rfl)) (fun _ _ _ h => h) (Or.inl ⟨by rfl, ?_⟩) ?_ ?_
    rotate_left
    ·intro w'
     go_simp
     with_reducible rfl
    rotate_left
    ·simp only [Act.put, List.setIfInBounds_toArray, List.set_cons_zero, List.set_cons_succ, i64_w, i32_w]
     rfl
    refine take_ (i := 0) (N := some 35) (v := ?_) (a' := ?_) #[true, false, true, false, false, false, false, true, false, false, false, false, false, false, false, false, false, false, false, false, false, false, false, false, false, false, false, false, false] rfl rfl (take_ofW HT_.out HW_.out (by kernel_rfl)) (fun _ _ _ h => h) (Or.inl ⟨by rfl, ?_⟩) hHeld ?_ ?_
    rotate_left
    ·rintro w' ⟨s0, s1, s2, s3, s4, s5, s6, s7, s8⟩
     go_simp
     with_reducible rfl
    rotate_left
    ·simp only [Act.put, List.setIfInBounds_toArray, List.set_cons_zero, List.set_cons_succ, i64_w, i32_w]
     rfl
    refine take_ (i := 1) (N := some 36) (v := ?_) (a' := ?_) #[true, true, true, false, false, false, false, true, false, false, false, false, false, false, false, false, false, false, false, false, false, false, false, false, false, false, false, false, false] rfl rfl (take_ofW HT_.out HW_.out (by kernel_rfl)) (fun _ _ _ h => h) (Or.inl ⟨by rfl, ?_⟩) hHeld ?_ ?_
    rotate_left
    ·rintro w' ⟨s0, s1, s2, s3, s4, s5, s6, s7, s8⟩
     go_simp
     with_reducible rfl
    rotate_left
    ·simp only [Act.put, List.setIfInBounds_toArray, List.set_cons_zero, List.set_cons_succ, i64_w, i32_w]
     rfl
    refine take_ (i := 3) (N := some 38) (v := ?_) (a' := ?_) #[true, true, true, true, false, false, false, true, false, false, false, false, false, false, false, false, false, false, false, false, false, false, false, false, false, false, false, false, false] rfl rfl (take_ofW HT_.out HW_.out (by kernel_rfl)) (fun _ _ _ h => h) (Or.inl ⟨by rfl, ?_⟩) hHeld ?_ ?_
    rotate_left
    ·rintro w' ⟨s0, s1, s2, s3, s4, s5, s6, s7, s8⟩
     go_simp
     with_reducible rfl
    rotate_left
    ·simp only [Act.put, List.setIfInBounds_toArray, List.set_cons_zero, List.set_cons_succ, i64_w, i32_w]
     rfl
    refine take_ (i := 5) (N := some 40) (v := ?_) (a' := ?_) #[true, true, true, true, false, true, false, true, false, false, false, false, false, false, false, false, false, false, false, false, false, false, false, false, false, false, false, false, false] rfl rfl (take_ofW HT_.out HW_.out (by kernel_rfl)) (fun _ _ _ h => h) (Or.inl ⟨by rfl, ?_⟩) hHeld ?_ ?_
    rotate_left
    ·rintro w' ⟨s0, s1, s2, s3, s4, s5, s6, s7, s8⟩
     go_simp
     with_reducible rfl
    rotate_left
    ·simp only [Act.put, List.setIfInBounds_toArray, List.set_cons_zero, List.set_cons_succ, i64_w, i32_w]
     rfl
    refine take_ (i := 6) (N := some 41) (v := ?_) (a' := ?_) #[true, true, true, true, false, true, true, true, false, false, false, false, false, false, false, false, false, false, false, false, false, false, false, false, false, false, false, false, false] rfl rfl (take_ofW HT_.out HW_.out (by kernel_rfl)) (fun _ _ _ h => h) (Or.inl ⟨by rfl, ?_⟩) hHeld ?_ ?_
    rotate_left
    ·rintro w' ⟨s0, s1, s2, s3, s4, s5, s6, s7, s8⟩
     go_simp
     with_reducible rfl
    rotate_left
    ·simp only [Act.put, List.setIfInBounds_toArray, List.set_cons_zero, List.set_cons_succ, i64_w, i32_w]
     rfl
    refine take_ (i := 8) (N := some 43) (v := ?_) (a' := ?_) #[true, true, true, true, false, true, true, true, true, false, false, false, false, false, false, false, false, false, false, false, false, false, false, false, false, false, false, false, false] rfl rfl (take_ofW HT_.out HW_.out (by kernel_rfl)) (fun _ _ _ h => h) (Or.inl ⟨by rfl, ?_⟩) hHeld ?_ ?_
    rotate_left
    ·rintro w' ⟨s0, s1, s2, s3, s4, s5, s6, s7, s8⟩
     go_simp
     with_reducible rfl
    rotate_left
    ·simp only [Act.put, List.setIfInBounds_toArray, List.set_cons_zero, List.set_cons_succ, i64_w, i32_w]
     rfl
    refine one_ (i := 4) (N := some 39) #[true, true, true, true, true, true, true, true, true, false, false, false, false, false, false, false, false, false, false, false, false, false, false, false, false, false, false, false, false] rfl rfl (one_of HT_.out (by kernel_rfl)) (by decide) (fun K hK => ?_)
    refine goes_ Try.func55 (by kernel_rfl) rfl #[.agg #[.int .i64 a0_0, .int .i64 a0_1], .agg #[.int .i64 a1_0, .int .i64 a1_1], .agg #[.int .i64 a2_0, .int .i64 a2_1]] (by rfl) rfl rfl (by (try simp only [List.map_toArray, List.map_cons, List.map_nil]); first | done | rfl | (simp only [List.length_drop, List.length_take]; rfl)) ?_
    with_reducible refine (geometry_turn.calls a0_0 a0_1 a1_0 a1_1 a2_0 a2_1 t128 _ A65.out).mono ?_
    rintro e w76 ⟨rfl, hb⟩
    refine ⟨_, rfl, ?_⟩
    have n0_ := Aside0.mk (bkB (g := gb121) (o := .cells #[.int .i64 a0_0, .int .i64 a0_1] 28 (0, 0)) (by (with_reducible repeat (first | refine bkN ?_ _ | refine bkD ?_ | refine bkA ?_ _)); exact BK121.out) hb)
    have n1_ := Aside0.mk (bkB (g := gb122) (o := .cells #[.int .i64 a1_0, .int .i64 a1_1] 28 (0, 0)) (by (with_reducible repeat (first | refine bkN ?_ _ | refine bkD ?_ | refine bkA ?_ _)); exact BK122.out) hb)
    have n2_ := Aside0.mk (bkB (g := gb123) (o := .cells #[.int .i64 a2_0, .int .i64 a2_1, .int .i64 a2_2, .int .i64 a2_3, .int .i64 a2_4] 47 (0, 0)) (by (with_reducible repeat (first | refine bkN ?_ _ | refine bkD ?_ | refine bkA ?_ _)); exact BK123.out) hb)
    have n3_ := Aside0.mk (below_step (by repeat (first | (with_reducible first | exact HB.out | apply blA | apply blN | apply blD | refine blS ?_ GE121.out | refine blS ?_ GE122.out | refine blS ?_ GE123.out) | exact HB.out)) hb)
    clear BK121
    clear BK122
    clear BK123
    clear HB
    have BK121 := n0_
    have BK122 := n1_
    have BK123 := n2_
    have HB := n3_
    clear n0_ n1_ n2_ n3_
    (try clear hb)
    (try clear hb2)
    (try clear hk)
    (try clear hi)
    refine hK.out _ _ ⟨(bkC BK121.out 0).trans rfl, (bkC BK121.out 1).trans rfl, (bkC BK122.out 0).trans rfl, (bkC BK122.out 1).trans rfl, (bkC BK123.out 0).trans rfl, (bkC BK123.out 1).trans rfl, (bkC BK123.out 2).trans rfl, (bkC BK123.out 3).trans rfl, (bkC BK123.out 4).trans rfl⟩ (fun hHeld => ?_)
    clear hK K
    refine norm_ (a' := ?_) ?_ ?_
    rotate_left
    ·show Act.put _ (some 39) _ = _
     simp only [Act.put, List.setIfInBounds_toArray, List.set_cons_zero, List.set_cons_succ, i64_w, i32_w]
     rfl
    refine one_ (i := 9) (N := some 44) #[true, true, true, true, true, true, true, true, true, true, false, false, false, false, false, false, false, false, false, false, false, false, false, false, false, false, false, false, false] rfl rfl (one_of HT_.out (by kernel_rfl)) (by decide) (fun K hK => ?_)
    refine goes_ Try.func55 (by kernel_rfl) rfl #[.agg #[.int .i64 a0_0, .int .i64 a0_1], .agg #[.int .i64 a1_0, .int .i64 a1_1], .agg #[.int .i64 a2_2, .int .i64 a2_3]] (by rfl) rfl rfl (by (try simp only [List.map_toArray, List.map_cons, List.map_nil]); first | done | rfl | (simp only [List.length_drop, List.length_take]; rfl)) ?_
    with_reducible refine (geometry_turn.calls a0_0 a0_1 a1_0 a1_1 a2_2 a2_3 t129 _ A66.out).mono ?_
    rintro e w77 ⟨rfl, hb⟩
    refine ⟨_, rfl, ?_⟩
    have n0_ := Aside0.mk (bkB (g := gb121) (o := .cells #[.int .i64 a0_0, .int .i64 a0_1] 28 (0, 0)) (by (with_reducible repeat (first | refine bkN ?_ _ | refine bkD ?_ | refine bkA ?_ _)); exact BK121.out) hb)
    have n1_ := Aside0.mk (bkB (g := gb122) (o := .cells #[.int .i64 a1_0, .int .i64 a1_1] 28 (0, 0)) (by (with_reducible repeat (first | refine bkN ?_ _ | refine bkD ?_ | refine bkA ?_ _)); exact BK122.out) hb)
    have n2_ := Aside0.mk (bkB (g := gb123) (o := .cells #[.int .i64 a2_0, .int .i64 a2_1, .int .i64 a2_2, .int .i64 a2_3, .int .i64 a2_4] 47 (0, 0)) (by (with_reducible repeat (first | refine bkN ?_ _ | refine bkD ?_ | refine bkA ?_ _)); exact BK123.out) hb)
    have n3_ := Aside0.mk (below_step (by repeat (first | (with_reducible first | exact HB.out | apply blA | apply blN | apply blD | refine blS ?_ GE121.out | refine blS ?_ GE122.out | refine blS ?_ GE123.out) | exact HB.out)) hb)
    clear BK121
    clear BK122
    clear BK123
    clear HB
    have BK121 := n0_
    have BK122 := n1_
    have BK123 := n2_
    have HB := n3_
    clear n0_ n1_ n2_ n3_
    (try clear hb)
    (try clear hb2)
    (try clear hk)
    (try clear hi)
    refine hK.out _ _ ⟨(bkC BK121.out 0).trans rfl, (bkC BK121.out 1).trans rfl, (bkC BK122.out 0).trans rfl, (bkC BK122.out 1).trans rfl, (bkC BK123.out 0).trans rfl, (bkC BK123.out 1).trans rfl, (bkC BK123.out 2).trans rfl, (bkC BK123.out 3).trans rfl, (bkC BK123.out 4).trans rfl⟩ (fun hHeld => ?_)
    clear hK K
    refine norm_ (a' := ?_) ?_ ?_
    rotate_left
    ·show Act.put _ (some 44) _ = _
     simp only [Act.put, List.setIfInBounds_toArray, List.set_cons_zero, List.set_cons_succ, i64_w, i32_w]
     rfl
    refine pure_ (i := 10) (N := some 45) (v := ?_) (a' := ?_) #[true, true, true, true, true, true, true, true, true, true, true, false, false, false, false, false, false, false, false, false, false, false, false, false, false, false, false, false, false] rfl rfl (any_of HT_.out (by kernel_rfl)) (fun _ _ _ h => h) (Or.inl ⟨by rfl, ?_⟩) ?_ ?_
    rotate_left
    ·intro w'
     go_simp
     with_reducible rfl
    rotate_left
    ·simp only [Act.put, List.setIfInBounds_toArray, List.set_cons_zero, List.set_cons_succ, i64_w, i32_w]
     rfl
    refine pure_ (i := 11) (N := some 46) (v := ?_) (a' := ?_) #[true, true, true, true, true, true, true, true, true, true, true, true, false, false, false, false, false, false, false, false, false, false, false, false, false, false, false, false, false] rfl rfl (any_of HT_.out (by kernel_rfl)) (fun _ _ _ h => h) (Or.inl ⟨by rfl, ?_⟩) ?_ ?_
    rotate_left
    ·intro w'
     go_simp
     with_reducible rfl
    rotate_left
    ·simp only [Act.put, List.setIfInBounds_toArray, List.set_cons_zero, List.set_cons_succ, i64_w, i32_w]
     rfl
    refine pure_ (i := 12) (N := some 47) (v := ?_) (a' := ?_) #[true, true, true, true, true, true, true, true, true, true, true, true, true, false, false, false, false, false, false, false, false, false, false, false, false, false, false, false, false] rfl rfl (any_of HT_.out (by kernel_rfl)) (fun _ _ _ h => h) (Or.inl ⟨by rfl, ?_⟩) ?_ ?_
    rotate_left
    ·intro w'
     go_simp
     with_reducible rfl
    rotate_left
    ·simp only [Act.put, List.setIfInBounds_toArray, List.set_cons_zero, List.set_cons_succ, i64_w, i32_w]
     rfl
    refine pure_ (i := 13) (N := some 48) (v := undef) (a' := ?_) #[true, true, true, true, true, true, true, true, true, true, true, true, true, true, false, false, false, false, false, false, false, false, false, false, false, false, false, false, false] rfl rfl (any_of HT_.out (by kernel_rfl)) (fun _ _ _ h => h) (Or.inr ⟨by rfl, rfl⟩) ?_ ?_
    rotate_left
    ·simp only [Act.put, List.setIfInBounds_toArray, List.set_cons_zero, List.set_cons_succ, i64_w, i32_w]
     rfl
    refine pure_ (i := 14) (N := some 49) (v := undef) (a' := ?_) #[true, true, true, true, true, true, true, true, true, true, true, true, true, true, true, false, false, false, false, false, false, false, false, false, false, false, false, false, false] rfl rfl (any_of HT_.out (by kernel_rfl)) (fun _ _ _ h => h) (Or.inr ⟨by rfl, rfl⟩) ?_ ?_
    rotate_left
    ·simp only [Act.put, List.setIfInBounds_toArray, List.set_cons_zero, List.set_cons_succ, i64_w, i32_w]
     rfl
    refine pure_ (i := 15) (N := some 50) (v := undef) (a' := ?_) #[true, true, true, true, true, true, true, true, true, true, true, true, true, true, true, true, false, false, false, false, false, false, false, false, false, false, false, false, false] rfl rfl (any_of HT_.out (by kernel_rfl)) (fun _ _ _ h => h) (Or.inr ⟨by rfl, rfl⟩) ?_ ?_
    rotate_left
    ·simp only [Act.put, List.setIfInBounds_toArray, List.set_cons_zero, List.set_cons_succ, i64_w, i32_w]
     rfl
    refine pure_ (i := 16) (N := some 51) (v := undef) (a' := ?_) #[true, true, true, true, true, true, true, true, true, true, true, true, true, true, true, true, true, false, false, false, false, false, false, false, false, false, false, false, false] rfl rfl (any_of HT_.out (by kernel_rfl)) (fun _ _ _ h => h) (Or.inr ⟨by rfl, rfl⟩) ?_ ?_
    rotate_left
    ·simp only [Act.put, List.setIfInBounds_toArray, List.set_cons_zero, List.set_cons_succ, i64_w, i32_w]
     rfl
    refine pure_ (i := 17) (N := some 52) (v := undef) (a' := ?_) #[true, true, true, true, true, true, true, true, true, true, true, true, true, true, true, true, true, true, false, false, false, false, false, false, false, false, false, false, false] rfl rfl (any_of HT_.out (by kernel_rfl)) (fun _ _ _ h => h) (Or.inr ⟨by rfl, rfl⟩) ?_ ?_
    rotate_left
    ·simp only [Act.put, List.setIfInBounds_toArray, List.set_cons_zero, List.set_cons_succ, i64_w, i32_w]
     rfl
    refine pure_ (i := 18) (N := some 53) (v := undef) (a' := ?_) #[true, true, true, true, true, true, true, true, true, true, true, true, true, true, true, true, true, true, true, false, false, false, false, false, false, false, false, false, false] rfl rfl (any_of HT_.out (by kernel_rfl)) (fun _ _ _ h => h) (Or.inr ⟨by rfl, rfl⟩) ?_ ?_
    rotate_left
    ·simp only [Act.put, List.setIfInBounds_toArray, List.set_cons_zero, List.set_cons_succ, i64_w, i32_w]
     rfl
    refine pure_ (i := 19) (N := some 54) (v := undef) (a' := ?_) #[true, true, true, true, true, true, true, true, true, true, true, true, true, true, true, true, true, true, true, true, false, false, false, false, false, false, false, false, false] rfl rfl (any_of HT_.out (by kernel_rfl)) (fun _ _ _ h => h) (Or.inr ⟨by rfl, rfl⟩) ?_ ?_
    rotate_left
    ·simp only [Act.put, List.setIfInBounds_toArray, List.set_cons_zero, List.set_cons_succ, i64_w, i32_w]
     rfl
    refine pure_ (i := 20) (N := some 55) (v := undef) (a' := ?_) #[true, true, true, true, true, true, true, true, true, true, true, true, true, true, true, true, true, true, true, true, true, false, false, false, false, false, false, false, false] rfl rfl (any_of HT_.out (by kernel_rfl)) (fun _ _ _ h => h) (Or.inr ⟨by rfl, rfl⟩) ?_ ?_
    rotate_left
    ·simp only [Act.put, List.setIfInBounds_toArray, List.set_cons_zero, List.set_cons_succ, i64_w, i32_w]
     rfl
    refine pure_ (i := 21) (N := some 56) (v := undef) (a' := ?_) #[true, true, true, true, true, true, true, true, true, true, true, true, true, true, true, true, true, true, true, true, true, true, false, false, false, false, false, false, false] rfl rfl (any_of HT_.out (by kernel_rfl)) (fun _ _ _ h => h) (Or.inr ⟨by rfl, rfl⟩) ?_ ?_
    rotate_left
    ·simp only [Act.put, List.setIfInBounds_toArray, List.set_cons_zero, List.set_cons_succ, i64_w, i32_w]
     rfl
    refine pure_ (i := 22) (N := some 57) (v := undef) (a' := ?_) #[true, true, true, true, true, true, true, true, true, true, true, true, true, true, true, true, true, true, true, true, true, true, true, false, false, false, false, false, false] rfl rfl (any_of HT_.out (by kernel_rfl)) (fun _ _ _ h => h) (Or.inr ⟨by rfl, rfl⟩) ?_ ?_
    rotate_left
    ·simp only [Act.put, List.setIfInBounds_toArray, List.set_cons_zero, List.set_cons_succ, i64_w, i32_w]
     rfl
    refine pure_ (i := 23) (N := some 58) (v := undef) (a' := ?_) #[true, true, true, true, true, true, true, true, true, true, true, true, true, true, true, true, true, true, true, true, true, true, true, true, false, false, false, false, false] rfl rfl (any_of HT_.out (by kernel_rfl)) (fun _ _ _ h => h) (Or.inr ⟨by rfl, rfl⟩) ?_ ?_
    rotate_left
    ·simp only [Act.put, List.setIfInBounds_toArray, List.set_cons_zero, List.set_cons_succ, i64_w, i32_w]
     rfl
    refine pure_ (i := 24) (N := some 59) (v := undef) (a' := ?_) #[true, true, true, true, true, true, true, true, true, true, true, true, true, true, true, true, true, true, true, true, true, true, true, true, true, false, false, false, false] rfl rfl (any_of HT_.out (by kernel_rfl)) (fun _ _ _ h => h) (Or.inr ⟨by rfl, rfl⟩) ?_ ?_
    rotate_left
    ·simp only [Act.put, List.setIfInBounds_toArray, List.set_cons_zero, List.set_cons_succ, i64_w, i32_w]
     rfl
    refine pure_ (i := 25) (N := some 60) (v := undef) (a' := ?_) #[true, true, true, true, true, true, true, true, true, true, true, true, true, true, true, true, true, true, true, true, true, true, true, true, true, true, false, false, false] rfl rfl (any_of HT_.out (by kernel_rfl)) (fun _ _ _ h => h) (Or.inr ⟨by rfl, rfl⟩) ?_ ?_
    rotate_left
    ·simp only [Act.put, List.setIfInBounds_toArray, List.set_cons_zero, List.set_cons_succ, i64_w, i32_w]
     rfl
    refine pure_ (i := 26) (N := some 61) (v := undef) (a' := ?_) #[true, true, true, true, true, true, true, true, true, true, true, true, true, true, true, true, true, true, true, true, true, true, true, true, true, true, true, false, false] rfl rfl (any_of HT_.out (by kernel_rfl)) (fun _ _ _ h => h) (Or.inr ⟨by rfl, rfl⟩) ?_ ?_
    rotate_left
    ·simp only [Act.put, List.setIfInBounds_toArray, List.set_cons_zero, List.set_cons_succ, i64_w, i32_w]
     rfl
    refine pure_ (i := 27) (N := some 62) (v := ?_) (a' := ?_) #[true, true, true, true, true, true, true, true, true, true, true, true, true, true, true, true, true, true, true, true, true, true, true, true, true, true, true, true, false] rfl rfl (any_of HT_.out (by kernel_rfl)) (fun _ _ _ h => h) (Or.inl ⟨by rfl, ?_⟩) ?_ ?_
    rotate_left
    ·intro w'
     go_simp
     with_reducible rfl
    rotate_left
    ·simp only [Act.put, List.setIfInBounds_toArray, List.set_cons_zero, List.set_cons_succ, i64_w, i32_w]
     rfl
    refine pure_ (i := 28) (N := some 6) (v := ?_) (a' := ?_) #[true, true, true, true, true, true, true, true, true, true, true, true, true, true, true, true, true, true, true, true, true, true, true, true, true, true, true, true, true] rfl rfl (any_of HT_.out (by kernel_rfl)) (fun _ _ _ h => h) (Or.inl ⟨by rfl, ?_⟩) ?_ ?_
    rotate_left
    ·intro w'
     go_simp
     with_reducible rfl
    rotate_left
    ·simp only [Act.put, List.setIfInBounds_toArray, List.set_cons_zero, List.set_cons_succ, i64_w, i32_w]
     rfl
    refine done_ (done_of HT_.out (by kernel_rfl)) ?_
    try go_wp2
    go_ret
    exact ⟨by first | rfl | (simp [errW_none, errW_some] <;> rfl) | (simp [*, errW_none, errW_some] <;> rfl), by repeat (first | (with_reducible first | exact HB.out | apply blA | apply blN | apply blD | refine blS ?_ GE121.out | refine blS ?_ GE122.out | refine blS ?_ GE123.out) | exact HB.out)⟩

   rw [if_pos c67] at H
   have c67b0 : decide ((wrap64 (t128 * t129)) < 0) = true := decide_eq_true c67
   clear c67
   replace H := Option.bind_eq_some_iff.mp H
   obtain ⟨t130, A680, H⟩ := H
   replace H : ((geometry_turn.f a2_0 a2_1 a2_2 a2_3 a1_0 a1_1).bind fun t131 => (some (decide ((wrap64 (t130 * t131)) < 0)))) = some r := H
   have A68 := Aside0.mk A680
   clear A680
   replace H := Option.bind_eq_some_iff.mp H
   obtain ⟨t131, A690, H⟩ := H
   replace H : (some (decide ((wrap64 (t130 * t131)) < 0))) = some r := H
   have A69 := Aside0.mk A690
   clear A690
   obtain rfl := Option.some.inj H
   try go_wp2
   have n0_ := Aside0.mk (bkD BK121.out)
   have n1_ := Aside0.mk (bkD BK122.out)
   have n2_ := Aside0.mk (bkD BK123.out)
   have n3_ := Aside0.mk (blD HB.out)
   clear BK121
   clear BK122
   clear BK123
   clear HB
   have BK121 := n0_
   have BK122 := n1_
   have BK123 := n2_
   have HB := n3_
   clear n0_ n1_ n2_ n3_
   refine start_ (n := 29) (S := fun w' => w'.cell? ⟨gb121, 0, none⟩ = some (.int .i64 a0_0) ∧ w'.cell? ⟨gb121, 1, none⟩ = some (.int .i64 a0_1) ∧ w'.cell? ⟨gb122, 0, none⟩ = some (.int .i64 a1_0) ∧ w'.cell? ⟨gb122, 1, none⟩ = some (.int .i64 a1_1) ∧ w'.cell? ⟨gb123, 0, none⟩ = some (.int .i64 a2_0) ∧ w'.cell? ⟨gb123, 1, none⟩ = some (.int .i64 a2_1) ∧ w'.cell? ⟨gb123, 2, none⟩ = some (.int .i64 a2_2) ∧ w'.cell? ⟨gb123, 3, none⟩ = some (.int .i64 a2_3) ∧ w'.cell? ⟨gb123, 4, none⟩ = some (.int .i64 a2_4)) (ds := []) #[false, false, false, false, false, false, false, false, false, false, false, false, false, false, false, false, false, false, false, false, false, false, false, false, false, false, false, false, false] (by kernel_rfl) rfl rfl ⟨(bkC BK121.out 0).trans rfl, (bkC BK121.out 1).trans rfl, (bkC BK122.out 0).trans rfl, (bkC BK122.out 1).trans rfl, (bkC BK123.out 0).trans rfl, (bkC BK123.out 1).trans rfl, (bkC BK123.out 2).trans rfl, (bkC BK123.out 3).trans rfl, (bkC BK123.out 4).trans rfl⟩ (fun hHeld => ?_); refine with_tabW geometry_Crosses.tab3 geometry_Crosses.bits3 (fun HT_ HW_ => ?_)
   generalize wc.drew = w70 at BK121 BK122 BK123 HB hHeld ⊢
   refine pure_ (i := 2) (N := some 37) (v := ?_) (a' := ?_) #[false, false, true, false, false, false, false, false, false, false, false, false, false, false, false, false, false, false, false, false, false, false, false, false, false, false, false, false, false] rfl rfl (any_of HT_.out (by kernel_rfl)) (fun _ _ _ h => h) (Or.inl ⟨by rfl, ?_⟩) ?_ ?_
   rotate_left
   ·intro w'
    go_simp
    with_reducible rfl
   rotate_left
   ·simp only [Act.put, List.setIfInBounds_toArray, List.set_cons_zero, List.set_cons_succ, i64_w, i32_w]
    rfl
   refine pure_ (i := 7) (N := some 42) (v := ?_) (a' := ?_) #[false, false, true, false, false, false, false, true, false, false, false, false, false, false, false, false, false, false, false, false, false, false, false, false, false, false, false, false, false] rfl rfl (any_of HT_.out (by kernel_rfl)) (fun _ _ _ h => h) (Or.inl ⟨by rfl, ?_⟩) ?_ ?_
   rotate_left
   ·intro w'
    go_simp
    with_reducible rfl
   rotate_left
   ·simp only [Act.put, List.setIfInBounds_toArray, List.set_cons_zero, List.set_cons_succ, i64_w, i32_w]
    rfl
   refine take_ (i := 0) (N := some 35) (v := ?_) (a' := ?_) #[true, false, true, false, false, false, false, true, false, false, false, false, false, false, false, false, false, false, false, false, false, false, false, false, false, false, false, false, false] rfl rfl (take_ofW HT_.out HW_.out (by kernel_rfl)) (fun _ _ _ h => h) (Or.inl ⟨by rfl, ?_⟩) hHeld ?_ ?_
   rotate_left
   ·rintro w' ⟨s0, s1, s2, s3, s4, s5, s6, s7, s8⟩
    go_simp
    with_reducible rfl
   rotate_left
   ·simp only [Act.put, List.setIfInBounds_toArray, List.set_cons_zero, List.set_cons_succ, i64_w, i32_w]
    rfl
   refine take_ (i := 1) (N := some 36) (v := ?_) (a' := ?_) #[true, true, true, false, false, false, false, true, false, false, false, false, false, false, false, false, false, false, false, false, false, false, false, false, false, false, false, false, false] rfl rfl (take_ofW HT_.out HW_.out (by kernel_rfl)) (fun _ _ _ h => h) (Or.inl ⟨by rfl, ?_⟩) hHeld ?_ ?_
   rotate_left
   ·rintro w' ⟨s0, s1, s2, s3, s4, s5, s6, s7, s8⟩
    go_simp
    with_reducible rfl
   rotate_left
   ·simp only [Act.put, List.setIfInBounds_toArray, List.set_cons_zero, List.set_cons_succ, i64_w, i32_w]
    rfl
   refine take_ (i := 3) (N := some 38) (v := ?_) (a' := ?_) #[true, true, true, true, false, false, false, true, false, false, false, false, false, false, false, false, false, false, false, false, false, false, false, false, false, false, false, false, false] rfl rfl (take_ofW HT_.out HW_.out (by kernel_rfl)) (fun _ _ _ h => h) (Or.inl ⟨by rfl, ?_⟩) hHeld ?_ ?_
   rotate_left
   ·rintro w' ⟨s0, s1, s2, s3, s4, s5, s6, s7, s8⟩
    go_simp
    with_reducible rfl
   rotate_left
   ·simp only [Act.put, List.setIfInBounds_toArray, List.set_cons_zero, List.set_cons_succ, i64_w, i32_w]
    rfl
   refine take_ (i := 5) (N := some 40) (v := ?_) (a' := ?_) #[true, true, true, true, false, true, false, true, false, false, false, false, false, false, false, false, false, false, false, false, false, false, false, false, false, false, false, false, false] rfl rfl (take_ofW HT_.out HW_.out (by kernel_rfl)) (fun _ _ _ h => h) (Or.inl ⟨by rfl, ?_⟩) hHeld ?_ ?_
   rotate_left
   ·rintro w' ⟨s0, s1, s2, s3, s4, s5, s6, s7, s8⟩
    go_simp
    with_reducible rfl
   rotate_left
   ·simp only [Act.put, List.setIfInBounds_toArray, List.set_cons_zero, List.set_cons_succ, i64_w, i32_w]
    rfl
   refine take_ (i := 6) (N := some 41) (v := ?_) (a' := ?_) #[true, true, true, true, false, true, true, true, false, false, false, false, false, false, false, false, false, false, false, false, false, false, false, false, false, false, false, false, false] rfl rfl (take_ofW HT_.out HW_.out (by kernel_rfl)) (fun _ _ _ h => h) (Or.inl ⟨by rfl, ?_⟩) hHeld ?_ ?_
   rotate_left
   ·rintro w' ⟨s0, s1, s2, s3, s4, s5, s6, s7, s8⟩
    go_simp
    with_reducible rfl
   rotate_left
   ·simp only [Act.put, List.setIfInBounds_toArray, List.set_cons_zero, List.set_cons_succ, i64_w, i32_w]
    rfl
   refine take_ (i := 8) (N := some 43) (v := ?_) (a' := ?_) #[true, true, true, true, false, true, true, true, true, false, false, false, false, false, false, false, false, false, false, false, false, false, false, false, false, false, false, false, false] rfl rfl (take_ofW HT_.out HW_.out (by kernel_rfl)) (fun _ _ _ h => h) (Or.inl ⟨by rfl, ?_⟩) hHeld ?_ ?_
   rotate_left
   ·rintro w' ⟨s0, s1, s2, s3, s4, s5, s6, s7, s8⟩
    go_simp
    with_reducible rfl
   rotate_left
   ·simp only [Act.put, List.setIfInBounds_toArray, List.set_cons_zero, List.set_cons_succ, i64_w, i32_w]
    rfl
   refine one_ (i := 4) (N := some 39) #[true, true, true, true, true, true, true, true, true, false, false, false, false, false, false, false, false, false, false, false, false, false, false, false, false, false, false, false, false] rfl rfl (one_of HT_.out (by kernel_rfl)) (by decide) (fun K hK => ?_)
   refine goes_ Try.func55 (by kernel_rfl) rfl #[.agg #[.int .i64 a0_0, .int .i64 a0_1], .agg #[.int .i64 a1_0, .int .i64 a1_1], .agg #[.int .i64 a2_0, .int .i64 a2_1]] (by rfl) rfl rfl (by (try simp only [List.map_toArray, List.map_cons, List.map_nil]); first | done | rfl | (simp only [List.length_drop, List.length_take]; rfl)) ?_
   with_reducible refine (geometry_turn.calls a0_0 a0_1 a1_0 a1_1 a2_0 a2_1 t128 _ A65.out).mono ?_
   rintro e w71 ⟨rfl, hb⟩
   refine ⟨_, rfl, ?_⟩
   have n0_ := Aside0.mk (bkB (g := gb121) (o := .cells #[.int .i64 a0_0, .int .i64 a0_1] 28 (0, 0)) (by (with_reducible repeat (first | refine bkN ?_ _ | refine bkD ?_ | refine bkA ?_ _)); exact BK121.out) hb)
   have n1_ := Aside0.mk (bkB (g := gb122) (o := .cells #[.int .i64 a1_0, .int .i64 a1_1] 28 (0, 0)) (by (with_reducible repeat (first | refine bkN ?_ _ | refine bkD ?_ | refine bkA ?_ _)); exact BK122.out) hb)
   have n2_ := Aside0.mk (bkB (g := gb123) (o := .cells #[.int .i64 a2_0, .int .i64 a2_1, .int .i64 a2_2, .int .i64 a2_3, .int .i64 a2_4] 47 (0, 0)) (by (with_reducible repeat (first | refine bkN ?_ _ | refine bkD ?_ | refine bkA ?_ _)); exact BK123.out) hb)
   have n3_ := Aside0.mk (below_step (by repeat (first | (with_reducible first | exact HB.out | apply blA | apply blN | apply blD | refine blS ?_ GE121.out | refine blS ?_ GE122.out | refine blS ?_ GE123.out) | exact HB.out)) hb)
   clear BK121
   clear BK122
   clear BK123
   clear HB
   have BK121 := n0_
   have BK122 := n1_
   have BK123 := n2_
   have HB := n3_
   clear n0_ n1_ n2_ n3_
   (try clear hb)
   (try clear hb2)
   (try clear hk)
   (try clear hi)
   refine hK.out _ _ ⟨(bkC BK121.out 0).trans rfl, (bkC BK121.out 1).trans rfl, (bkC BK122.out 0).trans rfl, (bkC BK122.out 1).trans rfl, (bkC BK123.out 0).trans rfl, (bkC BK123.out 1).trans rfl, (bkC BK123.out 2).trans rfl, (bkC BK123.out 3).trans rfl, (bkC BK123.out 4).trans rfl⟩ (fun hHeld => ?_)
   clear hK K
   refine norm_ (a' := ?_) ?_ ?_
   rotate_left
   ·show Act.put _ (some 39) _ = _
    simp only [Act.put, List.setIfInBounds_toArray, List.set_cons_zero, List.set_cons_succ, i64_w, i32_w]
    rfl
   refine one_ (i := 9) (N := some 44) #[true, true, true, true, true, true, true, true, true, true, false, false, false, false, false, false, false, false, false, false, false, false, false, false, false, false, false, false, false] rfl rfl (one_of HT_.out (by kernel_rfl)) (by decide) (fun K hK => ?_)
   refine goes_ Try.func55 (by kernel_rfl) rfl #[.agg #[.int .i64 a0_0, .int .i64 a0_1], .agg #[.int .i64 a1_0, .int .i64 a1_1], .agg #[.int .i64 a2_2, .int .i64 a2_3]] (by rfl) rfl rfl (by (try simp only [List.map_toArray, List.map_cons, List.map_nil]); first | done | rfl | (simp only [List.length_drop, List.length_take]; rfl)) ?_
   with_reducible refine (geometry_turn.calls a0_0 a0_1 a1_0 a1_1 a2_2 a2_3 t129 _ A66.out).mono ?_
   rintro e w72 ⟨rfl, hb⟩
   refine ⟨_, rfl, ?_⟩
   have n0_ := Aside0.mk (bkB (g := gb121) (o := .cells #[.int .i64 a0_0, .int .i64 a0_1] 28 (0, 0)) (by (with_reducible repeat (first | refine bkN ?_ _ | refine bkD ?_ | refine bkA ?_ _)); exact BK121.out) hb)
   have n1_ := Aside0.mk (bkB (g := gb122) (o := .cells #[.int .i64 a1_0, .int .i64 a1_1] 28 (0, 0)) (by (with_reducible repeat (first | refine bkN ?_ _ | refine bkD ?_ | refine bkA ?_ _)); exact BK122.out) hb)
   have n2_ := Aside0.mk (bkB (g := gb123) (o := .cells #[.int .i64 a2_0, .int .i64 a2_1, .int .i64 a2_2, .int .i64 a2_3, .int .i64 a2_4] 47 (0, 0)) (by (with_reducible repeat (first | refine bkN ?_ _ | refine bkD ?_ | refine bkA ?_ _)); exact BK123.out) hb)
   have n3_ := Aside0.mk (below_step (by repeat (first | (with_reducible first | exact HB.out | apply blA | apply blN | apply blD | refine blS ?_ GE121.out | refine blS ?_ GE122.out | refine blS ?_ GE123.out) | exact HB.out)) hb)
   clear BK121
   clear BK122
   clear BK123
   clear HB
   have BK121 := n0_
   have BK122 := n1_
   have BK123 := n2_
   have HB := n3_
   clear n0_ n1_ n2_ n3_
   (try clear hb)
   (try clear hb2)
   (try clear hk)
   (try clear hi)
   refine hK.out _ _ ⟨(bkC BK121.out 0).trans rfl, (bkC BK121.out 1).trans rfl, (bkC BK122.out 0).trans rfl, (bkC BK122.out 1).trans rfl, (bkC BK123.out 0).trans rfl, (bkC BK123.out 1).trans rfl, (bkC BK123.out 2).trans rfl, (bkC BK123.out 3).trans rfl, (bkC BK123.out 4).trans rfl⟩ (fun hHeld => ?_)
   clear hK K
   refine norm_ (a' := ?_) ?_ ?_
   rotate_left
   ·show Act.put _ (some 44) _ = _
    simp only [Act.put, List.setIfInBounds_toArray, List.set_cons_zero, List.set_cons_succ, i64_w, i32_w]
    rfl
   refine pure_ (i := 10) (N := some 45) (v := ?_) (a' := ?_) #[true, true, true, true, true, true, true, true, true, true, true, false, false, false, false, false, false, false, false, false, false, false, false, false, false, false, false, false, false] rfl rfl (any_of HT_.out (by kernel_rfl)) (fun _ _ _ h => h) (Or.inl ⟨by rfl, ?_⟩) ?_ ?_
   rotate_left
   ·intro w'
    go_simp
    with_reducible rfl
   rotate_left
   ·simp only [Act.put, List.setIfInBounds_toArray, List.set_cons_zero, List.set_cons_succ, i64_w, i32_w]
    rfl
   refine pure_ (i := 11) (N := some 46) (v := ?_) (a' := ?_) #[true, true, true, true, true, true, true, true, true, true, true, true, false, false, false, false, false, false, false, false, false, false, false, false, false, false, false, false, false] rfl rfl (any_of HT_.out (by kernel_rfl)) (fun _ _ _ h => h) (Or.inl ⟨by rfl, ?_⟩) ?_ ?_
   rotate_left
   ·intro w'
    go_simp
    with_reducible rfl
   rotate_left
   ·simp only [Act.put, List.setIfInBounds_toArray, List.set_cons_zero, List.set_cons_succ, i64_w, i32_w]
    rfl
   refine pure_ (i := 12) (N := some 47) (v := ?_) (a' := ?_) #[true, true, true, true, true, true, true, true, true, true, true, true, true, false, false, false, false, false, false, false, false, false, false, false, false, false, false, false, false] rfl rfl (any_of HT_.out (by kernel_rfl)) (fun _ _ _ h => h) (Or.inl ⟨by rfl, ?_⟩) ?_ ?_
   rotate_left
   ·intro w'
    go_simp
    with_reducible rfl
   rotate_left
   ·simp only [Act.put, List.setIfInBounds_toArray, List.set_cons_zero, List.set_cons_succ, i64_w, i32_w]
    rfl
   refine pure_ (i := 13) (N := some 48) (v := ?_) (a' := ?_) #[true, true, true, true, true, true, true, true, true, true, true, true, true, true, false, false, false, false, false, false, false, false, false, false, false, false, false, false, false] rfl rfl (any_of HT_.out (by kernel_rfl)) (fun _ _ _ h => h) (Or.inl ⟨by rfl, ?_⟩) ?_ ?_
   rotate_left
   ·intro w'
    go_simp
    with_reducible rfl
   rotate_left
   ·simp only [Act.put, List.setIfInBounds_toArray, List.set_cons_zero, List.set_cons_succ, i64_w, i32_w]
    rfl
   refine pure_ (i := 15) (N := some 50) (v := ?_) (a' := ?_) #[true, true, true, true, true, true, true, true, true, true, true, true, true, true, false, true, false, false, false, false, false, false, false, false, false, false, false, false, false] rfl rfl (any_of HT_.out (by kernel_rfl)) (fun _ _ _ h => h) (Or.inl ⟨by rfl, ?_⟩) ?_ ?_
   rotate_left
   ·intro w'
    go_simp
    with_reducible rfl
   rotate_left
   ·simp only [Act.put, List.setIfInBounds_toArray, List.set_cons_zero, List.set_cons_succ, i64_w, i32_w]
    rfl
   refine pure_ (i := 19) (N := some 54) (v := ?_) (a' := ?_) #[true, true, true, true, true, true, true, true, true, true, true, true, true, true, false, true, false, false, false, true, false, false, false, false, false, false, false, false, false] rfl rfl (any_of HT_.out (by kernel_rfl)) (fun _ _ _ h => h) (Or.inl ⟨by rfl, ?_⟩) ?_ ?_
   rotate_left
   ·intro w'
    go_simp
    with_reducible rfl
   rotate_left
   ·simp only [Act.put, List.setIfInBounds_toArray, List.set_cons_zero, List.set_cons_succ, i64_w, i32_w]
    rfl
   refine pure_ (i := 21) (N := some 56) (v := ?_) (a' := ?_) #[true, true, true, true, true, true, true, true, true, true, true, true, true, true, false, true, false, false, false, true, false, true, false, false, false, false, false, false, false] rfl rfl (any_of HT_.out (by kernel_rfl)) (fun _ _ _ h => h) (Or.inl ⟨by rfl, ?_⟩) ?_ ?_
   rotate_left
   ·intro w'
    go_simp
    with_reducible rfl
   rotate_left
   ·simp only [Act.put, List.setIfInBounds_toArray, List.set_cons_zero, List.set_cons_succ, i64_w, i32_w]
    rfl
   refine take_ (i := 14) (N := some 49) (v := ?_) (a' := ?_) #[true, true, true, true, true, true, true, true, true, true, true, true, true, true, true, true, false, false, false, true, false, true, false, false, false, false, false, false, false] rfl rfl (take_ofW HT_.out HW_.out (by kernel_rfl)) (fun _ _ _ h => h) (Or.inl ⟨by rfl, ?_⟩) hHeld ?_ ?_
   rotate_left
   ·rintro w' ⟨s0, s1, s2, s3, s4, s5, s6, s7, s8⟩
    go_simp
    with_reducible rfl
   rotate_left
   ·simp only [Act.put, List.setIfInBounds_toArray, List.set_cons_zero, List.set_cons_succ, i64_w, i32_w]
    rfl
   refine take_ (i := 16) (N := some 51) (v := ?_) (a' := ?_) #[true, true, true, true, true, true, true, true, true, true, true, true, true, true, true, true, true, false, false, true, false, true, false, false, false, false, false, false, false] rfl rfl (take_ofW HT_.out HW_.out (by kernel_rfl)) (fun _ _ _ h => h) (Or.inl ⟨by rfl, ?_⟩) hHeld ?_ ?_
   rotate_left
   ·rintro w' ⟨s0, s1, s2, s3, s4, s5, s6, s7, s8⟩
    go_simp
    with_reducible rfl
   rotate_left
   ·simp only [Act.put, List.setIfInBounds_toArray, List.set_cons_zero, List.set_cons_succ, i64_w, i32_w]
    rfl
   refine take_ (i := 17) (N := some 52) (v := ?_) (a' := ?_) #[true, true, true, true, true, true, true, true, true, true, true, true, true, true, true, true, true, true, false, true, false, true, false, false, false, false, false, false, false] rfl rfl (take_ofW HT_.out HW_.out (by kernel_rfl)) (fun _ _ _ h => h) (Or.inl ⟨by rfl, ?_⟩) hHeld ?_ ?_
   rotate_left
   ·rintro w' ⟨s0, s1, s2, s3, s4, s5, s6, s7, s8⟩
    go_simp
    with_reducible rfl
   rotate_left
   ·simp only [Act.put, List.setIfInBounds_toArray, List.set_cons_zero, List.set_cons_succ, i64_w, i32_w]
    rfl
   refine take_ (i := 20) (N := some 55) (v := ?_) (a' := ?_) #[true, true, true, true, true, true, true, true, true, true, true, true, true, true, true, true, true, true, false, true, true, true, false, false, false, false, false, false, false] rfl rfl (take_ofW HT_.out HW_.out (by kernel_rfl)) (fun _ _ _ h => h) (Or.inl ⟨by rfl, ?_⟩) hHeld ?_ ?_
   rotate_left
   ·rintro w' ⟨s0, s1, s2, s3, s4, s5, s6, s7, s8⟩
    go_simp
    with_reducible rfl
   rotate_left
   ·simp only [Act.put, List.setIfInBounds_toArray, List.set_cons_zero, List.set_cons_succ, i64_w, i32_w]
    rfl
   refine take_ (i := 22) (N := some 57) (v := ?_) (a' := ?_) #[true, true, true, true, true, true, true, true, true, true, true, true, true, true, true, true, true, true, false, true, true, true, true, false, false, false, false, false, false] rfl rfl (take_ofW HT_.out HW_.out (by kernel_rfl)) (fun _ _ _ h => h) (Or.inl ⟨by rfl, ?_⟩) hHeld ?_ ?_
   rotate_left
   ·rintro w' ⟨s0, s1, s2, s3, s4, s5, s6, s7, s8⟩
    go_simp
    with_reducible rfl
   rotate_left
   ·simp only [Act.put, List.setIfInBounds_toArray, List.set_cons_zero, List.set_cons_succ, i64_w, i32_w]
    rfl
   refine take_ (i := 23) (N := some 58) (v := ?_) (a' := ?_) #[true, true, true, true, true, true, true, true, true, true, true, true, true, true, true, true, true, true, false, true, true, true, true, true, false, false, false, false, false] rfl rfl (take_ofW HT_.out HW_.out (by kernel_rfl)) (fun _ _ _ h => h) (Or.inl ⟨by rfl, ?_⟩) hHeld ?_ ?_
   rotate_left
   ·rintro w' ⟨s0, s1, s2, s3, s4, s5, s6, s7, s8⟩
    go_simp
    with_reducible rfl
   rotate_left
   ·simp only [Act.put, List.setIfInBounds_toArray, List.set_cons_zero, List.set_cons_succ, i64_w, i32_w]
    rfl
   refine one_ (i := 18) (N := some 53) #[true, true, true, true, true, true, true, true, true, true, true, true, true, true, true, true, true, true, true, true, true, true, true, true, false, false, false, false, false] rfl rfl (one_of HT_.out (by kernel_rfl)) (by decide) (fun K hK => ?_)
   refine goes_ Try.func55 (by kernel_rfl) rfl #[.agg #[.int .i64 a2_0, .int .i64 a2_1], .agg #[.int .i64 a2_2, .int .i64 a2_3], .agg #[.int .i64 a0_0, .int .i64 a0_1]] (by rfl) rfl rfl (by (try simp only [List.map_toArray, List.map_cons, List.map_nil]); first | done | rfl | (simp only [List.length_drop, List.length_take]; rfl)) ?_
   with_reducible refine (geometry_turn.calls a2_0 a2_1 a2_2 a2_3 a0_0 a0_1 t130 _ A68.out).mono ?_
   rintro e w73 ⟨rfl, hb⟩
   refine ⟨_, rfl, ?_⟩
   have n0_ := Aside0.mk (bkB (g := gb121) (o := .cells #[.int .i64 a0_0, .int .i64 a0_1] 28 (0, 0)) (by (with_reducible repeat (first | refine bkN ?_ _ | refine bkD ?_ | refine bkA ?_ _)); exact BK121.out) hb)
   have n1_ := Aside0.mk (bkB (g := gb122) (o := .cells #[.int .i64 a1_0, .int .i64 a1_1] 28 (0, 0)) (by (with_reducible repeat (first | refine bkN ?_ _ | refine bkD ?_ | refine bkA ?_ _)); exact BK122.out) hb)
   have n2_ := Aside0.mk (bkB (g := gb123) (o := .cells #[.int .i64 a2_0, .int .i64 a2_1, .int .i64 a2_2, .int .i64 a2_3, .int .i64 a2_4] 47 (0, 0)) (by (with_reducible repeat (first | refine bkN ?_ _ | refine bkD ?_ | refine bkA ?_ _)); exact BK123.out) hb)
   have n3_ := Aside0.mk (below_step (by repeat (first | (with_reducible first | exact HB.out | apply blA | apply blN | apply blD | refine blS ?_ GE121.out | refine blS ?_ GE122.out | refine blS ?_ GE123.out) | exact HB.out)) hb)
   clear BK121
   clear BK122
   clear BK123
   clear HB
   have BK121 := n0_
   have BK122 := n1_
   have BK123 := n2_
   have HB := n3_
   clear n0_ n1_ n2_ n3_
   (try clear hb)
   (try clear hb2)
   (try clear hk)
   (try clear hi)
   refine hK.out _ _ ⟨(bkC BK121.out 0).trans rfl, (bkC BK121.out 1).trans rfl, (bkC BK122.out 0).trans rfl, (bkC BK122.out 1).trans rfl, (bkC BK123.out 0).trans rfl, (bkC BK123.out 1).trans rfl, (bkC BK123.out 2).trans rfl, (bkC BK123.out 3).trans rfl, (bkC BK123.out 4).trans rfl⟩ (fun hHeld => ?_)
   clear hK K
   refine norm_ (a' := ?_) ?_ ?_
   rotate_left
   ·show Act.put _ (some 53) _ = _
    simp only [Act.put, List.setIfInBounds_toArray, List.set_cons_zero, List.set_cons_succ, i64_w, i32_w]
    rfl
   refine one_ (i := 24) (N := some 59) #[true, true, true, true, true, true, true, true, true, true, true, true, true, true, true, true, true, true, true, true, true, true, true, true, true, false, false, false, false] rfl rfl (one_of HT_.out (by kernel_rfl)) (by decide) (fun K hK => ?_)
   refine goes_ Try.func55 (by kernel_rfl) rfl #[.agg #[.int .i64 a2_0, .int .i64 a2_1], .agg #[.int .i64 a2_2, .int .i64 a2_3], .agg #[.int .i64 a1_0, .int .i64 a1_1]] (by rfl) rfl rfl (by (try simp only [List.map_toArray, List.map_cons, List.map_nil]); first | done | rfl | (simp only [List.length_drop, List.length_take]; rfl)) ?_
   with_reducible refine (geometry_turn.calls a2_0 a2_1 a2_2 a2_3 a1_0 a1_1 t131 _ A69.out).mono ?_
   rintro e w74 ⟨rfl, hb⟩
   refine ⟨_, rfl, ?_⟩
   have n0_ := Aside0.mk (bkB (g := gb121) (o := .cells #[.int .i64 a0_0, .int .i64 a0_1] 28 (0, 0)) (by (with_reducible repeat (first | refine bkN ?_ _ | refine bkD ?_ | refine bkA ?_ _)); exact BK121.out) hb)
   have n1_ := Aside0.mk (bkB (g := gb122) (o := .cells #[.int .i64 a1_0, .int .i64 a1_1] 28 (0, 0)) (by (with_reducible repeat (first | refine bkN ?_ _ | refine bkD ?_ | refine bkA ?_ _)); exact BK122.out) hb)
   have n2_ := Aside0.mk (bkB (g := gb123) (o := .cells #[.int .i64 a2_0, .int .i64 a2_1, .int .i64 a2_2, .int .i64 a2_3, .int .i64 a2_4] 47 (0, 0)) (by (with_reducible repeat (first | refine bkN ?_ _ | refine bkD ?_ | refine bkA ?_ _)); exact BK123.out) hb)
   have n3_ := Aside0.mk (below_step (by repeat (first | (with_reducible first | exact HB.out | apply blA | apply blN | apply blD | refine blS ?_ GE121.out | refine blS ?_ GE122.out | refine blS ?_ GE123.out) | exact HB.out)) hb)
   clear BK121
   clear BK122
   clear BK123
   clear HB
   have BK121 := n0_
   have BK122 := n1_
   have BK123 := n2_
   have HB := n3_
   clear n0_ n1_ n2_ n3_
   (try clear hb)
   (try clear hb2)
   (try clear hk)
   (try clear hi)
   refine hK.out _ _ ⟨(bkC BK121.out 0).trans rfl, (bkC BK121.out 1).trans rfl, (bkC BK122.out 0).trans rfl, (bkC BK122.out 1).trans rfl, (bkC BK123.out 0).trans rfl, (bkC BK123.out 1).trans rfl, (bkC BK123.out 2).trans rfl, (bkC BK123.out 3).trans rfl, (bkC BK123.out 4).trans rfl⟩ (fun hHeld => ?_)
   clear hK K
   refine norm_ (a' := ?_) ?_ ?_
   rotate_left
   ·show Act.put _ (some 59) _ = _
    simp only [Act.put, List.setIfInBounds_toArray, List.set_cons_zero, List.set_cons_succ, i64_w, i32_w]
    rfl
   refine pure_ (i := 25) (N := some 60) (v := ?_) (a' := ?_) #[true, true, true, true, true, true, true, true, true, true, true, true, true, true, true, true, true, true, true, true, true, true, true, true, true, true, false, false, false] rfl rfl (any_of HT_.out (by kernel_rfl)) (fun _ _ _ h => h) (Or.inl ⟨by rfl, ?_⟩) ?_ ?_
   rotate_left
   ·intro w'
    go_simp
    with_reducible rfl
   rotate_left
   ·simp only [Act.put, List.setIfInBounds_toArray, List.set_cons_zero, List.set_cons_succ, i64_w, i32_w]
    rfl
   refine pure_ (i := 26) (N := some 61) (v := ?_) (a' := ?_) #[true, true, true, true, true, true, true, true, true, true, true, true, true, true, true, true, true, true, true, true, true, true, true, true, true, true, true, false, false] rfl rfl (any_of HT_.out (by kernel_rfl)) (fun _ _ _ h => h) (Or.inl ⟨by rfl, ?_⟩) ?_ ?_
   rotate_left
   ·intro w'
    go_simp
    with_reducible rfl
   rotate_left
   ·simp only [Act.put, List.setIfInBounds_toArray, List.set_cons_zero, List.set_cons_succ, i64_w, i32_w]
    rfl
   refine pure_ (i := 27) (N := some 62) (v := ?_) (a' := ?_) #[true, true, true, true, true, true, true, true, true, true, true, true, true, true, true, true, true, true, true, true, true, true, true, true, true, true, true, true, false] rfl rfl (any_of HT_.out (by kernel_rfl)) (fun _ _ _ h => h) (Or.inl ⟨by rfl, ?_⟩) ?_ ?_
   rotate_left
   ·intro w'
    go_simp
    with_reducible rfl
   rotate_left
   ·simp only [Act.put, List.setIfInBounds_toArray, List.set_cons_zero, List.set_cons_succ, i64_w, i32_w]
    rfl
   refine pure_ (i := 28) (N := some 6) (v := ?_) (a' := ?_) #[true, true, true, true, true, true, true, true, true, true, true, true, true, true, true, true, true, true, true, true, true, true, true, true, true, true, true, true, true] rfl rfl (any_of HT_.out (by kernel_rfl)) (fun _ _ _ h => h) (Or.inl ⟨by rfl, ?_⟩) ?_ ?_
   rotate_left
   ·intro w'
    go_simp
    with_reducible rfl
   rotate_left
   ·simp only [Act.put, List.setIfInBounds_toArray, List.set_cons_zero, List.set_cons_succ, i64_w, i32_w]
    rfl
   refine done_ (done_of HT_.out (by kernel_rfl)) ?_
   try go_wp2
   go_ret
   exact ⟨by first | rfl | (simp [errW_none, errW_some] <;> rfl) | (simp [*, errW_none, errW_some] <;> rfl), by repeat (first | (with_reducible first | exact HB.out | apply blA | apply blN | apply blD | refine blS ?_ GE121.out | refine blS ?_ GE122.out | refine blS ?_ GE123.out) | exact HB.out)⟩
end Go.Proofs.Ytcdgpnjlaicbcaa.PA
