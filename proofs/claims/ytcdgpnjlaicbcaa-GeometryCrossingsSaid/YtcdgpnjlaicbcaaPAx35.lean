-- Written by a program of this session (mkprint.py: the kit's print, changed) for this claim. Not trusted: Lean checks it.
import Derived.Test.YtcdgpnjlaicbcaaPAx0
import Derived.Test.YtcdgpnjlaicbcaaPAx6
import Derived.Test.YtcdgpnjlaicbcaaPAx11
namespace Go.Proofs.Ytcdgpnjlaicbcaa.PA
open Go.RowKit Go.Proofs.YtcdgpnjlaicbcaaW.PrintWords Go.Proofs.YtcdgpnjlaicbcaaW.PrintLast Go.Proofs.YtcdgpnjlaicbcaaW.PrintMore
attribute [local go_sem] max2_int min2_int max_two min_two max_three min_three max_four min_four   -- for this text's walks alone
-- thin
set_option linter.unusedVariables false
set_option linter.unusedSimpArgs false

/-! ### hopmeshlaw05_GeometryMoves_2: function 30 -/
def hopmeshlaw05_GeometryMoves_2.f (a0_0 : Int) (a0_1 : Int) : Option (Int × Int) := some (a0_1, a0_0)
set_option maxHeartbeats 8000000 in
set_option maxRecDepth 100000 in
theorem hopmeshlaw05_GeometryMoves_2.calls (a0_0 : Int) (a0_1 : Int) (r1 : Int) (r2 : Int) (w : World) (h : hopmeshlaw05_GeometryMoves_2.f a0_0 a0_1 = some (r1, r2)) :
 Calls Try.prog 30 #[.agg #[.int .i64 a0_0, .int .i64 a0_1]] w fun e w' => e = .returned (.agg #[.int .i64 r1, .int .i64 r2]) ∧ Below w.heap.size w w' := by
 have hu28 := Try.underlying28
 have HB := Aside0.mk (Below.refl w.heap.size w)
 have H : (some (a0_1, a0_0)) = some (r1, r2) := h
 clear h
 simp only [Option.some.injEq, Prod.mk.injEq] at H
 obtain ⟨rfl, rfl⟩ := H
 go_enter Try.func30, Try.ntmps30
 go_wp2_with (first | ((with_reducible refine gate_dst (N := 1) rfl ?_); refine box_event ?hg (N := 1) ?hd (cs := #[.int .i64 a0_0, .int .i64 a0_1]) (t := 28) ?hr ?_; (case hd => rfl); (case hg => rfl); (case hr => first | (go_simp; done) | (go_simp; rfl)); intro gb348 hg w2 hbox hb; have n0_ := Aside0.mk (below_step (by repeat (first | (with_reducible first | exact HB.out | apply blA | apply blN | apply blD) | exact HB.out)) hb); have n1_ := Aside0.mk (hbox); have n2_ := Aside0.mk ((by rw [hg]; exact (below_size (by repeat (first | (with_reducible first | exact HB.out | apply blA | apply blN | apply blD) | exact HB.out))) : w.heap.size ≤ gb348)); have n3_ := Aside0.mk ((by rw [hg]; exact (below_size (by repeat (first | (with_reducible first | exact HB.out | apply blA | apply blN | apply blD) | exact HB.out))) : w.heap.size ≤ gb348)); clear HB; have HB := n0_; have BK348 := n1_; have GW348 := n2_; have GE348 := n3_; clear n0_ n1_ n2_ n3_; clear hb hbox hg) | ((with_reducible refine gate_dst (N := 2) rfl ?_); refine box_event ?hg (N := 2) ?hd (cs := #[.int .i64 0, .int .i64 0]) (t := 28) ?hr ?_; (case hd => rfl); (case hg => rfl); (case hr => first | (go_simp; done) | (go_simp; rfl)); intro gb349 hg w3 hbox hb; have n0_ := Aside0.mk (bkB (g := gb348) (o := .cells #[.int .i64 a0_0, .int .i64 a0_1] 28 (0, 0)) (by (with_reducible repeat (first | refine bkN ?_ _ | refine bkD ?_ | refine bkA ?_ _)); exact BK348.out) hb); have n1_ := Aside0.mk (below_step (by repeat (first | (with_reducible first | exact HB.out | apply blA | apply blN | apply blD | refine blS ?_ GE348.out) | exact HB.out)) hb); have n2_ := Aside0.mk (hbox); have n3_ := Aside0.mk ((by rw [hg]; exact (below_size (by repeat (first | (with_reducible first | exact HB.out | apply blA | apply blN | apply blD | refine blS ?_ GE348.out) | exact HB.out))) : w.heap.size ≤ gb349)); have n4_ := Aside0.mk ((by rw [hg]; exact (below_size (by repeat (first | (with_reducible first | exact HB.out | apply blA | apply blN | apply blD | refine blS ?_ GE348.out) | exact HB.out))) : w.heap.size ≤ gb349)); have n5_ := Aside0.mk ((by rw [hg]; exact Nat.ne_of_lt (blk_lt (g := gb348) (o := .cells #[.int .i64 a0_0, .int .i64 a0_1] 28 (0, 0)) (by (with_reducible repeat (first | refine bkN ?_ _ | refine bkD ?_ | refine bkA ?_ _)); exact BK348.out)) : gb348 ≠ gb349)); have n6_ := Aside0.mk ((by rw [hg]; exact Nat.ne_of_gt (blk_lt (g := gb348) (o := .cells #[.int .i64 a0_0, .int .i64 a0_1] 28 (0, 0)) (by (with_reducible repeat (first | refine bkN ?_ _ | refine bkD ?_ | refine bkA ?_ _)); exact BK348.out)) : gb349 ≠ gb348)); clear BK348; clear HB; have BK348 := n0_; have HB := n1_; have BK349 := n2_; have GW349 := n3_; have GE349 := n4_; have NB348_349 := n5_; have NB349_348 := n6_; clear n0_ n1_ n2_ n3_ n4_ n5_ n6_; clear hb hbox hg; have hnb4 := NB348_349.out; have hnc4 := NB349_348.out; have hcz5_0 : w3.cell? ⟨gb348, 0, none⟩ = some (.int .i64 a0_0) := (bkC BK348.out 0).trans rfl; have hcz5_1 : w3.cell? ⟨gb348, 1, none⟩ = some (.int .i64 a0_1) := (bkC BK348.out 1).trans rfl; have hfz5_0 := bkF BK348.out 0; have hfz5_1 := bkF BK348.out 1; have hcz6_0 : w3.cell? ⟨gb349, 0, none⟩ = some (.int .i64 0) := (bkC BK349.out 0).trans rfl; have hcz6_1 : w3.cell? ⟨gb349, 1, none⟩ = some (.int .i64 0) := (bkC BK349.out 1).trans rfl; have hfz6_0 := bkF BK349.out 0; have hfz6_1 := bkF BK349.out 1))
 refine bodyPost_ret (results_cell_row rfl _ _ gb349 28 #[.int .i64 a0_1, .int .i64 a0_0] (0, 0) _ rfl (by (with_reducible repeat (first | refine bkN ?_ _ | refine bkD ?_ | refine bkA ?_ _)); refine blk_put (cs := #[.int .i64 a0_1, .int .i64 0]) ?_ 1 _ rfl; (with_reducible repeat (first | refine bkN ?_ _ | refine bkD ?_ | refine bkA ?_ _)); refine blk_put (cs := #[.int .i64 0, .int .i64 0]) ?_ 0 _ rfl; (with_reducible repeat (first | refine bkN ?_ _ | refine bkD ?_ | refine bkA ?_ _)); exact BK349.out) Try.underlying28 rfl (by kernel_rfl)) rfl ?_
 exact ⟨by first | rfl | (simp [errW_none, errW_some] <;> rfl) | (simp [*, errW_none, errW_some] <;> rfl), by repeat (first | (with_reducible first | exact HB.out | apply blA | apply blN | apply blD | refine blS ?_ GE348.out | refine blS ?_ GE349.out) | exact HB.out)⟩

-- NOT PRINTED: function 6 (hopmeshlaw05_GeometryMoves)

/-! ### hopmeshlaw05_GeometryCrossings: function 7 -/
mutual
def hopmeshlaw05_GeometryCrossings.l0 : Nat → List (S28) → Int → Int → Int → Int → Int → Int → Int → Int → Int → Int → Int → Option (Bool)
 | 0, _, _, _, _, _, _, _, _, _, _, _, _ => none
 | k + 1, x21, x22, x23, x364000, x364001, x365000, x365001, x366000, x366001, x366002, x366003, x366004 => if x23 < x22 then (if 0 ≤ x23 then (if x23 < (x21.length : Int) then (if ((rd_T28 x21 x23).f0) < 0 then (hopmeshlaw05_GeometryCrossings.j1 k x21 x22 x23 true x364000 x364001 x365000 x365001 x366000 x366001 x366002 x366003 x366004) else (if ((rd_T28 x21 x23).f0) > 10000 then (hopmeshlaw05_GeometryCrossings.j1 k x21 x22 x23 true x364000 x364001 x365000 x365001 x366000 x366001 x366002 x366003 x366004) else (if ((rd_T28 x21 x23).f1) < 0 then (hopmeshlaw05_GeometryCrossings.j1 k x21 x22 x23 true x364000 x364001 x365000 x365001 x366000 x366001 x366002 x366003 x366004) else (hopmeshlaw05_GeometryCrossings.j1 k x21 x22 x23 (decide (((rd_T28 x21 x23).f1) > 10000)) x364000 x364001 x365000 x365001 x366000 x366001 x366002 x366003 x366004)))) else (none)) else (none)) else ((geometry_Crosses.f k (wrap64 (2 * x364000)) (wrap64 (2 * x364001)) (wrap64 (2 * x365000)) (wrap64 (2 * x365001)) (wrap64 (x364000 + x365000)) (wrap64 (x364001 + x365001)) x366000 x366001 0).bind fun t375 => (if t375 = true then ((geometry_Crosses.f k (wrap64 (2 * x364000)) (wrap64 (2 * x364001)) (wrap64 (2 * x365000)) (wrap64 (2 * x365001)) x366002 x366003 (wrap64 (x364000 + x365000)) (wrap64 (x364001 + x365001)) 0).bind fun t376 => (if t376 = true then ((geometry_Crosses.f k x364000 x364001 x365000 x365001 x364000 x364001 x366000 x366001 0).bind fun t377 => (if t377 = true then ((geometry_Crosses.f k x364000 x364001 x365000 x365001 x366002 x366003 x365000 x365001 0).bind fun t378 => (hopmeshlaw05_GeometryCrossings.j2 k (!t378) x364000 x364001 x365000 x365001 x366000 x366001 x366002 x366003 x366004)) else (hopmeshlaw05_GeometryCrossings.j2 k true x364000 x364001 x365000 x365001 x366000 x366001 x366002 x366003 x366004))) else (hopmeshlaw05_GeometryCrossings.j2 k true x364000 x364001 x365000 x365001 x366000 x366001 x366002 x366003 x366004))) else (hopmeshlaw05_GeometryCrossings.j2 k true x364000 x364001 x365000 x365001 x366000 x366001 x366002 x366003 x366004)))
def hopmeshlaw05_GeometryCrossings.j1 : Nat → List (S28) → Int → Int → Bool → Int → Int → Int → Int → Int → Int → Int → Int → Int → Option (Bool)
 | 0, _, _, _, _, _, _, _, _, _, _, _, _, _ => none
 | k + 1, x21, x22, x23, x44, x364000, x364001, x365000, x365001, x366000, x366001, x366002, x366003, x366004 => if x44 = true then (some true) else (hopmeshlaw05_GeometryCrossings.l0 k x21 x22 (wrap64 (x23 + 1)) x364000 x364001 x365000 x365001 x366000 x366001 x366002 x366003 x366004)
def hopmeshlaw05_GeometryCrossings.j2 : Nat → Bool → Int → Int → Int → Int → Int → Int → Int → Int → Int → Option (Bool)
 | 0, _, _, _, _, _, _, _, _, _, _ => none
 | k + 1, x108, x364000, x364001, x365000, x365001, x366000, x366001, x366002, x366003, x366004 => if x108 = true then (some false) else (if (mx x364000 x365000) < (mn x366000 x366002) then ((geometry_Crosses.f k x364000 x364001 x365000 x365001 x366000 x366001 x366002 x366003 x366004).bind fun t379 => (some (!t379))) else (if (mx x366000 x366002) < (mn x364000 x365000) then ((geometry_Crosses.f k x364000 x364001 x365000 x365001 x366000 x366001 x366002 x366003 x366004).bind fun t380 => (some (!t380))) else (if (mx x364001 x365001) < (mn x366001 x366003) then ((geometry_Crosses.f k x364000 x364001 x365000 x365001 x366000 x366001 x366002 x366003 x366004).bind fun t381 => (some (!t381))) else (if ((mx x366001 x366003) < (mn x364001 x365001)) then ((geometry_Crosses.f k x364000 x364001 x365000 x365001 x366000 x366001 x366002 x366003 x366004).bind fun t382 => (some (!t382))) else (some true)))))
end
def hopmeshlaw05_GeometryCrossings.f (k : Nat) (a0_0 : Int) (a0_1 : Int) (a1_0 : Int) (a1_1 : Int) (a2_0 : Int) (a2_1 : Int) (a2_2 : Int) (a2_3 : Int) (a2_4 : Int) : Option (Bool) := (hopmeshlaw05_awake.f).bind fun t366 => (if t366 = true then ((some (([(⟨a0_0, a0_1⟩ : S28), (⟨a1_0, a1_1⟩ : S28), (⟨a2_0, a2_1⟩ : S28), (⟨a2_2, a2_3⟩ : S28)] : List (S28)) : List (S28))).bind fun y367 => (hopmeshlaw05_GeometryCrossings.l0 k y367 (y367.length : Int) 0 a0_0 a0_1 a1_0 a1_1 a2_0 a2_1 a2_2 a2_3 a2_4)) else (some false))
theorem hopmeshlaw05_GeometryCrossings.mono_l : ∀ k, (∀ y0 y1 y2 y3 y4 y5 y6 y7 y8 y9 y10 y11, LeO (hopmeshlaw05_GeometryCrossings.l0 k y0 y1 y2 y3 y4 y5 y6 y7 y8 y9 y10 y11) (hopmeshlaw05_GeometryCrossings.l0 (k + 1) y0 y1 y2 y3 y4 y5 y6 y7 y8 y9 y10 y11)) ∧ (∀ y0 y1 y2 y3 y4 y5 y6 y7 y8 y9 y10 y11 y12, LeO (hopmeshlaw05_GeometryCrossings.j1 k y0 y1 y2 y3 y4 y5 y6 y7 y8 y9 y10 y11 y12) (hopmeshlaw05_GeometryCrossings.j1 (k + 1) y0 y1 y2 y3 y4 y5 y6 y7 y8 y9 y10 y11 y12)) ∧ (∀ y0 y1 y2 y3 y4 y5 y6 y7 y8 y9, LeO (hopmeshlaw05_GeometryCrossings.j2 k y0 y1 y2 y3 y4 y5 y6 y7 y8 y9) (hopmeshlaw05_GeometryCrossings.j2 (k + 1) y0 y1 y2 y3 y4 y5 y6 y7 y8 y9))
 | 0 => ⟨fun _ _ _ _ _ _ _ _ _ _ _ _ r h => by simp [hopmeshlaw05_GeometryCrossings.l0] at h, fun _ _ _ _ _ _ _ _ _ _ _ _ _ r h => by simp [hopmeshlaw05_GeometryCrossings.j1] at h, fun _ _ _ _ _ _ _ _ _ _ r h => by simp [hopmeshlaw05_GeometryCrossings.j2] at h⟩
 | k + 1 => by
  obtain ⟨ih0, ih1, ih2⟩ := hopmeshlaw05_GeometryCrossings.mono_l k
  refine ⟨?_, ?_, ?_⟩
  ·intro y0 y1 y2 y3 y4 y5 y6 y7 y8 y9 y10 y11
   unfold hopmeshlaw05_GeometryCrossings.l0
   repeat' first
   | (with_reducible exact ih0 _ _ _ _ _ _ _ _ _ _ _ _)
   | (with_reducible exact ih1 _ _ _ _ _ _ _ _ _ _ _ _ _)
   | (with_reducible exact ih2 _ _ _ _ _ _ _ _ _ _)
   | (with_reducible exact geometry_Crosses.mono _ _ _ _ _ _ _ _ _ _)
   | (with_reducible exact LeO.refl _)
   | (with_reducible exact LeO.none _)
   | (with_reducible refine LeO.ite ?_ ?_)
   | (with_reducible refine LeO.bind ?_ (fun _ => ?_))
   | exact ih0 _ _ _ _ _ _ _ _ _ _ _ _
   | exact ih1 _ _ _ _ _ _ _ _ _ _ _ _ _
   | exact ih2 _ _ _ _ _ _ _ _ _ _
   | exact geometry_Crosses.mono _ _ _ _ _ _ _ _ _ _
   | exact LeO.none _
   | refine LeO.ite ?_ ?_
   | refine LeO.bind ?_ (fun _ => ?_)
  rotate_left
  ·intro y0 y1 y2 y3 y4 y5 y6 y7 y8 y9
   unfold hopmeshlaw05_GeometryCrossings.j2
   repeat' first
   | (with_reducible exact ih0 _ _ _ _ _ _ _ _ _ _ _ _)
   | (with_reducible exact ih1 _ _ _ _ _ _ _ _ _ _ _ _ _)
   | (with_reducible exact ih2 _ _ _ _ _ _ _ _ _ _)
   | (with_reducible exact geometry_Crosses.mono _ _ _ _ _ _ _ _ _ _)
   | (with_reducible exact LeO.refl _)
   | (with_reducible exact LeO.none _)
   | (with_reducible refine LeO.ite ?_ ?_)
   | (with_reducible refine LeO.bind ?_ (fun _ => ?_))
   | exact ih0 _ _ _ _ _ _ _ _ _ _ _ _
   | exact ih1 _ _ _ _ _ _ _ _ _ _ _ _ _
   | exact ih2 _ _ _ _ _ _ _ _ _ _
   | exact geometry_Crosses.mono _ _ _ _ _ _ _ _ _ _
   | exact LeO.none _
   | refine LeO.ite ?_ ?_
   | refine LeO.bind ?_ (fun _ => ?_)
  intro y0 y1 y2 y3 y4 y5 y6 y7 y8 y9 y10 y11 y12
  unfold hopmeshlaw05_GeometryCrossings.j1
  repeat' first
  | (with_reducible exact ih0 _ _ _ _ _ _ _ _ _ _ _ _)
  | (with_reducible exact ih1 _ _ _ _ _ _ _ _ _ _ _ _ _)
  | (with_reducible exact ih2 _ _ _ _ _ _ _ _ _ _)
  | (with_reducible exact geometry_Crosses.mono _ _ _ _ _ _ _ _ _ _)
  | (with_reducible exact LeO.refl _)
  | (with_reducible exact LeO.none _)
  | (with_reducible refine LeO.ite ?_ ?_)
  | (with_reducible refine LeO.bind ?_ (fun _ => ?_))
  | exact ih0 _ _ _ _ _ _ _ _ _ _ _ _
  | exact ih1 _ _ _ _ _ _ _ _ _ _ _ _ _
  | exact ih2 _ _ _ _ _ _ _ _ _ _
  | exact geometry_Crosses.mono _ _ _ _ _ _ _ _ _ _
  | exact LeO.none _
  | refine LeO.ite ?_ ?_
  | refine LeO.bind ?_ (fun _ => ?_)
theorem hopmeshlaw05_GeometryCrossings.mono : ∀ a0 a1 a2 a3 a4 a5 a6 a7 a8 k, LeO (hopmeshlaw05_GeometryCrossings.f k a0 a1 a2 a3 a4 a5 a6 a7 a8) (hopmeshlaw05_GeometryCrossings.f (k + 1) a0 a1 a2 a3 a4 a5 a6 a7 a8) := by
 intro a0 a1 a2 a3 a4 a5 a6 a7 a8 k
 obtain ⟨ih0, ih1, ih2⟩ := hopmeshlaw05_GeometryCrossings.mono_l k
 unfold hopmeshlaw05_GeometryCrossings.f
 repeat' first
  | (with_reducible exact ih0 _ _ _ _ _ _ _ _ _ _ _ _)
  | (with_reducible exact ih1 _ _ _ _ _ _ _ _ _ _ _ _ _)
  | (with_reducible exact ih2 _ _ _ _ _ _ _ _ _ _)
  | (with_reducible exact geometry_Crosses.mono _ _ _ _ _ _ _ _ _ _)
  | (with_reducible exact LeO.refl _)
  | (with_reducible exact LeO.none _)
  | (with_reducible refine LeO.ite ?_ ?_)
  | (with_reducible refine LeO.bind ?_ (fun _ => ?_))
  | exact ih0 _ _ _ _ _ _ _ _ _ _ _ _
  | exact ih1 _ _ _ _ _ _ _ _ _ _ _ _ _
  | exact ih2 _ _ _ _ _ _ _ _ _ _
  | exact geometry_Crosses.mono _ _ _ _ _ _ _ _ _ _
  | exact LeO.none _
  | refine LeO.ite ?_ ?_
  | refine LeO.bind ?_ (fun _ => ?_)
def hopmeshlaw05_GeometryCrossings.T9 : Bool × List (List Nat × List Nat) := (true, [([], []), ([0], [0]), ([1], [1]), ([], []), ([3], [3]), ([4], [4]), ([2, 5], [2, 5]), ([], []), ([7], [7]), ([8], [8]), ([], []), ([10], [10]), ([11], [11]), ([9, 12], [9, 12]), ([], []), ([], []), ([14, 6, 0, 1, 2, 3, 4, 5, 6, 14, 15], [6, 14]), ([15, 13, 16, 0, 1, 2, 3, 4, 5, 6, 7, 8, 9, 10, 11, 12, 13, 14, 15, 16], [13, 15])])
def hopmeshlaw05_GeometryCrossings.B9 : List Nat := [0, 1, 3, 0, 8, 24, 63, 0, 128, 384, 0, 1024, 3072, 8064, 0, 0, 49279, 131071]
theorem hopmeshlaw05_GeometryCrossings.tab9 : rtab .any (opsOf Try.f7 9) = hopmeshlaw05_GeometryCrossings.T9 := by kernel_rfl
theorem hopmeshlaw05_GeometryCrossings.bits9 : waitsOk hopmeshlaw05_GeometryCrossings.T9.2 hopmeshlaw05_GeometryCrossings.B9 = true := by kernel_rfl

end Go.Proofs.Ytcdgpnjlaicbcaa.PA
