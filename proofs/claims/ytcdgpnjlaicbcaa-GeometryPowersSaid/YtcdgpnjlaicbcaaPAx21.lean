-- Written by a program of this session (mkprint.py: the kit's print, changed) for this claim. Not trusted: Lean checks it.
import Derived.Test.YtcdgpnjlaicbcaaPAx0
import Derived.Test.YtcdgpnjlaicbcaaPAx19
import Derived.Test.YtcdgpnjlaicbcaaPAx20
namespace Go.Proofs.Ytcdgpnjlaicbcaa.PA
open Go.RowKit Go.Proofs.YtcdgpnjlaicbcaaW.PrintWords Go.Proofs.YtcdgpnjlaicbcaaW.PrintLast Go.Proofs.YtcdgpnjlaicbcaaW.PrintMore
attribute [local go_sem] max2_int min2_int max_two min_two max_three min_three max_four min_four   -- for this text's walks alone
-- thin
set_option linter.unusedVariables false
set_option linter.unusedSimpArgs false

/-! ### hopmeshref05_Crosses: function 28 -/
def hopmeshref05_Crosses.j0 : Nat → Int → Int → Int → Int → Bool → Int → Int → Int → Int → Int → Int → Int → Int → Int → Option (Bool)
 | 0, _, _, _, _, _, _, _, _, _, _, _, _, _, _ => none
 | k + 1, x7, x8, x9, x10, x42, x218000, x218001, x219000, x219001, x220000, x220001, x220002, x220003, x220004 => if x42 = true then (some true) else (if x7 = 0 then ((hopmeshref05_within.f k x218000 x218001 x219000 x219001 x220000 x220001).bind fun t224 => (if t224 = true then (some true) else (if x8 = 0 then ((hopmeshref05_within.f k x218000 x218001 x219000 x219001 x220002 x220003).bind fun t225 => (if t225 = true then (some true) else (if x9 = 0 then ((hopmeshref05_within.f k x220000 x220001 x220002 x220003 x218000 x218001).bind fun t226 => (if t226 = true then (some true) else (if x10 = 0 then ((hopmeshref05_within.f k x220000 x220001 x220002 x220003 x219000 x219001).bind fun t227 => (some t227)) else (some false)))) else (if x10 = 0 then ((hopmeshref05_within.f k x220000 x220001 x220002 x220003 x219000 x219001).bind fun t228 => (some t228)) else (some false))))) else (if x9 = 0 then ((hopmeshref05_within.f k x220000 x220001 x220002 x220003 x218000 x218001).bind fun t229 => (if t229 = true then (some true) else (if x10 = 0 then ((hopmeshref05_within.f k x220000 x220001 x220002 x220003 x219000 x219001).bind fun t230 => (some t230)) else (some false)))) else (if x10 = 0 then ((hopmeshref05_within.f k x220000 x220001 x220002 x220003 x219000 x219001).bind fun t231 => (some t231)) else (some false)))))) else (if x8 = 0 then ((hopmeshref05_within.f k x218000 x218001 x219000 x219001 x220002 x220003).bind fun t232 => (if t232 = true then (some true) else (if x9 = 0 then ((hopmeshref05_within.f k x220000 x220001 x220002 x220003 x218000 x218001).bind fun t233 => (if t233 = true then (some true) else (if x10 = 0 then ((hopmeshref05_within.f k x220000 x220001 x220002 x220003 x219000 x219001).bind fun t234 => (some t234)) else (some false)))) else (if x10 = 0 then ((hopmeshref05_within.f k x220000 x220001 x220002 x220003 x219000 x219001).bind fun t235 => (some t235)) else (some false))))) else (if x9 = 0 then ((hopmeshref05_within.f k x220000 x220001 x220002 x220003 x218000 x218001).bind fun t236 => (if t236 = true then (some true) else (if x10 = 0 then ((hopmeshref05_within.f k x220000 x220001 x220002 x220003 x219000 x219001).bind fun t237 => (some t237)) else (some false)))) else (if x10 = 0 then ((hopmeshref05_within.f k x220000 x220001 x220002 x220003 x219000 x219001).bind fun t238 => (some t238)) else (some false)))))
def hopmeshref05_Crosses.f (k : Nat) (a0_0 : Int) (a0_1 : Int) (a1_0 : Int) (a1_1 : Int) (a2_0 : Int) (a2_1 : Int) (a2_2 : Int) (a2_3 : Int) (a2_4 : Int) : Option (Bool) := (hopmeshref05_turn.f a0_0 a0_1 a1_0 a1_1 a2_0 a2_1).bind fun t220 => ((hopmeshref05_turn.f a0_0 a0_1 a1_0 a1_1 a2_2 a2_3).bind fun t221 => ((hopmeshref05_turn.f a2_0 a2_1 a2_2 a2_3 a0_0 a0_1).bind fun t222 => ((hopmeshref05_turn.f a2_0 a2_1 a2_2 a2_3 a1_0 a1_1).bind fun t223 => (if (wrap64 (t220 * t221)) < 0 then (hopmeshref05_Crosses.j0 k t220 t221 t222 t223 (decide ((wrap64 (t222 * t223)) < 0)) a0_0 a0_1 a1_0 a1_1 a2_0 a2_1 a2_2 a2_3 a2_4) else (hopmeshref05_Crosses.j0 k t220 t221 t222 t223 false a0_0 a0_1 a1_0 a1_1 a2_0 a2_1 a2_2 a2_3 a2_4)))))
theorem hopmeshref05_Crosses.mono_l : ∀ k, (∀ y0 y1 y2 y3 y4 y5 y6 y7 y8 y9 y10 y11 y12 y13, LeO (hopmeshref05_Crosses.j0 k y0 y1 y2 y3 y4 y5 y6 y7 y8 y9 y10 y11 y12 y13) (hopmeshref05_Crosses.j0 (k + 1) y0 y1 y2 y3 y4 y5 y6 y7 y8 y9 y10 y11 y12 y13))
 | 0 => fun _ _ _ _ _ _ _ _ _ _ _ _ _ _ r h => by simp [hopmeshref05_Crosses.j0] at h
 | k + 1 => by
  have ih0 := hopmeshref05_Crosses.mono_l k
  ·intro y0 y1 y2 y3 y4 y5 y6 y7 y8 y9 y10 y11 y12 y13
   unfold hopmeshref05_Crosses.j0
   repeat' first
   | (with_reducible exact ih0 _ _ _ _ _ _ _ _ _ _ _ _ _ _)
   | (with_reducible exact hopmeshref05_within.mono _ _ _ _ _ _ _)
   | (with_reducible exact LeO.refl _)
   | (with_reducible exact LeO.none _)
   | (with_reducible refine LeO.ite ?_ ?_)
   | (with_reducible refine LeO.bind ?_ (fun _ => ?_))
   | exact ih0 _ _ _ _ _ _ _ _ _ _ _ _ _ _
   | exact hopmeshref05_within.mono _ _ _ _ _ _ _
   | exact LeO.none _
   | refine LeO.ite ?_ ?_
   | refine LeO.bind ?_ (fun _ => ?_)
theorem hopmeshref05_Crosses.mono : ∀ a0 a1 a2 a3 a4 a5 a6 a7 a8 k, LeO (hopmeshref05_Crosses.f k a0 a1 a2 a3 a4 a5 a6 a7 a8) (hopmeshref05_Crosses.f (k + 1) a0 a1 a2 a3 a4 a5 a6 a7 a8) := by
 intro a0 a1 a2 a3 a4 a5 a6 a7 a8 k
 have ih0 := hopmeshref05_Crosses.mono_l k
 unfold hopmeshref05_Crosses.f
 repeat' first
  | (with_reducible exact ih0 _ _ _ _ _ _ _ _ _ _ _ _ _ _)
  | (with_reducible exact hopmeshref05_within.mono _ _ _ _ _ _ _)
  | (with_reducible exact LeO.refl _)
  | (with_reducible exact LeO.none _)
  | (with_reducible refine LeO.ite ?_ ?_)
  | (with_reducible refine LeO.bind ?_ (fun _ => ?_))
  | exact ih0 _ _ _ _ _ _ _ _ _ _ _ _ _ _
  | exact hopmeshref05_within.mono _ _ _ _ _ _ _
  | exact LeO.none _
  | refine LeO.ite ?_ ?_
  | refine LeO.bind ?_ (fun _ => ?_)
def hopmeshref05_Crosses.T1 : Bool × List (List Nat × List Nat) := (true, [([], []), ([], []), ([], []), ([2], [2]), ([0, 1, 3], [0, 1, 3]), ([], []), ([], []), ([], []), ([7], [7]), ([5, 6, 8, 4], [5, 6, 8]), ([4, 9, 0, 1, 2, 3, 4], [4]), ([9, 10, 0, 1, 2, 3, 4, 5, 6, 7, 8, 9, 10], [9])])
def hopmeshref05_Crosses.B1 : List Nat := [0, 0, 0, 4, 15, 0, 0, 0, 128, 511, 1023, 2047]
theorem hopmeshref05_Crosses.tab1 : rtab .any (opsOf Try.f28 1) = hopmeshref05_Crosses.T1 := by kernel_rfl
theorem hopmeshref05_Crosses.bits1 : waitsOk hopmeshref05_Crosses.T1.2 hopmeshref05_Crosses.B1 = true := by kernel_rfl
def hopmeshref05_Crosses.T2 : Bool × List (List Nat × List Nat) := (true, [([], []), ([0], [0]), ([], []), ([2], [2]), ([], []), ([1, 3, 4], [1, 3, 4]), ([], []), ([6], [6]), ([], []), ([8], [8]), ([], []), ([7, 9, 10, 5], [7, 9, 10]), ([5, 11, 0, 1, 2, 3, 4, 5], [5]), ([11, 12, 0, 1, 2, 3, 4, 5, 6, 7, 8, 9, 10, 11, 12], [11])])
def hopmeshref05_Crosses.B2 : List Nat := [0, 1, 0, 4, 0, 31, 0, 64, 0, 256, 0, 2047, 4095, 8191]
theorem hopmeshref05_Crosses.tab2 : rtab .any (opsOf Try.f28 2) = hopmeshref05_Crosses.T2 := by kernel_rfl
theorem hopmeshref05_Crosses.bits2 : waitsOk hopmeshref05_Crosses.T2.2 hopmeshref05_Crosses.B2 = true := by kernel_rfl
set_option maxHeartbeats 8000000 in
set_option maxRecDepth 100000 in
theorem hopmeshref05_Crosses.calls (k : Nat) (a0_0 : Int) (a0_1 : Int) (a1_0 : Int) (a1_1 : Int) (a2_0 : Int) (a2_1 : Int) (a2_2 : Int) (a2_3 : Int) (a2_4 : Int) (r : Bool) (w : World) (h : hopmeshref05_Crosses.f k a0_0 a0_1 a1_0 a1_1 a2_0 a2_1 a2_2 a2_3 a2_4 = some r) :
 Calls Try.prog 28 #[.agg #[.int .i64 a0_0, .int .i64 a0_1], .agg #[.int .i64 a1_0, .int .i64 a1_1], .agg #[.int .i64 a2_0, .int .i64 a2_1, .int .i64 a2_2, .int .i64 a2_3, .int .i64 a2_4]] w fun e w' => e = .returned (.bool r) ∧ Below w.heap.size w w' := by
 have hu28 := Try.underlying28
 have hu47 := Try.underlying47
 have HB := Aside0.mk (Below.refl w.heap.size w)
 have H : ((hopmeshref05_turn.f a0_0 a0_1 a1_0 a1_1 a2_0 a2_1).bind fun t220 => ((hopmeshref05_turn.f a0_0 a0_1 a1_0 a1_1 a2_2 a2_3).bind fun t221 => ((hopmeshref05_turn.f a2_0 a2_1 a2_2 a2_3 a0_0 a0_1).bind fun t222 => ((hopmeshref05_turn.f a2_0 a2_1 a2_2 a2_3 a1_0 a1_1).bind fun t223 => (if (wrap64 (t220 * t221)) < 0 then (hopmeshref05_Crosses.j0 k t220 t221 t222 t223 (decide ((wrap64 (t222 * t223)) < 0)) a0_0 a0_1 a1_0 a1_1 a2_0 a2_1 a2_2 a2_3 a2_4) else (hopmeshref05_Crosses.j0 k t220 t221 t222 t223 false a0_0 a0_1 a1_0 a1_1 a2_0 a2_1 a2_2 a2_3 a2_4)))))) = some r := h
 clear h
 replace H := Option.bind_eq_some_iff.mp H
 obtain ⟨t220, A40, H⟩ := H
 replace H : ((hopmeshref05_turn.f a0_0 a0_1 a1_0 a1_1 a2_2 a2_3).bind fun t221 => ((hopmeshref05_turn.f a2_0 a2_1 a2_2 a2_3 a0_0 a0_1).bind fun t222 => ((hopmeshref05_turn.f a2_0 a2_1 a2_2 a2_3 a1_0 a1_1).bind fun t223 => (if (wrap64 (t220 * t221)) < 0 then (hopmeshref05_Crosses.j0 k t220 t221 t222 t223 (decide ((wrap64 (t222 * t223)) < 0)) a0_0 a0_1 a1_0 a1_1 a2_0 a2_1 a2_2 a2_3 a2_4) else (hopmeshref05_Crosses.j0 k t220 t221 t222 t223 false a0_0 a0_1 a1_0 a1_1 a2_0 a2_1 a2_2 a2_3 a2_4))))) = some r := H
 have A4 := Aside0.mk A40
 clear A40
 replace H := Option.bind_eq_some_iff.mp H
 obtain ⟨t221, A50, H⟩ := H
 replace H : ((hopmeshref05_turn.f a2_0 a2_1 a2_2 a2_3 a0_0 a0_1).bind fun t222 => ((hopmeshref05_turn.f a2_0 a2_1 a2_2 a2_3 a1_0 a1_1).bind fun t223 => (if (wrap64 (t220 * t221)) < 0 then (hopmeshref05_Crosses.j0 k t220 t221 t222 t223 (decide ((wrap64 (t222 * t223)) < 0)) a0_0 a0_1 a1_0 a1_1 a2_0 a2_1 a2_2 a2_3 a2_4) else (hopmeshref05_Crosses.j0 k t220 t221 t222 t223 false a0_0 a0_1 a1_0 a1_1 a2_0 a2_1 a2_2 a2_3 a2_4)))) = some r := H
 have A5 := Aside0.mk A50
 clear A50
 replace H := Option.bind_eq_some_iff.mp H
 obtain ⟨t222, A60, H⟩ := H
 replace H : ((hopmeshref05_turn.f a2_0 a2_1 a2_2 a2_3 a1_0 a1_1).bind fun t223 => (if (wrap64 (t220 * t221)) < 0 then (hopmeshref05_Crosses.j0 k t220 t221 t222 t223 (decide ((wrap64 (t222 * t223)) < 0)) a0_0 a0_1 a1_0 a1_1 a2_0 a2_1 a2_2 a2_3 a2_4) else (hopmeshref05_Crosses.j0 k t220 t221 t222 t223 false a0_0 a0_1 a1_0 a1_1 a2_0 a2_1 a2_2 a2_3 a2_4))) = some r := H
 have A6 := Aside0.mk A60
 clear A60
 replace H := Option.bind_eq_some_iff.mp H
 obtain ⟨t223, A70, H⟩ := H
 replace H : (if (wrap64 (t220 * t221)) < 0 then (hopmeshref05_Crosses.j0 k t220 t221 t222 t223 (decide ((wrap64 (t222 * t223)) < 0)) a0_0 a0_1 a1_0 a1_1 a2_0 a2_1 a2_2 a2_3 a2_4) else (hopmeshref05_Crosses.j0 k t220 t221 t222 t223 false a0_0 a0_1 a1_0 a1_1 a2_0 a2_1 a2_2 a2_3 a2_4)) = some r := H
 have A7 := Aside0.mk A70
 clear A70
 have HC8 := Aside0.mk H
 clear H
 go_enter Try.func28, Try.ntmps28
 try go_wp2_with (first | ((with_reducible refine gate_dst (N := 3) rfl ?_); refine box_event ?hg (N := 3) ?hd (cs := #[.int .i64 a0_0, .int .i64 a0_1]) (t := 28) ?hr ?_; (case hd => rfl); (case hg => rfl); (case hr => first | (go_simp; done) | (go_simp; rfl)); intro gb217 hg w9 hbox hb; have n0_ := Aside0.mk (below_step (by repeat (first | (with_reducible first | exact HB.out | apply blA | apply blN | apply blD) | exact HB.out)) hb); have n1_ := Aside0.mk (hbox); have n2_ := Aside0.mk ((by rw [hg]; exact (below_size (by repeat (first | (with_reducible first | exact HB.out | apply blA | apply blN | apply blD) | exact HB.out))) : w.heap.size ≤ gb217)); have n3_ := Aside0.mk ((by rw [hg]; exact (below_size (by repeat (first | (with_reducible first | exact HB.out | apply blA | apply blN | apply blD) | exact HB.out))) : w.heap.size ≤ gb217)); clear HB; have HB := n0_; have BK217 := n1_; have GW217 := n2_; have GE217 := n3_; clear n0_ n1_ n2_ n3_; clear hb hbox hg) | ((with_reducible refine gate_dst (N := 4) rfl ?_); refine box_event ?hg (N := 4) ?hd (cs := #[.int .i64 a1_0, .int .i64 a1_1]) (t := 28) ?hr ?_; (case hd => rfl); (case hg => rfl); (case hr => first | (go_simp; done) | (go_simp; rfl)); intro gb218 hg w10 hbox hb; have n0_ := Aside0.mk (bkB (g := gb217) (o := .cells #[.int .i64 a0_0, .int .i64 a0_1] 28 (0, 0)) (by (with_reducible repeat (first | refine bkN ?_ _ | refine bkD ?_ | refine bkA ?_ _)); exact BK217.out) hb); have n1_ := Aside0.mk (below_step (by repeat (first | (with_reducible first | exact HB.out | apply blA | apply blN | apply blD | refine blS ?_ GE217.out) | exact HB.out)) hb); have n2_ := Aside0.mk (hbox); have n3_ := Aside0.mk ((by rw [hg]; exact (below_size (by repeat (first | (with_reducible first | exact HB.out | apply blA | apply blN | apply blD | refine blS ?_ GE217.out) | exact HB.out))) : w.heap.size ≤ gb218)); have n4_ := Aside0.mk ((by rw [hg]; exact (below_size (by repeat (first | (with_reducible first | exact HB.out | apply blA | apply blN | apply blD | refine blS ?_ GE217.out) | exact HB.out))) : w.heap.size ≤ gb218)); have n5_ := Aside0.mk ((by rw [hg]; exact Nat.ne_of_lt (blk_lt (g := gb217) (o := .cells #[.int .i64 a0_0, .int .i64 a0_1] 28 (0, 0)) (by (with_reducible repeat (first | refine bkN ?_ _ | refine bkD ?_ | refine bkA ?_ _)); exact BK217.out)) : gb217 ≠ gb218)); have n6_ := Aside0.mk ((by rw [hg]; exact Nat.ne_of_gt (blk_lt (g := gb217) (o := .cells #[.int .i64 a0_0, .int .i64 a0_1] 28 (0, 0)) (by (with_reducible repeat (first | refine bkN ?_ _ | refine bkD ?_ | refine bkA ?_ _)); exact BK217.out)) : gb218 ≠ gb217)); clear BK217; clear HB; have BK217 := n0_; have HB := n1_; have BK218 := n2_; have GW218 := n3_; have GE218 := n4_; have NB217_218 := n5_; have NB218_217 := n6_; clear n0_ n1_ n2_ n3_ n4_ n5_ n6_; clear hb hbox hg) | ((with_reducible refine gate_dst (N := 5) rfl ?_); refine box_event ?hg (N := 5) ?hd (cs := #[.int .i64 a2_0, .int .i64 a2_1, .int .i64 a2_2, .int .i64 a2_3, .int .i64 a2_4]) (t := 47) ?hr ?_; (case hd => rfl); (case hg => rfl); (case hr => first | (go_simp; done) | (go_simp; rfl)); intro gb219 hg w11 hbox hb; have n0_ := Aside0.mk (bkB (g := gb217) (o := .cells #[.int .i64 a0_0, .int .i64 a0_1] 28 (0, 0)) (by (with_reducible repeat (first | refine bkN ?_ _ | refine bkD ?_ | refine bkA ?_ _)); exact BK217.out) hb); have n1_ := Aside0.mk (bkB (g := gb218) (o := .cells #[.int .i64 a1_0, .int .i64 a1_1] 28 (0, 0)) (by (with_reducible repeat (first | refine bkN ?_ _ | refine bkD ?_ | refine bkA ?_ _)); exact BK218.out) hb); have n2_ := Aside0.mk (below_step (by repeat (first | (with_reducible first | exact HB.out | apply blA | apply blN | apply blD | refine blS ?_ GE217.out | refine blS ?_ GE218.out) | exact HB.out)) hb); have n3_ := Aside0.mk (hbox); have n4_ := Aside0.mk ((by rw [hg]; exact (below_size (by repeat (first | (with_reducible first | exact HB.out | apply blA | apply blN | apply blD | refine blS ?_ GE217.out | refine blS ?_ GE218.out) | exact HB.out))) : w.heap.size ≤ gb219)); have n5_ := Aside0.mk ((by rw [hg]; exact (below_size (by repeat (first | (with_reducible first | exact HB.out | apply blA | apply blN | apply blD | refine blS ?_ GE217.out | refine blS ?_ GE218.out) | exact HB.out))) : w.heap.size ≤ gb219)); have n6_ := Aside0.mk ((by rw [hg]; exact Nat.ne_of_lt (blk_lt (g := gb217) (o := .cells #[.int .i64 a0_0, .int .i64 a0_1] 28 (0, 0)) (by (with_reducible repeat (first | refine bkN ?_ _ | refine bkD ?_ | refine bkA ?_ _)); exact BK217.out)) : gb217 ≠ gb219)); have n7_ := Aside0.mk ((by rw [hg]; exact Nat.ne_of_gt (blk_lt (g := gb217) (o := .cells #[.int .i64 a0_0, .int .i64 a0_1] 28 (0, 0)) (by (with_reducible repeat (first | refine bkN ?_ _ | refine bkD ?_ | refine bkA ?_ _)); exact BK217.out)) : gb219 ≠ gb217)); have n8_ := Aside0.mk ((by rw [hg]; exact Nat.ne_of_lt (blk_lt (g := gb218) (o := .cells #[.int .i64 a1_0, .int .i64 a1_1] 28 (0, 0)) (by (with_reducible repeat (first | refine bkN ?_ _ | refine bkD ?_ | refine bkA ?_ _)); exact BK218.out)) : gb218 ≠ gb219)); have n9_ := Aside0.mk ((by rw [hg]; exact Nat.ne_of_gt (blk_lt (g := gb218) (o := .cells #[.int .i64 a1_0, .int .i64 a1_1] 28 (0, 0)) (by (with_reducible repeat (first | refine bkN ?_ _ | refine bkD ?_ | refine bkA ?_ _)); exact BK218.out)) : gb219 ≠ gb218)); clear BK217; clear BK218; clear HB; have BK217 := n0_; have BK218 := n1_; have HB := n2_; have BK219 := n3_; have GW219 := n4_; have GE219 := n5_; have NB217_219 := n6_; have NB219_217 := n7_; have NB218_219 := n8_; have NB219_218 := n9_; clear n0_ n1_ n2_ n3_ n4_ n5_ n6_ n7_ n8_ n9_; clear hb hbox hg))
 have n0_ := Aside0.mk (bkD BK217.out)
 have n1_ := Aside0.mk (bkD BK218.out)
 have n2_ := Aside0.mk (bkD BK219.out)
 have n3_ := Aside0.mk (blD HB.out)
 clear BK217
 clear BK218
 clear BK219
 clear HB
 have BK217 := n0_
 have BK218 := n1_
 have BK219 := n2_
 have HB := n3_
 clear n0_ n1_ n2_ n3_
 refine start_ (n := 12) (S := fun w' => w'.cell? ⟨gb217, 0, none⟩ = some (.int .i64 a0_0) ∧ w'.cell? ⟨gb217, 1, none⟩ = some (.int .i64 a0_1) ∧ w'.cell? ⟨gb218, 0, none⟩ = some (.int .i64 a1_0) ∧ w'.cell? ⟨gb218, 1, none⟩ = some (.int .i64 a1_1) ∧ w'.cell? ⟨gb219, 0, none⟩ = some (.int .i64 a2_0) ∧ w'.cell? ⟨gb219, 1, none⟩ = some (.int .i64 a2_1) ∧ w'.cell? ⟨gb219, 2, none⟩ = some (.int .i64 a2_2) ∧ w'.cell? ⟨gb219, 3, none⟩ = some (.int .i64 a2_3) ∧ w'.cell? ⟨gb219, 4, none⟩ = some (.int .i64 a2_4)) (ds := []) #[false, false, false, false, false, false, false, false, false, false, false, false] (by kernel_rfl) rfl rfl ⟨(bkC BK217.out 0).trans rfl, (bkC BK217.out 1).trans rfl, (bkC BK218.out 0).trans rfl, (bkC BK218.out 1).trans rfl, (bkC BK219.out 0).trans rfl, (bkC BK219.out 1).trans rfl, (bkC BK219.out 2).trans rfl, (bkC BK219.out 3).trans rfl, (bkC BK219.out 4).trans rfl⟩ (fun hHeld => ?_); refine with_tabW hopmeshref05_Crosses.tab1 hopmeshref05_Crosses.bits1 (fun HT_ HW_ => ?_)
 generalize w11.drew = w12 at BK217 BK218 BK219 HB hHeld ⊢
 refine pure_ (i := 2) (N := some 13) (v := ?_) (a' := ?_) #[false, false, true, false, false, false, false, false, false, false, false, false] rfl rfl (any_of HT_.out (by kernel_rfl)) (fun _ _ _ h => h) (Or.inl ⟨by rfl, ?_⟩) ?_ ?_
 rotate_left
 ·intro w'
  go_simp
  with_reducible rfl
 rotate_left
 ·simp only [Act.put, List.setIfInBounds_toArray, List.set_cons_zero, List.set_cons_succ, i64_w, i32_w]
  rfl
 refine pure_ (i := 7) (N := some 18) (v := ?_) (a' := ?_) #[false, false, true, false, false, false, false, true, false, false, false, false] rfl rfl (any_of HT_.out (by kernel_rfl)) (fun _ _ _ h => h) (Or.inl ⟨by rfl, ?_⟩) ?_ ?_
 rotate_left
 ·intro w'
  go_simp
  with_reducible rfl
 rotate_left
 ·simp only [Act.put, List.setIfInBounds_toArray, List.set_cons_zero, List.set_cons_succ, i64_w, i32_w]
  rfl
 refine take_ (i := 0) (N := some 11) (v := ?_) (a' := ?_) #[true, false, true, false, false, false, false, true, false, false, false, false] rfl rfl (take_ofW HT_.out HW_.out (by kernel_rfl)) (fun _ _ _ h => h) (Or.inl ⟨by rfl, ?_⟩) hHeld ?_ ?_
 rotate_left
 ·rintro w' ⟨s0, s1, s2, s3, s4, s5, s6, s7, s8⟩
  go_simp
  with_reducible rfl
 rotate_left
 ·simp only [Act.put, List.setIfInBounds_toArray, List.set_cons_zero, List.set_cons_succ, i64_w, i32_w]
  rfl
 refine take_ (i := 1) (N := some 12) (v := ?_) (a' := ?_) #[true, true, true, false, false, false, false, true, false, false, false, false] rfl rfl (take_ofW HT_.out HW_.out (by kernel_rfl)) (fun _ _ _ h => h) (Or.inl ⟨by rfl, ?_⟩) hHeld ?_ ?_
 rotate_left
 ·rintro w' ⟨s0, s1, s2, s3, s4, s5, s6, s7, s8⟩
  go_simp
  with_reducible rfl
 rotate_left
 ·simp only [Act.put, List.setIfInBounds_toArray, List.set_cons_zero, List.set_cons_succ, i64_w, i32_w]
  rfl
 refine take_ (i := 3) (N := some 14) (v := ?_) (a' := ?_) #[true, true, true, true, false, false, false, true, false, false, false, false] rfl rfl (take_ofW HT_.out HW_.out (by kernel_rfl)) (fun _ _ _ h => h) (Or.inl ⟨by rfl, ?_⟩) hHeld ?_ ?_
 rotate_left
 ·rintro w' ⟨s0, s1, s2, s3, s4, s5, s6, s7, s8⟩
  go_simp
  with_reducible rfl
 rotate_left
 ·simp only [Act.put, List.setIfInBounds_toArray, List.set_cons_zero, List.set_cons_succ, i64_w, i32_w]
  rfl
 refine take_ (i := 5) (N := some 16) (v := ?_) (a' := ?_) #[true, true, true, true, false, true, false, true, false, false, false, false] rfl rfl (take_ofW HT_.out HW_.out (by kernel_rfl)) (fun _ _ _ h => h) (Or.inl ⟨by rfl, ?_⟩) hHeld ?_ ?_
 rotate_left
 ·rintro w' ⟨s0, s1, s2, s3, s4, s5, s6, s7, s8⟩
  go_simp
  with_reducible rfl
 rotate_left
 ·simp only [Act.put, List.setIfInBounds_toArray, List.set_cons_zero, List.set_cons_succ, i64_w, i32_w]
  rfl
 refine take_ (i := 6) (N := some 17) (v := ?_) (a' := ?_) #[true, true, true, true, false, true, true, true, false, false, false, false] rfl rfl (take_ofW HT_.out HW_.out (by kernel_rfl)) (fun _ _ _ h => h) (Or.inl ⟨by rfl, ?_⟩) hHeld ?_ ?_
 rotate_left
 ·rintro w' ⟨s0, s1, s2, s3, s4, s5, s6, s7, s8⟩
  go_simp
  with_reducible rfl
 rotate_left
 ·simp only [Act.put, List.setIfInBounds_toArray, List.set_cons_zero, List.set_cons_succ, i64_w, i32_w]
  rfl
 refine take_ (i := 8) (N := some 19) (v := ?_) (a' := ?_) #[true, true, true, true, false, true, true, true, true, false, false, false] rfl rfl (take_ofW HT_.out HW_.out (by kernel_rfl)) (fun _ _ _ h => h) (Or.inl ⟨by rfl, ?_⟩) hHeld ?_ ?_
 rotate_left
 ·rintro w' ⟨s0, s1, s2, s3, s4, s5, s6, s7, s8⟩
  go_simp
  with_reducible rfl
 rotate_left
 ·simp only [Act.put, List.setIfInBounds_toArray, List.set_cons_zero, List.set_cons_succ, i64_w, i32_w]
  rfl
 refine one_ (i := 4) (N := some 15) #[true, true, true, true, true, true, true, true, true, false, false, false] rfl rfl (one_of HT_.out (by kernel_rfl)) (by decide) (fun K hK => ?_)
 refine goes_ Try.func56 (by kernel_rfl) rfl #[.agg #[.int .i64 a0_0, .int .i64 a0_1], .agg #[.int .i64 a1_0, .int .i64 a1_1], .agg #[.int .i64 a2_0, .int .i64 a2_1]] (by rfl) rfl rfl (by (try simp only [List.map_toArray, List.map_cons, List.map_nil]); first | done | rfl | (simp only [List.length_drop, List.length_take]; rfl)) ?_
 with_reducible refine (hopmeshref05_turn.calls a0_0 a0_1 a1_0 a1_1 a2_0 a2_1 t220 _ A4.out).mono ?_
 rintro e w13 ⟨rfl, hb⟩
 refine ⟨_, rfl, ?_⟩
 have n0_ := Aside0.mk (bkB (g := gb217) (o := .cells #[.int .i64 a0_0, .int .i64 a0_1] 28 (0, 0)) (by (with_reducible repeat (first | refine bkN ?_ _ | refine bkD ?_ | refine bkA ?_ _)); exact BK217.out) hb)
 have n1_ := Aside0.mk (bkB (g := gb218) (o := .cells #[.int .i64 a1_0, .int .i64 a1_1] 28 (0, 0)) (by (with_reducible repeat (first | refine bkN ?_ _ | refine bkD ?_ | refine bkA ?_ _)); exact BK218.out) hb)
 have n2_ := Aside0.mk (bkB (g := gb219) (o := .cells #[.int .i64 a2_0, .int .i64 a2_1, .int .i64 a2_2, .int .i64 a2_3, .int .i64 a2_4] 47 (0, 0)) (by (with_reducible repeat (first | refine bkN ?_ _ | refine bkD ?_ | refine bkA ?_ _)); exact BK219.out) hb)
 have n3_ := Aside0.mk (below_step (by repeat (first | (with_reducible first | exact HB.out | apply blA | apply blN | apply blD | refine blS ?_ GE217.out | refine blS ?_ GE218.out | refine blS ?_ GE219.out) | exact HB.out)) hb)
 clear BK217
 clear BK218
 clear BK219
 clear HB
 have BK217 := n0_
 have BK218 := n1_
 have BK219 := n2_
 have HB := n3_
 clear n0_ n1_ n2_ n3_
 (try clear hb)
 (try clear hb2)
 (try clear hk)
 (try clear hi)
 refine hK.out _ _ ⟨(bkC BK217.out 0).trans rfl, (bkC BK217.out 1).trans rfl, (bkC BK218.out 0).trans rfl, (bkC BK218.out 1).trans rfl, (bkC BK219.out 0).trans rfl, (bkC BK219.out 1).trans rfl, (bkC BK219.out 2).trans rfl, (bkC BK219.out 3).trans rfl, (bkC BK219.out 4).trans rfl⟩ (fun hHeld => ?_)
 clear hK K
 refine norm_ (a' := ?_) ?_ ?_
 rotate_left
 ·show Act.put _ (some 15) _ = _
  simp only [Act.put, List.setIfInBounds_toArray, List.set_cons_zero, List.set_cons_succ, i64_w, i32_w]
  rfl
 refine one_ (i := 9) (N := some 20) #[true, true, true, true, true, true, true, true, true, true, false, false] rfl rfl (one_of HT_.out (by kernel_rfl)) (by decide) (fun K hK => ?_)
 refine goes_ Try.func56 (by kernel_rfl) rfl #[.agg #[.int .i64 a0_0, .int .i64 a0_1], .agg #[.int .i64 a1_0, .int .i64 a1_1], .agg #[.int .i64 a2_2, .int .i64 a2_3]] (by rfl) rfl rfl (by (try simp only [List.map_toArray, List.map_cons, List.map_nil]); first | done | rfl | (simp only [List.length_drop, List.length_take]; rfl)) ?_
 with_reducible refine (hopmeshref05_turn.calls a0_0 a0_1 a1_0 a1_1 a2_2 a2_3 t221 _ A5.out).mono ?_
 rintro e w14 ⟨rfl, hb⟩
 refine ⟨_, rfl, ?_⟩
 have n0_ := Aside0.mk (bkB (g := gb217) (o := .cells #[.int .i64 a0_0, .int .i64 a0_1] 28 (0, 0)) (by (with_reducible repeat (first | refine bkN ?_ _ | refine bkD ?_ | refine bkA ?_ _)); exact BK217.out) hb)
 have n1_ := Aside0.mk (bkB (g := gb218) (o := .cells #[.int .i64 a1_0, .int .i64 a1_1] 28 (0, 0)) (by (with_reducible repeat (first | refine bkN ?_ _ | refine bkD ?_ | refine bkA ?_ _)); exact BK218.out) hb)
 have n2_ := Aside0.mk (bkB (g := gb219) (o := .cells #[.int .i64 a2_0, .int .i64 a2_1, .int .i64 a2_2, .int .i64 a2_3, .int .i64 a2_4] 47 (0, 0)) (by (with_reducible repeat (first | refine bkN ?_ _ | refine bkD ?_ | refine bkA ?_ _)); exact BK219.out) hb)
 have n3_ := Aside0.mk (below_step (by repeat (first | (with_reducible first | exact HB.out | apply blA | apply blN | apply blD | refine blS ?_ GE217.out | refine blS ?_ GE218.out | refine blS ?_ GE219.out) | exact HB.out)) hb)
 clear BK217
 clear BK218
 clear BK219
 clear HB
 have BK217 := n0_
 have BK218 := n1_
 have BK219 := n2_
 have HB := n3_
 clear n0_ n1_ n2_ n3_
 (try clear hb)
 (try clear hb2)
 (try clear hk)
 (try clear hi)
 refine hK.out _ _ ⟨(bkC BK217.out 0).trans rfl, (bkC BK217.out 1).trans rfl, (bkC BK218.out 0).trans rfl, (bkC BK218.out 1).trans rfl, (bkC BK219.out 0).trans rfl, (bkC BK219.out 1).trans rfl, (bkC BK219.out 2).trans rfl, (bkC BK219.out 3).trans rfl, (bkC BK219.out 4).trans rfl⟩ (fun hHeld => ?_)
 clear hK K
 refine norm_ (a' := ?_) ?_ ?_
 rotate_left
 ·show Act.put _ (some 20) _ = _
  simp only [Act.put, List.setIfInBounds_toArray, List.set_cons_zero, List.set_cons_succ, i64_w, i32_w]
  rfl
 refine pure_ (i := 10) (N := some 7) (v := ?_) (a' := ?_) #[true, true, true, true, true, true, true, true, true, true, true, false] rfl rfl (any_of HT_.out (by kernel_rfl)) (fun _ _ _ h => h) (Or.inl ⟨by rfl, ?_⟩) ?_ ?_
 rotate_left
 ·intro w'
  go_simp
  with_reducible rfl
 rotate_left
 ·simp only [Act.put, List.setIfInBounds_toArray, List.set_cons_zero, List.set_cons_succ, i64_w, i32_w]
  rfl
 refine pure_ (i := 11) (N := some 8) (v := ?_) (a' := ?_) #[true, true, true, true, true, true, true, true, true, true, true, true] rfl rfl (any_of HT_.out (by kernel_rfl)) (fun _ _ _ h => h) (Or.inl ⟨by rfl, ?_⟩) ?_ ?_
 rotate_left
 ·intro w'
  go_simp
  with_reducible rfl
 rotate_left
 ·simp only [Act.put, List.setIfInBounds_toArray, List.set_cons_zero, List.set_cons_succ, i64_w, i32_w]
  rfl
 refine done_ (done_of HT_.out (by kernel_rfl)) ?_
 try go_wp2
 have n0_ := Aside0.mk (bkD BK217.out)
 have n1_ := Aside0.mk (bkD BK218.out)
 have n2_ := Aside0.mk (bkD BK219.out)
 have n3_ := Aside0.mk (blD HB.out)
 clear BK217
 clear BK218
 clear BK219
 clear HB
 have BK217 := n0_
 have BK218 := n1_
 have BK219 := n2_
 have HB := n3_
 clear n0_ n1_ n2_ n3_
 refine start_ (n := 14) (S := fun w' => w'.cell? ⟨gb219, 0, none⟩ = some (.int .i64 a2_0) ∧ w'.cell? ⟨gb219, 1, none⟩ = some (.int .i64 a2_1) ∧ w'.cell? ⟨gb219, 2, none⟩ = some (.int .i64 a2_2) ∧ w'.cell? ⟨gb219, 3, none⟩ = some (.int .i64 a2_3) ∧ w'.cell? ⟨gb219, 4, none⟩ = some (.int .i64 a2_4) ∧ w'.cell? ⟨gb217, 0, none⟩ = some (.int .i64 a0_0) ∧ w'.cell? ⟨gb217, 1, none⟩ = some (.int .i64 a0_1) ∧ w'.cell? ⟨gb218, 0, none⟩ = some (.int .i64 a1_0) ∧ w'.cell? ⟨gb218, 1, none⟩ = some (.int .i64 a1_1)) (ds := []) #[false, false, false, false, false, false, false, false, false, false, false, false, false, false] (by kernel_rfl) rfl rfl ⟨(bkC BK219.out 0).trans rfl, (bkC BK219.out 1).trans rfl, (bkC BK219.out 2).trans rfl, (bkC BK219.out 3).trans rfl, (bkC BK219.out 4).trans rfl, (bkC BK217.out 0).trans rfl, (bkC BK217.out 1).trans rfl, (bkC BK218.out 0).trans rfl, (bkC BK218.out 1).trans rfl⟩ (fun hHeld => ?_); refine with_tabW hopmeshref05_Crosses.tab2 hopmeshref05_Crosses.bits2 (fun HT_ HW_ => ?_)
 generalize w14.drew = w15 at BK217 BK218 BK219 HB hHeld ⊢
 refine pure_ (i := 0) (N := some 21) (v := ?_) (a' := ?_) #[true, false, false, false, false, false, false, false, false, false, false, false, false, false] rfl rfl (any_of HT_.out (by kernel_rfl)) (fun _ _ _ h => h) (Or.inl ⟨by rfl, ?_⟩) ?_ ?_
 rotate_left
 ·intro w'
  go_simp
  with_reducible rfl
 rotate_left
 ·simp only [Act.put, List.setIfInBounds_toArray, List.set_cons_zero, List.set_cons_succ, i64_w, i32_w]
  rfl
 refine pure_ (i := 2) (N := some 23) (v := ?_) (a' := ?_) #[true, false, true, false, false, false, false, false, false, false, false, false, false, false] rfl rfl (any_of HT_.out (by kernel_rfl)) (fun _ _ _ h => h) (Or.inl ⟨by rfl, ?_⟩) ?_ ?_
 rotate_left
 ·intro w'
  go_simp
  with_reducible rfl
 rotate_left
 ·simp only [Act.put, List.setIfInBounds_toArray, List.set_cons_zero, List.set_cons_succ, i64_w, i32_w]
  rfl
 refine pure_ (i := 6) (N := some 27) (v := ?_) (a' := ?_) #[true, false, true, false, false, false, true, false, false, false, false, false, false, false] rfl rfl (any_of HT_.out (by kernel_rfl)) (fun _ _ _ h => h) (Or.inl ⟨by rfl, ?_⟩) ?_ ?_
 rotate_left
 ·intro w'
  go_simp
  with_reducible rfl
 rotate_left
 ·simp only [Act.put, List.setIfInBounds_toArray, List.set_cons_zero, List.set_cons_succ, i64_w, i32_w]
  rfl
 refine pure_ (i := 8) (N := some 29) (v := ?_) (a' := ?_) #[true, false, true, false, false, false, true, false, true, false, false, false, false, false] rfl rfl (any_of HT_.out (by kernel_rfl)) (fun _ _ _ h => h) (Or.inl ⟨by rfl, ?_⟩) ?_ ?_
 rotate_left
 ·intro w'
  go_simp
  with_reducible rfl
 rotate_left
 ·simp only [Act.put, List.setIfInBounds_toArray, List.set_cons_zero, List.set_cons_succ, i64_w, i32_w]
  rfl
 refine take_ (i := 1) (N := some 22) (v := ?_) (a' := ?_) #[true, true, true, false, false, false, true, false, true, false, false, false, false, false] rfl rfl (take_ofW HT_.out HW_.out (by kernel_rfl)) (fun _ _ _ h => h) (Or.inl ⟨by rfl, ?_⟩) hHeld ?_ ?_
 rotate_left
 ·rintro w' ⟨s0, s1, s2, s3, s4, s5, s6, s7, s8⟩
  go_simp
  with_reducible rfl
 rotate_left
 ·simp only [Act.put, List.setIfInBounds_toArray, List.set_cons_zero, List.set_cons_succ, i64_w, i32_w]
  rfl
 refine take_ (i := 3) (N := some 24) (v := ?_) (a' := ?_) #[true, true, true, true, false, false, true, false, true, false, false, false, false, false] rfl rfl (take_ofW HT_.out HW_.out (by kernel_rfl)) (fun _ _ _ h => h) (Or.inl ⟨by rfl, ?_⟩) hHeld ?_ ?_
 rotate_left
 ·rintro w' ⟨s0, s1, s2, s3, s4, s5, s6, s7, s8⟩
  go_simp
  with_reducible rfl
 rotate_left
 ·simp only [Act.put, List.setIfInBounds_toArray, List.set_cons_zero, List.set_cons_succ, i64_w, i32_w]
  rfl
 refine take_ (i := 4) (N := some 25) (v := ?_) (a' := ?_) #[true, true, true, true, true, false, true, false, true, false, false, false, false, false] rfl rfl (take_ofW HT_.out HW_.out (by kernel_rfl)) (fun _ _ _ h => h) (Or.inl ⟨by rfl, ?_⟩) hHeld ?_ ?_
 rotate_left
 ·rintro w' ⟨s0, s1, s2, s3, s4, s5, s6, s7, s8⟩
  go_simp
  with_reducible rfl
 rotate_left
 ·simp only [Act.put, List.setIfInBounds_toArray, List.set_cons_zero, List.set_cons_succ, i64_w, i32_w]
  rfl
 refine take_ (i := 7) (N := some 28) (v := ?_) (a' := ?_) #[true, true, true, true, true, false, true, true, true, false, false, false, false, false] rfl rfl (take_ofW HT_.out HW_.out (by kernel_rfl)) (fun _ _ _ h => h) (Or.inl ⟨by rfl, ?_⟩) hHeld ?_ ?_
 rotate_left
 ·rintro w' ⟨s0, s1, s2, s3, s4, s5, s6, s7, s8⟩
  go_simp
  with_reducible rfl
 rotate_left
 ·simp only [Act.put, List.setIfInBounds_toArray, List.set_cons_zero, List.set_cons_succ, i64_w, i32_w]
  rfl
 refine take_ (i := 9) (N := some 30) (v := ?_) (a' := ?_) #[true, true, true, true, true, false, true, true, true, true, false, false, false, false] rfl rfl (take_ofW HT_.out HW_.out (by kernel_rfl)) (fun _ _ _ h => h) (Or.inl ⟨by rfl, ?_⟩) hHeld ?_ ?_
 rotate_left
 ·rintro w' ⟨s0, s1, s2, s3, s4, s5, s6, s7, s8⟩
  go_simp
  with_reducible rfl
 rotate_left
 ·simp only [Act.put, List.setIfInBounds_toArray, List.set_cons_zero, List.set_cons_succ, i64_w, i32_w]
  rfl
 refine take_ (i := 10) (N := some 31) (v := ?_) (a' := ?_) #[true, true, true, true, true, false, true, true, true, true, true, false, false, false] rfl rfl (take_ofW HT_.out HW_.out (by kernel_rfl)) (fun _ _ _ h => h) (Or.inl ⟨by rfl, ?_⟩) hHeld ?_ ?_
 rotate_left
 ·rintro w' ⟨s0, s1, s2, s3, s4, s5, s6, s7, s8⟩
  go_simp
  with_reducible rfl
 rotate_left
 ·simp only [Act.put, List.setIfInBounds_toArray, List.set_cons_zero, List.set_cons_succ, i64_w, i32_w]
  rfl
 refine one_ (i := 5) (N := some 26) #[true, true, true, true, true, true, true, true, true, true, true, false, false, false] rfl rfl (one_of HT_.out (by kernel_rfl)) (by decide) (fun K hK => ?_)
 refine goes_ Try.func56 (by kernel_rfl) rfl #[.agg #[.int .i64 a2_0, .int .i64 a2_1], .agg #[.int .i64 a2_2, .int .i64 a2_3], .agg #[.int .i64 a0_0, .int .i64 a0_1]] (by rfl) rfl rfl (by (try simp only [List.map_toArray, List.map_cons, List.map_nil]); first | done | rfl | (simp only [List.length_drop, List.length_take]; rfl)) ?_
 with_reducible refine (hopmeshref05_turn.calls a2_0 a2_1 a2_2 a2_3 a0_0 a0_1 t222 _ A6.out).mono ?_
 rintro e w16 ⟨rfl, hb⟩
 refine ⟨_, rfl, ?_⟩
 have n0_ := Aside0.mk (bkB (g := gb217) (o := .cells #[.int .i64 a0_0, .int .i64 a0_1] 28 (0, 0)) (by (with_reducible repeat (first | refine bkN ?_ _ | refine bkD ?_ | refine bkA ?_ _)); exact BK217.out) hb)
 have n1_ := Aside0.mk (bkB (g := gb218) (o := .cells #[.int .i64 a1_0, .int .i64 a1_1] 28 (0, 0)) (by (with_reducible repeat (first | refine bkN ?_ _ | refine bkD ?_ | refine bkA ?_ _)); exact BK218.out) hb)
 have n2_ := Aside0.mk (bkB (g := gb219) (o := .cells #[.int .i64 a2_0, .int .i64 a2_1, .int .i64 a2_2, .int .i64 a2_3, .int .i64 a2_4] 47 (0, 0)) (by (with_reducible repeat (first | refine bkN ?_ _ | refine bkD ?_ | refine bkA ?_ _)); exact BK219.out) hb)
 have n3_ := Aside0.mk (below_step (by repeat (first | (with_reducible first | exact HB.out | apply blA | apply blN | apply blD | refine blS ?_ GE217.out | refine blS ?_ GE218.out | refine blS ?_ GE219.out) | exact HB.out)) hb)
 clear BK217
 clear BK218
 clear BK219
 clear HB
 have BK217 := n0_
 have BK218 := n1_
 have BK219 := n2_
 have HB := n3_
 clear n0_ n1_ n2_ n3_
 (try clear hb)
 (try clear hb2)
 (try clear hk)
 (try clear hi)
 refine hK.out _ _ ⟨(bkC BK219.out 0).trans rfl, (bkC BK219.out 1).trans rfl, (bkC BK219.out 2).trans rfl, (bkC BK219.out 3).trans rfl, (bkC BK219.out 4).trans rfl, (bkC BK217.out 0).trans rfl, (bkC BK217.out 1).trans rfl, (bkC BK218.out 0).trans rfl, (bkC BK218.out 1).trans rfl⟩ (fun hHeld => ?_)
 clear hK K
 refine norm_ (a' := ?_) ?_ ?_
 rotate_left
 ·show Act.put _ (some 26) _ = _
  simp only [Act.put, List.setIfInBounds_toArray, List.set_cons_zero, List.set_cons_succ, i64_w, i32_w]
  rfl
 refine one_ (i := 11) (N := some 32) #[true, true, true, true, true, true, true, true, true, true, true, true, false, false] rfl rfl (one_of HT_.out (by kernel_rfl)) (by decide) (fun K hK => ?_)
 refine goes_ Try.func56 (by kernel_rfl) rfl #[.agg #[.int .i64 a2_0, .int .i64 a2_1], .agg #[.int .i64 a2_2, .int .i64 a2_3], .agg #[.int .i64 a1_0, .int .i64 a1_1]] (by rfl) rfl rfl (by (try simp only [List.map_toArray, List.map_cons, List.map_nil]); first | done | rfl | (simp only [List.length_drop, List.length_take]; rfl)) ?_
 with_reducible refine (hopmeshref05_turn.calls a2_0 a2_1 a2_2 a2_3 a1_0 a1_1 t223 _ A7.out).mono ?_
 rintro e w17 ⟨rfl, hb⟩
 refine ⟨_, rfl, ?_⟩
 have n0_ := Aside0.mk (bkB (g := gb217) (o := .cells #[.int .i64 a0_0, .int .i64 a0_1] 28 (0, 0)) (by (with_reducible repeat (first | refine bkN ?_ _ | refine bkD ?_ | refine bkA ?_ _)); exact BK217.out) hb)
 have n1_ := Aside0.mk (bkB (g := gb218) (o := .cells #[.int .i64 a1_0, .int .i64 a1_1] 28 (0, 0)) (by (with_reducible repeat (first | refine bkN ?_ _ | refine bkD ?_ | refine bkA ?_ _)); exact BK218.out) hb)
 have n2_ := Aside0.mk (bkB (g := gb219) (o := .cells #[.int .i64 a2_0, .int .i64 a2_1, .int .i64 a2_2, .int .i64 a2_3, .int .i64 a2_4] 47 (0, 0)) (by (with_reducible repeat (first | refine bkN ?_ _ | refine bkD ?_ | refine bkA ?_ _)); exact BK219.out) hb)
 have n3_ := Aside0.mk (below_step (by repeat (first | (with_reducible first | exact HB.out | apply blA | apply blN | apply blD | refine blS ?_ GE217.out | refine blS ?_ GE218.out | refine blS ?_ GE219.out) | exact HB.out)) hb)
 clear BK217
 clear BK218
 clear BK219
 clear HB
 have BK217 := n0_
 have BK218 := n1_
 have BK219 := n2_
 have HB := n3_
 clear n0_ n1_ n2_ n3_
 (try clear hb)
 (try clear hb2)
 (try clear hk)
 (try clear hi)
 refine hK.out _ _ ⟨(bkC BK219.out 0).trans rfl, (bkC BK219.out 1).trans rfl, (bkC BK219.out 2).trans rfl, (bkC BK219.out 3).trans rfl, (bkC BK219.out 4).trans rfl, (bkC BK217.out 0).trans rfl, (bkC BK217.out 1).trans rfl, (bkC BK218.out 0).trans rfl, (bkC BK218.out 1).trans rfl⟩ (fun hHeld => ?_)
 clear hK K
 refine norm_ (a' := ?_) ?_ ?_
 rotate_left
 ·show Act.put _ (some 32) _ = _
  simp only [Act.put, List.setIfInBounds_toArray, List.set_cons_zero, List.set_cons_succ, i64_w, i32_w]
  rfl
 refine pure_ (i := 12) (N := some 9) (v := ?_) (a' := ?_) #[true, true, true, true, true, true, true, true, true, true, true, true, true, false] rfl rfl (any_of HT_.out (by kernel_rfl)) (fun _ _ _ h => h) (Or.inl ⟨by rfl, ?_⟩) ?_ ?_
 rotate_left
 ·intro w'
  go_simp
  with_reducible rfl
 rotate_left
 ·simp only [Act.put, List.setIfInBounds_toArray, List.set_cons_zero, List.set_cons_succ, i64_w, i32_w]
  rfl
 refine pure_ (i := 13) (N := some 10) (v := ?_) (a' := ?_) #[true, true, true, true, true, true, true, true, true, true, true, true, true, true] rfl rfl (any_of HT_.out (by kernel_rfl)) (fun _ _ _ h => h) (Or.inl ⟨by rfl, ?_⟩) ?_ ?_
 rotate_left
 ·intro w'
  go_simp
  with_reducible rfl
 rotate_left
 ·simp only [Act.put, List.setIfInBounds_toArray, List.set_cons_zero, List.set_cons_succ, i64_w, i32_w]
  rfl
 refine done_ (done_of HT_.out (by kernel_rfl)) ?_
 go_upto_region 3 with (fail)
 go_cut [42] (fun v42 wc => ∃ (kq : Nat) (x42_7 : Bool), v42 = .bool x42_7 ∧ Aside0 (hopmeshref05_Crosses.j0 kq t220 t221 t222 t223 x42_7 a0_0 a0_1 a1_0 a1_1 a2_0 a2_1 a2_2 a2_3 a2_4 = some r) ∧ Aside0 (kq ≤ k) ∧ Aside0 (wc.heap[gb217]? = some (.cells #[.int .i64 a0_0, .int .i64 a0_1] 28 (0, 0))) ∧ Aside0 (wc.heap[gb218]? = some (.cells #[.int .i64 a1_0, .int .i64 a1_1] 28 (0, 0))) ∧ Aside0 (wc.heap[gb219]? = some (.cells #[.int .i64 a2_0, .int .i64 a2_1, .int .i64 a2_2, .int .i64 a2_3, .int .i64 a2_4] 47 (0, 0))) ∧ Aside0 (Below w.heap.size w wc))
 case first =>
  have H := HC8.out
  clear HC8
  by_cases c18 : (wrap64 (t220 * t221)) < 0
  rotate_left
  ·rw [if_neg c18] at H
   have c18b0 : decide ((wrap64 (t220 * t221)) < 0) = false := decide_eq_false c18
   clear c18
   (first | rw [c18b0] | (simp only [i64_w, i32_w]; rw [c18b0]) | skip)
   have H' := Aside0.mk H
   clear H
   go_wp2
   go_meet
   case rel => exact ⟨_, (false), (by first | rfl | (simp; done) | (simp [*]; done)), H', ⟨by first | omega | exact Nat.le_refl _⟩, ⟨by (with_reducible repeat (first | refine bkN ?_ _ | refine bkD ?_ | refine bkA ?_ _)); exact BK217.out⟩, ⟨by (with_reducible repeat (first | refine bkN ?_ _ | refine bkD ?_ | refine bkA ?_ _)); exact BK218.out⟩, ⟨by (with_reducible repeat (first | refine bkN ?_ _ | refine bkD ?_ | refine bkA ?_ _)); exact BK219.out⟩, ⟨by repeat (first | (with_reducible first | exact HB.out | apply blA | apply blN | apply blD | refine blS ?_ GE217.out | refine blS ?_ GE218.out | refine blS ?_ GE219.out) | exact HB.out)⟩⟩
  rw [if_pos c18] at H
  have c18b0 : decide ((wrap64 (t220 * t221)) < 0) = true := decide_eq_true c18
  clear c18
  (first | rw [c18b0] | (simp only [i64_w, i32_w]; rw [c18b0]) | skip)
  have H' := Aside0.mk H
  clear H
  go_wp2
  go_meet
  case rel => exact ⟨_, (decide ((wrap64 (t222 * t223)) < 0)), (by first | rfl | (simp; done) | (simp [*]; done)), H', ⟨by first | omega | exact Nat.le_refl _⟩, ⟨by (with_reducible repeat (first | refine bkN ?_ _ | refine bkD ?_ | refine bkA ?_ _)); exact BK217.out⟩, ⟨by (with_reducible repeat (first | refine bkN ?_ _ | refine bkD ?_ | refine bkA ?_ _)); exact BK218.out⟩, ⟨by (with_reducible repeat (first | refine bkN ?_ _ | refine bkD ?_ | refine bkA ?_ _)); exact BK219.out⟩, ⟨by repeat (first | (with_reducible first | exact HB.out | apply blA | apply blN | apply blD | refine blS ?_ GE217.out | refine blS ?_ GE218.out | refine blS ?_ GE219.out) | exact HB.out)⟩⟩
 case rest =>
  clear HC8
  try clear c1
  try clear c2
  try clear p2
  try clear c5
  try clear p6
  try clear c18
  try clear c18b0
  obtain ⟨kq, x42_7, rfl, HA, HJ7, BK217, BK218, BK219, HB⟩ := hcut
  cases kq with
  | zero => exact absurd HA.out (by simp [hopmeshref05_Crosses.j0])
  | succ kj7 =>
   have H := HA.out
   clear HA
   simp only [hopmeshref05_Crosses.j0] at H
   by_cases c19 : x42_7 = true
   ·subst c19
    have H1 : (some true) = some r := by rw [if_pos rfl] at H; exact H
    clear H
    have H := H1
    clear H1
    obtain rfl := Option.some.inj H
    go_wp2
    go_ret
    exact ⟨by first | rfl | (simp [errW_none, errW_some] <;> rfl) | (simp [*, errW_none, errW_some] <;> rfl), by repeat (first | (with_reducible first | exact HB.out | apply blA | apply blN | apply blD | refine blS ?_ GE217.out | refine blS ?_ GE218.out | refine blS ?_ GE219.out) | exact HB.out)⟩
   replace c19 := Bool.eq_false_iff.mpr c19
   subst c19
   have H1 : (if t220 = 0 then ((hopmeshref05_within.f kj7 a0_0 a0_1 a1_0 a1_1 a2_0 a2_1).bind fun t224 => (if t224 = true then (some true) else (if t221 = 0 then ((hopmeshref05_within.f kj7 a0_0 a0_1 a1_0 a1_1 a2_2 a2_3).bind fun t225 => (if t225 = true then (some true) else (if t222 = 0 then ((hopmeshref05_within.f kj7 a2_0 a2_1 a2_2 a2_3 a0_0 a0_1).bind fun t226 => (if t226 = true then (some true) else (if t223 = 0 then ((hopmeshref05_within.f kj7 a2_0 a2_1 a2_2 a2_3 a1_0 a1_1).bind fun t227 => (some t227)) else (some false)))) else (if t223 = 0 then ((hopmeshref05_within.f kj7 a2_0 a2_1 a2_2 a2_3 a1_0 a1_1).bind fun t228 => (some t228)) else (some false))))) else (if t222 = 0 then ((hopmeshref05_within.f kj7 a2_0 a2_1 a2_2 a2_3 a0_0 a0_1).bind fun t229 => (if t229 = true then (some true) else (if t223 = 0 then ((hopmeshref05_within.f kj7 a2_0 a2_1 a2_2 a2_3 a1_0 a1_1).bind fun t230 => (some t230)) else (some false)))) else (if t223 = 0 then ((hopmeshref05_within.f kj7 a2_0 a2_1 a2_2 a2_3 a1_0 a1_1).bind fun t231 => (some t231)) else (some false)))))) else (if t221 = 0 then ((hopmeshref05_within.f kj7 a0_0 a0_1 a1_0 a1_1 a2_2 a2_3).bind fun t232 => (if t232 = true then (some true) else (if t222 = 0 then ((hopmeshref05_within.f kj7 a2_0 a2_1 a2_2 a2_3 a0_0 a0_1).bind fun t233 => (if t233 = true then (some true) else (if t223 = 0 then ((hopmeshref05_within.f kj7 a2_0 a2_1 a2_2 a2_3 a1_0 a1_1).bind fun t234 => (some t234)) else (some false)))) else (if t223 = 0 then ((hopmeshref05_within.f kj7 a2_0 a2_1 a2_2 a2_3 a1_0 a1_1).bind fun t235 => (some t235)) else (some false))))) else (if t222 = 0 then ((hopmeshref05_within.f kj7 a2_0 a2_1 a2_2 a2_3 a0_0 a0_1).bind fun t236 => (if t236 = true then (some true) else (if t223 = 0 then ((hopmeshref05_within.f kj7 a2_0 a2_1 a2_2 a2_3 a1_0 a1_1).bind fun t237 => (some t237)) else (some false)))) else (if t223 = 0 then ((hopmeshref05_within.f kj7 a2_0 a2_1 a2_2 a2_3 a1_0 a1_1).bind fun t238 => (some t238)) else (some false))))) = some r := by rw [if_neg (show ¬ (false = true) by decide)] at H; exact H
   clear H
   have H := H1
   clear H1
   by_cases c20 : t220 = 0
   rotate_left
   ·rw [if_neg c20] at H
    have c20b0 : (t220 == 0) = false := beq_eq_false_iff_ne.mpr c20
    have c20b1 : (t220 != 0) = true := bne_iff_ne.mpr c20
    by_cases c178 : t221 = 0
    rotate_left
    ·rw [if_neg c178] at H
     have c178b0 : (t221 == 0) = false := beq_eq_false_iff_ne.mpr c178
     have c178b1 : (t221 != 0) = true := bne_iff_ne.mpr c178
     by_cases c245 : t222 = 0
     rotate_left
     ·rw [if_neg c245] at H
      have c245b0 : (t222 == 0) = false := beq_eq_false_iff_ne.mpr c245
      have c245b1 : (t222 != 0) = true := bne_iff_ne.mpr c245
      by_cases c271 : t223 = 0
      rotate_left
      ·rw [if_neg c271] at H
       have c271b0 : (t223 == 0) = false := beq_eq_false_iff_ne.mpr c271
       have c271b1 : (t223 != 0) = true := bne_iff_ne.mpr c271
       obtain rfl := Option.some.inj H
       go_wp2
       go_ret
       exact ⟨by first | rfl | (simp [errW_none, errW_some] <;> rfl) | (simp [*, errW_none, errW_some] <;> rfl), by repeat (first | (with_reducible first | exact HB.out | apply blA | apply blN | apply blD | refine blS ?_ GE217.out | refine blS ?_ GE218.out | refine blS ?_ GE219.out) | exact HB.out)⟩

      rw [if_pos c271] at H
      have c271b0 : (t223 == 0) = true := beq_iff_eq.mpr c271
      have c271b1 : (t223 != 0) = false := bne_eq_false_iff_eq.mpr c271
      clear c271
      replace H := Option.bind_eq_some_iff.mp H
      obtain ⟨t238, A2720, H⟩ := H
      replace H : (some t238) = some r := H
      have A272 := Aside0.mk A2720
      clear A2720
      obtain rfl := Option.some.inj H
      have hnb273 := NB219_217.out
      have hnc273 := NB217_219.out
      have hnb274 := NB219_218.out
      have hnc274 := NB218_219.out
      have hcz275_0 : wc.cell? ⟨gb219, 0, none⟩ = some (.int .i64 a2_0) := (bkC BK219.out 0).trans rfl
      have hcz275_1 : wc.cell? ⟨gb219, 1, none⟩ = some (.int .i64 a2_1) := (bkC BK219.out 1).trans rfl
      have hcz275_2 : wc.cell? ⟨gb219, 2, none⟩ = some (.int .i64 a2_2) := (bkC BK219.out 2).trans rfl
      have hcz275_3 : wc.cell? ⟨gb219, 3, none⟩ = some (.int .i64 a2_3) := (bkC BK219.out 3).trans rfl
      have hcz275_4 : wc.cell? ⟨gb219, 4, none⟩ = some (.int .i64 a2_4) := (bkC BK219.out 4).trans rfl
      have hfz275_0 := bkF BK219.out 0
      have hfz275_1 := bkF BK219.out 1
      have hfz275_2 := bkF BK219.out 2
      have hfz275_3 := bkF BK219.out 3
      have hfz275_4 := bkF BK219.out 4
      have hnb276 := NB218_217.out
      have hnc276 := NB217_218.out
      have hcz277_0 : wc.cell? ⟨gb218, 0, none⟩ = some (.int .i64 a1_0) := (bkC BK218.out 0).trans rfl
      have hcz277_1 : wc.cell? ⟨gb218, 1, none⟩ = some (.int .i64 a1_1) := (bkC BK218.out 1).trans rfl
      have hfz277_0 := bkF BK218.out 0
      have hfz277_1 := bkF BK218.out 1
      go_wp2_with (first | (go_at_call 57; (with_reducible refine (hopmeshref05_within.calls kj7 a2_0 a2_1 a2_2 a2_3 a1_0 a1_1 t238 _ A272.out).mono ?_); rintro e w278 ⟨rfl, hb⟩; have n0_ := Aside0.mk (bkB (g := gb217) (o := .cells #[.int .i64 a0_0, .int .i64 a0_1] 28 (0, 0)) (by (with_reducible repeat (first | refine bkN ?_ _ | refine bkD ?_ | refine bkA ?_ _)); exact BK217.out) hb); have n1_ := Aside0.mk (bkB (g := gb218) (o := .cells #[.int .i64 a1_0, .int .i64 a1_1] 28 (0, 0)) (by (with_reducible repeat (first | refine bkN ?_ _ | refine bkD ?_ | refine bkA ?_ _)); exact BK218.out) hb); have n2_ := Aside0.mk (bkB (g := gb219) (o := .cells #[.int .i64 a2_0, .int .i64 a2_1, .int .i64 a2_2, .int .i64 a2_3, .int .i64 a2_4] 47 (0, 0)) (by (with_reducible repeat (first | refine bkN ?_ _ | refine bkD ?_ | refine bkA ?_ _)); exact BK219.out) hb); have n3_ := Aside0.mk (below_step (by repeat (first | (with_reducible first | exact HB.out | apply blA | apply blN | apply blD | refine blS ?_ GE217.out | refine blS ?_ GE218.out | refine blS ?_ GE219.out) | exact HB.out)) hb); clear BK217; clear BK218; clear BK219; clear HB; have BK217 := n0_; have BK218 := n1_; have BK219 := n2_; have HB := n3_; clear n0_ n1_ n2_ n3_; (try clear hb); (try clear hb2); (try clear hk); (try clear hi)))
      go_ret
      exact ⟨by first | rfl | (simp [errW_none, errW_some] <;> rfl) | (simp [*, errW_none, errW_some] <;> rfl), by repeat (first | (with_reducible first | exact HB.out | apply blA | apply blN | apply blD | refine blS ?_ GE217.out | refine blS ?_ GE218.out | refine blS ?_ GE219.out) | exact HB.out)⟩
     rw [if_pos c245] at H
     have c245b0 : (t222 == 0) = true := beq_iff_eq.mpr c245
     have c245b1 : (t222 != 0) = false := bne_eq_false_iff_eq.mpr c245
     clear c245
     replace H := Option.bind_eq_some_iff.mp H
     obtain ⟨t236, A2460, H⟩ := H
     replace H : (if t236 = true then (some true) else (if t223 = 0 then ((hopmeshref05_within.f kj7 a2_0 a2_1 a2_2 a2_3 a1_0 a1_1).bind fun t237 => (some t237)) else (some false))) = some r := H
     have A246 := Aside0.mk A2460
     clear A2460
     by_cases c247 : t236 = true
     ·subst c247
      have H1 : (some true) = some r := by rw [if_pos rfl] at H; exact H
      clear H
      have H := H1
      clear H1
      obtain rfl := Option.some.inj H
      have hnb248 := NB219_217.out
      have hnc248 := NB217_219.out
      have hnb249 := NB219_218.out
      have hnc249 := NB218_219.out
      have hcz250_0 : wc.cell? ⟨gb219, 0, none⟩ = some (.int .i64 a2_0) := (bkC BK219.out 0).trans rfl
      have hcz250_1 : wc.cell? ⟨gb219, 1, none⟩ = some (.int .i64 a2_1) := (bkC BK219.out 1).trans rfl
      have hcz250_2 : wc.cell? ⟨gb219, 2, none⟩ = some (.int .i64 a2_2) := (bkC BK219.out 2).trans rfl
      have hcz250_3 : wc.cell? ⟨gb219, 3, none⟩ = some (.int .i64 a2_3) := (bkC BK219.out 3).trans rfl
      have hcz250_4 : wc.cell? ⟨gb219, 4, none⟩ = some (.int .i64 a2_4) := (bkC BK219.out 4).trans rfl
      have hfz250_0 := bkF BK219.out 0
      have hfz250_1 := bkF BK219.out 1
      have hfz250_2 := bkF BK219.out 2
      have hfz250_3 := bkF BK219.out 3
      have hfz250_4 := bkF BK219.out 4
      have hnb251 := NB217_218.out
      have hnc251 := NB218_217.out
      have hcz252_0 : wc.cell? ⟨gb217, 0, none⟩ = some (.int .i64 a0_0) := (bkC BK217.out 0).trans rfl
      have hcz252_1 : wc.cell? ⟨gb217, 1, none⟩ = some (.int .i64 a0_1) := (bkC BK217.out 1).trans rfl
      have hfz252_0 := bkF BK217.out 0
      have hfz252_1 := bkF BK217.out 1
      go_wp2_with (first | (go_at_call 57; (with_reducible refine (hopmeshref05_within.calls kj7 a2_0 a2_1 a2_2 a2_3 a0_0 a0_1 true _ A246.out).mono ?_); rintro e w253 ⟨rfl, hb⟩; have n0_ := Aside0.mk (bkB (g := gb217) (o := .cells #[.int .i64 a0_0, .int .i64 a0_1] 28 (0, 0)) (by (with_reducible repeat (first | refine bkN ?_ _ | refine bkD ?_ | refine bkA ?_ _)); exact BK217.out) hb); have n1_ := Aside0.mk (bkB (g := gb218) (o := .cells #[.int .i64 a1_0, .int .i64 a1_1] 28 (0, 0)) (by (with_reducible repeat (first | refine bkN ?_ _ | refine bkD ?_ | refine bkA ?_ _)); exact BK218.out) hb); have n2_ := Aside0.mk (bkB (g := gb219) (o := .cells #[.int .i64 a2_0, .int .i64 a2_1, .int .i64 a2_2, .int .i64 a2_3, .int .i64 a2_4] 47 (0, 0)) (by (with_reducible repeat (first | refine bkN ?_ _ | refine bkD ?_ | refine bkA ?_ _)); exact BK219.out) hb); have n3_ := Aside0.mk (below_step (by repeat (first | (with_reducible first | exact HB.out | apply blA | apply blN | apply blD | refine blS ?_ GE217.out | refine blS ?_ GE218.out | refine blS ?_ GE219.out) | exact HB.out)) hb); clear BK217; clear BK218; clear BK219; clear HB; have BK217 := n0_; have BK218 := n1_; have BK219 := n2_; have HB := n3_; clear n0_ n1_ n2_ n3_; (try clear hb); (try clear hb2); (try clear hk); (try clear hi)))
      go_ret
      exact ⟨by first | rfl | (simp [errW_none, errW_some] <;> rfl) | (simp [*, errW_none, errW_some] <;> rfl), by repeat (first | (with_reducible first | exact HB.out | apply blA | apply blN | apply blD | refine blS ?_ GE217.out | refine blS ?_ GE218.out | refine blS ?_ GE219.out) | exact HB.out)⟩
     replace c247 := Bool.eq_false_iff.mpr c247
     subst c247
     have H1 : (if t223 = 0 then ((hopmeshref05_within.f kj7 a2_0 a2_1 a2_2 a2_3 a1_0 a1_1).bind fun t237 => (some t237)) else (some false)) = some r := by rw [if_neg (show ¬ (false = true) by decide)] at H; exact H
     clear H
     have H := H1
     clear H1
     by_cases c254 : t223 = 0
     rotate_left
     ·rw [if_neg c254] at H
      have c254b0 : (t223 == 0) = false := beq_eq_false_iff_ne.mpr c254
      have c254b1 : (t223 != 0) = true := bne_iff_ne.mpr c254
      obtain rfl := Option.some.inj H
      have hnb265 := NB219_217.out
      have hnc265 := NB217_219.out
      have hnb266 := NB219_218.out
      have hnc266 := NB218_219.out
      have hcz267_0 : wc.cell? ⟨gb219, 0, none⟩ = some (.int .i64 a2_0) := (bkC BK219.out 0).trans rfl
      have hcz267_1 : wc.cell? ⟨gb219, 1, none⟩ = some (.int .i64 a2_1) := (bkC BK219.out 1).trans rfl
      have hcz267_2 : wc.cell? ⟨gb219, 2, none⟩ = some (.int .i64 a2_2) := (bkC BK219.out 2).trans rfl
      have hcz267_3 : wc.cell? ⟨gb219, 3, none⟩ = some (.int .i64 a2_3) := (bkC BK219.out 3).trans rfl
      have hcz267_4 : wc.cell? ⟨gb219, 4, none⟩ = some (.int .i64 a2_4) := (bkC BK219.out 4).trans rfl
      have hfz267_0 := bkF BK219.out 0
      have hfz267_1 := bkF BK219.out 1
      have hfz267_2 := bkF BK219.out 2
      have hfz267_3 := bkF BK219.out 3
      have hfz267_4 := bkF BK219.out 4
      have hnb268 := NB217_218.out
      have hnc268 := NB218_217.out
      have hcz269_0 : wc.cell? ⟨gb217, 0, none⟩ = some (.int .i64 a0_0) := (bkC BK217.out 0).trans rfl
      have hcz269_1 : wc.cell? ⟨gb217, 1, none⟩ = some (.int .i64 a0_1) := (bkC BK217.out 1).trans rfl
      have hfz269_0 := bkF BK217.out 0
      have hfz269_1 := bkF BK217.out 1
      go_wp2_with (first | (go_at_call 57; (with_reducible refine (hopmeshref05_within.calls kj7 a2_0 a2_1 a2_2 a2_3 a0_0 a0_1 false _ A246.out).mono ?_); rintro e w270 ⟨rfl, hb⟩; have n0_ := Aside0.mk (bkB (g := gb217) (o := .cells #[.int .i64 a0_0, .int .i64 a0_1] 28 (0, 0)) (by (with_reducible repeat (first | refine bkN ?_ _ | refine bkD ?_ | refine bkA ?_ _)); exact BK217.out) hb); have n1_ := Aside0.mk (bkB (g := gb218) (o := .cells #[.int .i64 a1_0, .int .i64 a1_1] 28 (0, 0)) (by (with_reducible repeat (first | refine bkN ?_ _ | refine bkD ?_ | refine bkA ?_ _)); exact BK218.out) hb); have n2_ := Aside0.mk (bkB (g := gb219) (o := .cells #[.int .i64 a2_0, .int .i64 a2_1, .int .i64 a2_2, .int .i64 a2_3, .int .i64 a2_4] 47 (0, 0)) (by (with_reducible repeat (first | refine bkN ?_ _ | refine bkD ?_ | refine bkA ?_ _)); exact BK219.out) hb); have n3_ := Aside0.mk (below_step (by repeat (first | (with_reducible first | exact HB.out | apply blA | apply blN | apply blD | refine blS ?_ GE217.out | refine blS ?_ GE218.out | refine blS ?_ GE219.out) | exact HB.out)) hb); clear BK217; clear BK218; clear BK219; clear HB; have BK217 := n0_; have BK218 := n1_; have BK219 := n2_; have HB := n3_; clear n0_ n1_ n2_ n3_; (try clear hb); (try clear hb2); (try clear hk); (try clear hi)))
      go_ret
      exact ⟨by first | rfl | (simp [errW_none, errW_some] <;> rfl) | (simp [*, errW_none, errW_some] <;> rfl), by repeat (first | (with_reducible first | exact HB.out | apply blA | apply blN | apply blD | refine blS ?_ GE217.out | refine blS ?_ GE218.out | refine blS ?_ GE219.out) | exact HB.out)⟩
     rw [if_pos c254] at H
     have c254b0 : (t223 == 0) = true := beq_iff_eq.mpr c254
     have c254b1 : (t223 != 0) = false := bne_eq_false_iff_eq.mpr c254
     clear c254
     replace H := Option.bind_eq_some_iff.mp H
     obtain ⟨t237, A2550, H⟩ := H
     replace H : (some t237) = some r := H
     have A255 := Aside0.mk A2550
     clear A2550
     obtain rfl := Option.some.inj H
     have hnb256 := NB219_217.out
     have hnc256 := NB217_219.out
     have hnb257 := NB219_218.out
     have hnc257 := NB218_219.out
     have hcz258_0 : wc.cell? ⟨gb219, 0, none⟩ = some (.int .i64 a2_0) := (bkC BK219.out 0).trans rfl
     have hcz258_1 : wc.cell? ⟨gb219, 1, none⟩ = some (.int .i64 a2_1) := (bkC BK219.out 1).trans rfl
     have hcz258_2 : wc.cell? ⟨gb219, 2, none⟩ = some (.int .i64 a2_2) := (bkC BK219.out 2).trans rfl
     have hcz258_3 : wc.cell? ⟨gb219, 3, none⟩ = some (.int .i64 a2_3) := (bkC BK219.out 3).trans rfl
     have hcz258_4 : wc.cell? ⟨gb219, 4, none⟩ = some (.int .i64 a2_4) := (bkC BK219.out 4).trans rfl
     have hfz258_0 := bkF BK219.out 0
     have hfz258_1 := bkF BK219.out 1
     have hfz258_2 := bkF BK219.out 2
     have hfz258_3 := bkF BK219.out 3
     have hfz258_4 := bkF BK219.out 4
     have hnb259 := NB217_218.out
     have hnc259 := NB218_217.out
     have hcz260_0 : wc.cell? ⟨gb217, 0, none⟩ = some (.int .i64 a0_0) := (bkC BK217.out 0).trans rfl
     have hcz260_1 : wc.cell? ⟨gb217, 1, none⟩ = some (.int .i64 a0_1) := (bkC BK217.out 1).trans rfl
     have hfz260_0 := bkF BK217.out 0
     have hfz260_1 := bkF BK217.out 1
     go_wp2_with (first | (go_at_call 57; (with_reducible refine (hopmeshref05_within.calls kj7 a2_0 a2_1 a2_2 a2_3 a0_0 a0_1 false _ A246.out).mono ?_); rintro e w261 ⟨rfl, hb⟩; have n0_ := Aside0.mk (bkB (g := gb217) (o := .cells #[.int .i64 a0_0, .int .i64 a0_1] 28 (0, 0)) (by (with_reducible repeat (first | refine bkN ?_ _ | refine bkD ?_ | refine bkA ?_ _)); exact BK217.out) hb); have n1_ := Aside0.mk (bkB (g := gb218) (o := .cells #[.int .i64 a1_0, .int .i64 a1_1] 28 (0, 0)) (by (with_reducible repeat (first | refine bkN ?_ _ | refine bkD ?_ | refine bkA ?_ _)); exact BK218.out) hb); have n2_ := Aside0.mk (bkB (g := gb219) (o := .cells #[.int .i64 a2_0, .int .i64 a2_1, .int .i64 a2_2, .int .i64 a2_3, .int .i64 a2_4] 47 (0, 0)) (by (with_reducible repeat (first | refine bkN ?_ _ | refine bkD ?_ | refine bkA ?_ _)); exact BK219.out) hb); have n3_ := Aside0.mk (below_step (by repeat (first | (with_reducible first | exact HB.out | apply blA | apply blN | apply blD | refine blS ?_ GE217.out | refine blS ?_ GE218.out | refine blS ?_ GE219.out) | exact HB.out)) hb); clear BK217; clear BK218; clear BK219; clear HB; have BK217 := n0_; have BK218 := n1_; have BK219 := n2_; have HB := n3_; clear n0_ n1_ n2_ n3_; (try clear hb); (try clear hb2); (try clear hk); (try clear hi); have hcz262_0 : w261.cell? ⟨gb219, 0, none⟩ = some (.int .i64 a2_0) := (bkC BK219.out 0).trans rfl; have hcz262_1 : w261.cell? ⟨gb219, 1, none⟩ = some (.int .i64 a2_1) := (bkC BK219.out 1).trans rfl; have hcz262_2 : w261.cell? ⟨gb219, 2, none⟩ = some (.int .i64 a2_2) := (bkC BK219.out 2).trans rfl; have hcz262_3 : w261.cell? ⟨gb219, 3, none⟩ = some (.int .i64 a2_3) := (bkC BK219.out 3).trans rfl; have hcz262_4 : w261.cell? ⟨gb219, 4, none⟩ = some (.int .i64 a2_4) := (bkC BK219.out 4).trans rfl; have hfz262_0 := bkF BK219.out 0; have hfz262_1 := bkF BK219.out 1; have hfz262_2 := bkF BK219.out 2; have hfz262_3 := bkF BK219.out 3; have hfz262_4 := bkF BK219.out 4; have hcz263_0 : w261.cell? ⟨gb218, 0, none⟩ = some (.int .i64 a1_0) := (bkC BK218.out 0).trans rfl; have hcz263_1 : w261.cell? ⟨gb218, 1, none⟩ = some (.int .i64 a1_1) := (bkC BK218.out 1).trans rfl; have hfz263_0 := bkF BK218.out 0; have hfz263_1 := bkF BK218.out 1) | (go_at_call 57; (with_reducible refine (hopmeshref05_within.calls kj7 a2_0 a2_1 a2_2 a2_3 a1_0 a1_1 t237 _ A255.out).mono ?_); rintro e w264 ⟨rfl, hb⟩; have n0_ := Aside0.mk (bkB (g := gb217) (o := .cells #[.int .i64 a0_0, .int .i64 a0_1] 28 (0, 0)) (by (with_reducible repeat (first | refine bkN ?_ _ | refine bkD ?_ | refine bkA ?_ _)); exact BK217.out) hb); have n1_ := Aside0.mk (bkB (g := gb218) (o := .cells #[.int .i64 a1_0, .int .i64 a1_1] 28 (0, 0)) (by (with_reducible repeat (first | refine bkN ?_ _ | refine bkD ?_ | refine bkA ?_ _)); exact BK218.out) hb); have n2_ := Aside0.mk (bkB (g := gb219) (o := .cells #[.int .i64 a2_0, .int .i64 a2_1, .int .i64 a2_2, .int .i64 a2_3, .int .i64 a2_4] 47 (0, 0)) (by (with_reducible repeat (first | refine bkN ?_ _ | refine bkD ?_ | refine bkA ?_ _)); exact BK219.out) hb); have n3_ := Aside0.mk (below_step (by repeat (first | (with_reducible first | exact HB.out | apply blA | apply blN | apply blD | refine blS ?_ GE217.out | refine blS ?_ GE218.out | refine blS ?_ GE219.out) | exact HB.out)) hb); clear BK217; clear BK218; clear BK219; clear HB; have BK217 := n0_; have BK218 := n1_; have BK219 := n2_; have HB := n3_; clear n0_ n1_ n2_ n3_; (try clear hb); (try clear hb2); (try clear hk); (try clear hi)))
     go_ret
     exact ⟨by first | rfl | (simp [errW_none, errW_some] <;> rfl) | (simp [*, errW_none, errW_some] <;> rfl), by repeat (first | (with_reducible first | exact HB.out | apply blA | apply blN | apply blD | refine blS ?_ GE217.out | refine blS ?_ GE218.out | refine blS ?_ GE219.out) | exact HB.out)⟩
    rw [if_pos c178] at H
    have c178b0 : (t221 == 0) = true := beq_iff_eq.mpr c178
    have c178b1 : (t221 != 0) = false := bne_eq_false_iff_eq.mpr c178
    clear c178
    replace H := Option.bind_eq_some_iff.mp H
    obtain ⟨t232, A1790, H⟩ := H
    replace H : (if t232 = true then (some true) else (if t222 = 0 then ((hopmeshref05_within.f kj7 a2_0 a2_1 a2_2 a2_3 a0_0 a0_1).bind fun t233 => (if t233 = true then (some true) else (if t223 = 0 then ((hopmeshref05_within.f kj7 a2_0 a2_1 a2_2 a2_3 a1_0 a1_1).bind fun t234 => (some t234)) else (some false)))) else (if t223 = 0 then ((hopmeshref05_within.f kj7 a2_0 a2_1 a2_2 a2_3 a1_0 a1_1).bind fun t235 => (some t235)) else (some false)))) = some r := H
    have A179 := Aside0.mk A1790
    clear A1790
    by_cases c180 : t232 = true
    ·subst c180
     have H1 : (some true) = some r := by rw [if_pos rfl] at H; exact H
     clear H
     have H := H1
     clear H1
     obtain rfl := Option.some.inj H
     have hnb181 := NB217_218.out
     have hnc181 := NB218_217.out
     have hnb182 := NB217_219.out
     have hnc182 := NB219_217.out
     have hcz183_0 : wc.cell? ⟨gb217, 0, none⟩ = some (.int .i64 a0_0) := (bkC BK217.out 0).trans rfl
     have hcz183_1 : wc.cell? ⟨gb217, 1, none⟩ = some (.int .i64 a0_1) := (bkC BK217.out 1).trans rfl
     have hfz183_0 := bkF BK217.out 0
     have hfz183_1 := bkF BK217.out 1
     have hnb184 := NB218_219.out
     have hnc184 := NB219_218.out
     have hcz185_0 : wc.cell? ⟨gb218, 0, none⟩ = some (.int .i64 a1_0) := (bkC BK218.out 0).trans rfl
     have hcz185_1 : wc.cell? ⟨gb218, 1, none⟩ = some (.int .i64 a1_1) := (bkC BK218.out 1).trans rfl
     have hfz185_0 := bkF BK218.out 0
     have hfz185_1 := bkF BK218.out 1
     have hcz186_0 : wc.cell? ⟨gb219, 0, none⟩ = some (.int .i64 a2_0) := (bkC BK219.out 0).trans rfl
     have hcz186_1 : wc.cell? ⟨gb219, 1, none⟩ = some (.int .i64 a2_1) := (bkC BK219.out 1).trans rfl
     have hcz186_2 : wc.cell? ⟨gb219, 2, none⟩ = some (.int .i64 a2_2) := (bkC BK219.out 2).trans rfl
     have hcz186_3 : wc.cell? ⟨gb219, 3, none⟩ = some (.int .i64 a2_3) := (bkC BK219.out 3).trans rfl
     have hcz186_4 : wc.cell? ⟨gb219, 4, none⟩ = some (.int .i64 a2_4) := (bkC BK219.out 4).trans rfl
     have hfz186_0 := bkF BK219.out 0
     have hfz186_1 := bkF BK219.out 1
     have hfz186_2 := bkF BK219.out 2
     have hfz186_3 := bkF BK219.out 3
     have hfz186_4 := bkF BK219.out 4
     go_wp2_with (first | (go_at_call 57; (with_reducible refine (hopmeshref05_within.calls kj7 a0_0 a0_1 a1_0 a1_1 a2_2 a2_3 true _ A179.out).mono ?_); rintro e w187 ⟨rfl, hb⟩; have n0_ := Aside0.mk (bkB (g := gb217) (o := .cells #[.int .i64 a0_0, .int .i64 a0_1] 28 (0, 0)) (by (with_reducible repeat (first | refine bkN ?_ _ | refine bkD ?_ | refine bkA ?_ _)); exact BK217.out) hb); have n1_ := Aside0.mk (bkB (g := gb218) (o := .cells #[.int .i64 a1_0, .int .i64 a1_1] 28 (0, 0)) (by (with_reducible repeat (first | refine bkN ?_ _ | refine bkD ?_ | refine bkA ?_ _)); exact BK218.out) hb); have n2_ := Aside0.mk (bkB (g := gb219) (o := .cells #[.int .i64 a2_0, .int .i64 a2_1, .int .i64 a2_2, .int .i64 a2_3, .int .i64 a2_4] 47 (0, 0)) (by (with_reducible repeat (first | refine bkN ?_ _ | refine bkD ?_ | refine bkA ?_ _)); exact BK219.out) hb); have n3_ := Aside0.mk (below_step (by repeat (first | (with_reducible first | exact HB.out | apply blA | apply blN | apply blD | refine blS ?_ GE217.out | refine blS ?_ GE218.out | refine blS ?_ GE219.out) | exact HB.out)) hb); clear BK217; clear BK218; clear BK219; clear HB; have BK217 := n0_; have BK218 := n1_; have BK219 := n2_; have HB := n3_; clear n0_ n1_ n2_ n3_; (try clear hb); (try clear hb2); (try clear hk); (try clear hi)))
     go_ret
     exact ⟨by first | rfl | (simp [errW_none, errW_some] <;> rfl) | (simp [*, errW_none, errW_some] <;> rfl), by repeat (first | (with_reducible first | exact HB.out | apply blA | apply blN | apply blD | refine blS ?_ GE217.out | refine blS ?_ GE218.out | refine blS ?_ GE219.out) | exact HB.out)⟩
    replace c180 := Bool.eq_false_iff.mpr c180
    subst c180
    have H1 : (if t222 = 0 then ((hopmeshref05_within.f kj7 a2_0 a2_1 a2_2 a2_3 a0_0 a0_1).bind fun t233 => (if t233 = true then (some true) else (if t223 = 0 then ((hopmeshref05_within.f kj7 a2_0 a2_1 a2_2 a2_3 a1_0 a1_1).bind fun t234 => (some t234)) else (some false)))) else (if t223 = 0 then ((hopmeshref05_within.f kj7 a2_0 a2_1 a2_2 a2_3 a1_0 a1_1).bind fun t235 => (some t235)) else (some false))) = some r := by rw [if_neg (show ¬ (false = true) by decide)] at H; exact H
    clear H
    have H := H1
    clear H1
    by_cases c188 : t222 = 0
    rotate_left
    ·rw [if_neg c188] at H
     have c188b0 : (t222 == 0) = false := beq_eq_false_iff_ne.mpr c188
     have c188b1 : (t222 != 0) = true := bne_iff_ne.mpr c188
     by_cases c226 : t223 = 0
     rotate_left
     ·rw [if_neg c226] at H
      have c226b0 : (t223 == 0) = false := beq_eq_false_iff_ne.mpr c226
      have c226b1 : (t223 != 0) = true := bne_iff_ne.mpr c226
      obtain rfl := Option.some.inj H
      have hnb238 := NB217_218.out
      have hnc238 := NB218_217.out
      have hnb239 := NB217_219.out
      have hnc239 := NB219_217.out
      have hcz240_0 : wc.cell? ⟨gb217, 0, none⟩ = some (.int .i64 a0_0) := (bkC BK217.out 0).trans rfl
      have hcz240_1 : wc.cell? ⟨gb217, 1, none⟩ = some (.int .i64 a0_1) := (bkC BK217.out 1).trans rfl
      have hfz240_0 := bkF BK217.out 0
      have hfz240_1 := bkF BK217.out 1
      have hnb241 := NB218_219.out
      have hnc241 := NB219_218.out
      have hcz242_0 : wc.cell? ⟨gb218, 0, none⟩ = some (.int .i64 a1_0) := (bkC BK218.out 0).trans rfl
      have hcz242_1 : wc.cell? ⟨gb218, 1, none⟩ = some (.int .i64 a1_1) := (bkC BK218.out 1).trans rfl
      have hfz242_0 := bkF BK218.out 0
      have hfz242_1 := bkF BK218.out 1
      have hcz243_0 : wc.cell? ⟨gb219, 0, none⟩ = some (.int .i64 a2_0) := (bkC BK219.out 0).trans rfl
      have hcz243_1 : wc.cell? ⟨gb219, 1, none⟩ = some (.int .i64 a2_1) := (bkC BK219.out 1).trans rfl
      have hcz243_2 : wc.cell? ⟨gb219, 2, none⟩ = some (.int .i64 a2_2) := (bkC BK219.out 2).trans rfl
      have hcz243_3 : wc.cell? ⟨gb219, 3, none⟩ = some (.int .i64 a2_3) := (bkC BK219.out 3).trans rfl
      have hcz243_4 : wc.cell? ⟨gb219, 4, none⟩ = some (.int .i64 a2_4) := (bkC BK219.out 4).trans rfl
      have hfz243_0 := bkF BK219.out 0
      have hfz243_1 := bkF BK219.out 1
      have hfz243_2 := bkF BK219.out 2
      have hfz243_3 := bkF BK219.out 3
      have hfz243_4 := bkF BK219.out 4
      go_wp2_with (first | (go_at_call 57; (with_reducible refine (hopmeshref05_within.calls kj7 a0_0 a0_1 a1_0 a1_1 a2_2 a2_3 false _ A179.out).mono ?_); rintro e w244 ⟨rfl, hb⟩; have n0_ := Aside0.mk (bkB (g := gb217) (o := .cells #[.int .i64 a0_0, .int .i64 a0_1] 28 (0, 0)) (by (with_reducible repeat (first | refine bkN ?_ _ | refine bkD ?_ | refine bkA ?_ _)); exact BK217.out) hb); have n1_ := Aside0.mk (bkB (g := gb218) (o := .cells #[.int .i64 a1_0, .int .i64 a1_1] 28 (0, 0)) (by (with_reducible repeat (first | refine bkN ?_ _ | refine bkD ?_ | refine bkA ?_ _)); exact BK218.out) hb); have n2_ := Aside0.mk (bkB (g := gb219) (o := .cells #[.int .i64 a2_0, .int .i64 a2_1, .int .i64 a2_2, .int .i64 a2_3, .int .i64 a2_4] 47 (0, 0)) (by (with_reducible repeat (first | refine bkN ?_ _ | refine bkD ?_ | refine bkA ?_ _)); exact BK219.out) hb); have n3_ := Aside0.mk (below_step (by repeat (first | (with_reducible first | exact HB.out | apply blA | apply blN | apply blD | refine blS ?_ GE217.out | refine blS ?_ GE218.out | refine blS ?_ GE219.out) | exact HB.out)) hb); clear BK217; clear BK218; clear BK219; clear HB; have BK217 := n0_; have BK218 := n1_; have BK219 := n2_; have HB := n3_; clear n0_ n1_ n2_ n3_; (try clear hb); (try clear hb2); (try clear hk); (try clear hi)))
      go_ret
      exact ⟨by first | rfl | (simp [errW_none, errW_some] <;> rfl) | (simp [*, errW_none, errW_some] <;> rfl), by repeat (first | (with_reducible first | exact HB.out | apply blA | apply blN | apply blD | refine blS ?_ GE217.out | refine blS ?_ GE218.out | refine blS ?_ GE219.out) | exact HB.out)⟩
     rw [if_pos c226] at H
     have c226b0 : (t223 == 0) = true := beq_iff_eq.mpr c226
     have c226b1 : (t223 != 0) = false := bne_eq_false_iff_eq.mpr c226
     clear c226
     replace H := Option.bind_eq_some_iff.mp H
     obtain ⟨t235, A2270, H⟩ := H
     replace H : (some t235) = some r := H
     have A227 := Aside0.mk A2270
     clear A2270
     obtain rfl := Option.some.inj H
     have hnb228 := NB217_218.out
     have hnc228 := NB218_217.out
     have hnb229 := NB217_219.out
     have hnc229 := NB219_217.out
     have hcz230_0 : wc.cell? ⟨gb217, 0, none⟩ = some (.int .i64 a0_0) := (bkC BK217.out 0).trans rfl
     have hcz230_1 : wc.cell? ⟨gb217, 1, none⟩ = some (.int .i64 a0_1) := (bkC BK217.out 1).trans rfl
     have hfz230_0 := bkF BK217.out 0
     have hfz230_1 := bkF BK217.out 1
     have hnb231 := NB218_219.out
     have hnc231 := NB219_218.out
     have hcz232_0 : wc.cell? ⟨gb218, 0, none⟩ = some (.int .i64 a1_0) := (bkC BK218.out 0).trans rfl
     have hcz232_1 : wc.cell? ⟨gb218, 1, none⟩ = some (.int .i64 a1_1) := (bkC BK218.out 1).trans rfl
     have hfz232_0 := bkF BK218.out 0
     have hfz232_1 := bkF BK218.out 1
     have hcz233_0 : wc.cell? ⟨gb219, 0, none⟩ = some (.int .i64 a2_0) := (bkC BK219.out 0).trans rfl
     have hcz233_1 : wc.cell? ⟨gb219, 1, none⟩ = some (.int .i64 a2_1) := (bkC BK219.out 1).trans rfl
     have hcz233_2 : wc.cell? ⟨gb219, 2, none⟩ = some (.int .i64 a2_2) := (bkC BK219.out 2).trans rfl
     have hcz233_3 : wc.cell? ⟨gb219, 3, none⟩ = some (.int .i64 a2_3) := (bkC BK219.out 3).trans rfl
     have hcz233_4 : wc.cell? ⟨gb219, 4, none⟩ = some (.int .i64 a2_4) := (bkC BK219.out 4).trans rfl
     have hfz233_0 := bkF BK219.out 0
     have hfz233_1 := bkF BK219.out 1
     have hfz233_2 := bkF BK219.out 2
     have hfz233_3 := bkF BK219.out 3
     have hfz233_4 := bkF BK219.out 4
     go_wp2_with (first | (go_at_call 57; (with_reducible refine (hopmeshref05_within.calls kj7 a0_0 a0_1 a1_0 a1_1 a2_2 a2_3 false _ A179.out).mono ?_); rintro e w234 ⟨rfl, hb⟩; have n0_ := Aside0.mk (bkB (g := gb217) (o := .cells #[.int .i64 a0_0, .int .i64 a0_1] 28 (0, 0)) (by (with_reducible repeat (first | refine bkN ?_ _ | refine bkD ?_ | refine bkA ?_ _)); exact BK217.out) hb); have n1_ := Aside0.mk (bkB (g := gb218) (o := .cells #[.int .i64 a1_0, .int .i64 a1_1] 28 (0, 0)) (by (with_reducible repeat (first | refine bkN ?_ _ | refine bkD ?_ | refine bkA ?_ _)); exact BK218.out) hb); have n2_ := Aside0.mk (bkB (g := gb219) (o := .cells #[.int .i64 a2_0, .int .i64 a2_1, .int .i64 a2_2, .int .i64 a2_3, .int .i64 a2_4] 47 (0, 0)) (by (with_reducible repeat (first | refine bkN ?_ _ | refine bkD ?_ | refine bkA ?_ _)); exact BK219.out) hb); have n3_ := Aside0.mk (below_step (by repeat (first | (with_reducible first | exact HB.out | apply blA | apply blN | apply blD | refine blS ?_ GE217.out | refine blS ?_ GE218.out | refine blS ?_ GE219.out) | exact HB.out)) hb); clear BK217; clear BK218; clear BK219; clear HB; have BK217 := n0_; have BK218 := n1_; have BK219 := n2_; have HB := n3_; clear n0_ n1_ n2_ n3_; (try clear hb); (try clear hb2); (try clear hk); (try clear hi); have hcz235_0 : w234.cell? ⟨gb219, 0, none⟩ = some (.int .i64 a2_0) := (bkC BK219.out 0).trans rfl; have hcz235_1 : w234.cell? ⟨gb219, 1, none⟩ = some (.int .i64 a2_1) := (bkC BK219.out 1).trans rfl; have hcz235_2 : w234.cell? ⟨gb219, 2, none⟩ = some (.int .i64 a2_2) := (bkC BK219.out 2).trans rfl; have hcz235_3 : w234.cell? ⟨gb219, 3, none⟩ = some (.int .i64 a2_3) := (bkC BK219.out 3).trans rfl; have hcz235_4 : w234.cell? ⟨gb219, 4, none⟩ = some (.int .i64 a2_4) := (bkC BK219.out 4).trans rfl; have hfz235_0 := bkF BK219.out 0; have hfz235_1 := bkF BK219.out 1; have hfz235_2 := bkF BK219.out 2; have hfz235_3 := bkF BK219.out 3; have hfz235_4 := bkF BK219.out 4; have hcz236_0 : w234.cell? ⟨gb218, 0, none⟩ = some (.int .i64 a1_0) := (bkC BK218.out 0).trans rfl; have hcz236_1 : w234.cell? ⟨gb218, 1, none⟩ = some (.int .i64 a1_1) := (bkC BK218.out 1).trans rfl; have hfz236_0 := bkF BK218.out 0; have hfz236_1 := bkF BK218.out 1) | (go_at_call 57; (with_reducible refine (hopmeshref05_within.calls kj7 a2_0 a2_1 a2_2 a2_3 a1_0 a1_1 t235 _ A227.out).mono ?_); rintro e w237 ⟨rfl, hb⟩; have n0_ := Aside0.mk (bkB (g := gb217) (o := .cells #[.int .i64 a0_0, .int .i64 a0_1] 28 (0, 0)) (by (with_reducible repeat (first | refine bkN ?_ _ | refine bkD ?_ | refine bkA ?_ _)); exact BK217.out) hb); have n1_ := Aside0.mk (bkB (g := gb218) (o := .cells #[.int .i64 a1_0, .int .i64 a1_1] 28 (0, 0)) (by (with_reducible repeat (first | refine bkN ?_ _ | refine bkD ?_ | refine bkA ?_ _)); exact BK218.out) hb); have n2_ := Aside0.mk (bkB (g := gb219) (o := .cells #[.int .i64 a2_0, .int .i64 a2_1, .int .i64 a2_2, .int .i64 a2_3, .int .i64 a2_4] 47 (0, 0)) (by (with_reducible repeat (first | refine bkN ?_ _ | refine bkD ?_ | refine bkA ?_ _)); exact BK219.out) hb); have n3_ := Aside0.mk (below_step (by repeat (first | (with_reducible first | exact HB.out | apply blA | apply blN | apply blD | refine blS ?_ GE217.out | refine blS ?_ GE218.out | refine blS ?_ GE219.out) | exact HB.out)) hb); clear BK217; clear BK218; clear BK219; clear HB; have BK217 := n0_; have BK218 := n1_; have BK219 := n2_; have HB := n3_; clear n0_ n1_ n2_ n3_; (try clear hb); (try clear hb2); (try clear hk); (try clear hi)))
     go_ret
     exact ⟨by first | rfl | (simp [errW_none, errW_some] <;> rfl) | (simp [*, errW_none, errW_some] <;> rfl), by repeat (first | (with_reducible first | exact HB.out | apply blA | apply blN | apply blD | refine blS ?_ GE217.out | refine blS ?_ GE218.out | refine blS ?_ GE219.out) | exact HB.out)⟩
    rw [if_pos c188] at H
    have c188b0 : (t222 == 0) = true := beq_iff_eq.mpr c188
    have c188b1 : (t222 != 0) = false := bne_eq_false_iff_eq.mpr c188
    clear c188
    replace H := Option.bind_eq_some_iff.mp H
    obtain ⟨t233, A1890, H⟩ := H
    replace H : (if t233 = true then (some true) else (if t223 = 0 then ((hopmeshref05_within.f kj7 a2_0 a2_1 a2_2 a2_3 a1_0 a1_1).bind fun t234 => (some t234)) else (some false))) = some r := H
    have A189 := Aside0.mk A1890
    clear A1890
    by_cases c190 : t233 = true
    ·subst c190
     have H1 : (some true) = some r := by rw [if_pos rfl] at H; exact H
     clear H
     have H := H1
     clear H1
     obtain rfl := Option.some.inj H
     have hnb191 := NB217_218.out
     have hnc191 := NB218_217.out
     have hnb192 := NB217_219.out
     have hnc192 := NB219_217.out
     have hcz193_0 : wc.cell? ⟨gb217, 0, none⟩ = some (.int .i64 a0_0) := (bkC BK217.out 0).trans rfl
     have hcz193_1 : wc.cell? ⟨gb217, 1, none⟩ = some (.int .i64 a0_1) := (bkC BK217.out 1).trans rfl
     have hfz193_0 := bkF BK217.out 0
     have hfz193_1 := bkF BK217.out 1
     have hnb194 := NB218_219.out
     have hnc194 := NB219_218.out
     have hcz195_0 : wc.cell? ⟨gb218, 0, none⟩ = some (.int .i64 a1_0) := (bkC BK218.out 0).trans rfl
     have hcz195_1 : wc.cell? ⟨gb218, 1, none⟩ = some (.int .i64 a1_1) := (bkC BK218.out 1).trans rfl
     have hfz195_0 := bkF BK218.out 0
     have hfz195_1 := bkF BK218.out 1
     have hcz196_0 : wc.cell? ⟨gb219, 0, none⟩ = some (.int .i64 a2_0) := (bkC BK219.out 0).trans rfl
     have hcz196_1 : wc.cell? ⟨gb219, 1, none⟩ = some (.int .i64 a2_1) := (bkC BK219.out 1).trans rfl
     have hcz196_2 : wc.cell? ⟨gb219, 2, none⟩ = some (.int .i64 a2_2) := (bkC BK219.out 2).trans rfl
     have hcz196_3 : wc.cell? ⟨gb219, 3, none⟩ = some (.int .i64 a2_3) := (bkC BK219.out 3).trans rfl
     have hcz196_4 : wc.cell? ⟨gb219, 4, none⟩ = some (.int .i64 a2_4) := (bkC BK219.out 4).trans rfl
     have hfz196_0 := bkF BK219.out 0
     have hfz196_1 := bkF BK219.out 1
     have hfz196_2 := bkF BK219.out 2
     have hfz196_3 := bkF BK219.out 3
     have hfz196_4 := bkF BK219.out 4
     go_wp2_with (first | (go_at_call 57; (with_reducible refine (hopmeshref05_within.calls kj7 a0_0 a0_1 a1_0 a1_1 a2_2 a2_3 false _ A179.out).mono ?_); rintro e w197 ⟨rfl, hb⟩; have n0_ := Aside0.mk (bkB (g := gb217) (o := .cells #[.int .i64 a0_0, .int .i64 a0_1] 28 (0, 0)) (by (with_reducible repeat (first | refine bkN ?_ _ | refine bkD ?_ | refine bkA ?_ _)); exact BK217.out) hb); have n1_ := Aside0.mk (bkB (g := gb218) (o := .cells #[.int .i64 a1_0, .int .i64 a1_1] 28 (0, 0)) (by (with_reducible repeat (first | refine bkN ?_ _ | refine bkD ?_ | refine bkA ?_ _)); exact BK218.out) hb); have n2_ := Aside0.mk (bkB (g := gb219) (o := .cells #[.int .i64 a2_0, .int .i64 a2_1, .int .i64 a2_2, .int .i64 a2_3, .int .i64 a2_4] 47 (0, 0)) (by (with_reducible repeat (first | refine bkN ?_ _ | refine bkD ?_ | refine bkA ?_ _)); exact BK219.out) hb); have n3_ := Aside0.mk (below_step (by repeat (first | (with_reducible first | exact HB.out | apply blA | apply blN | apply blD | refine blS ?_ GE217.out | refine blS ?_ GE218.out | refine blS ?_ GE219.out) | exact HB.out)) hb); clear BK217; clear BK218; clear BK219; clear HB; have BK217 := n0_; have BK218 := n1_; have BK219 := n2_; have HB := n3_; clear n0_ n1_ n2_ n3_; (try clear hb); (try clear hb2); (try clear hk); (try clear hi); have hcz198_0 : w197.cell? ⟨gb219, 0, none⟩ = some (.int .i64 a2_0) := (bkC BK219.out 0).trans rfl; have hcz198_1 : w197.cell? ⟨gb219, 1, none⟩ = some (.int .i64 a2_1) := (bkC BK219.out 1).trans rfl; have hcz198_2 : w197.cell? ⟨gb219, 2, none⟩ = some (.int .i64 a2_2) := (bkC BK219.out 2).trans rfl; have hcz198_3 : w197.cell? ⟨gb219, 3, none⟩ = some (.int .i64 a2_3) := (bkC BK219.out 3).trans rfl; have hcz198_4 : w197.cell? ⟨gb219, 4, none⟩ = some (.int .i64 a2_4) := (bkC BK219.out 4).trans rfl; have hfz198_0 := bkF BK219.out 0; have hfz198_1 := bkF BK219.out 1; have hfz198_2 := bkF BK219.out 2; have hfz198_3 := bkF BK219.out 3; have hfz198_4 := bkF BK219.out 4; have hcz199_0 : w197.cell? ⟨gb217, 0, none⟩ = some (.int .i64 a0_0) := (bkC BK217.out 0).trans rfl; have hcz199_1 : w197.cell? ⟨gb217, 1, none⟩ = some (.int .i64 a0_1) := (bkC BK217.out 1).trans rfl; have hfz199_0 := bkF BK217.out 0; have hfz199_1 := bkF BK217.out 1) | (go_at_call 57; (with_reducible refine (hopmeshref05_within.calls kj7 a2_0 a2_1 a2_2 a2_3 a0_0 a0_1 true _ A189.out).mono ?_); rintro e w200 ⟨rfl, hb⟩; have n0_ := Aside0.mk (bkB (g := gb217) (o := .cells #[.int .i64 a0_0, .int .i64 a0_1] 28 (0, 0)) (by (with_reducible repeat (first | refine bkN ?_ _ | refine bkD ?_ | refine bkA ?_ _)); exact BK217.out) hb); have n1_ := Aside0.mk (bkB (g := gb218) (o := .cells #[.int .i64 a1_0, .int .i64 a1_1] 28 (0, 0)) (by (with_reducible repeat (first | refine bkN ?_ _ | refine bkD ?_ | refine bkA ?_ _)); exact BK218.out) hb); have n2_ := Aside0.mk (bkB (g := gb219) (o := .cells #[.int .i64 a2_0, .int .i64 a2_1, .int .i64 a2_2, .int .i64 a2_3, .int .i64 a2_4] 47 (0, 0)) (by (with_reducible repeat (first | refine bkN ?_ _ | refine bkD ?_ | refine bkA ?_ _)); exact BK219.out) hb); have n3_ := Aside0.mk (below_step (by repeat (first | (with_reducible first | exact HB.out | apply blA | apply blN | apply blD | refine blS ?_ GE217.out | refine blS ?_ GE218.out | refine blS ?_ GE219.out) | exact HB.out)) hb); clear BK217; clear BK218; clear BK219; clear HB; have BK217 := n0_; have BK218 := n1_; have BK219 := n2_; have HB := n3_; clear n0_ n1_ n2_ n3_; (try clear hb); (try clear hb2); (try clear hk); (try clear hi)))
     go_ret
     exact ⟨by first | rfl | (simp [errW_none, errW_some] <;> rfl) | (simp [*, errW_none, errW_some] <;> rfl), by repeat (first | (with_reducible first | exact HB.out | apply blA | apply blN | apply blD | refine blS ?_ GE217.out | refine blS ?_ GE218.out | refine blS ?_ GE219.out) | exact HB.out)⟩
    replace c190 := Bool.eq_false_iff.mpr c190
    subst c190
    have H1 : (if t223 = 0 then ((hopmeshref05_within.f kj7 a2_0 a2_1 a2_2 a2_3 a1_0 a1_1).bind fun t234 => (some t234)) else (some false)) = some r := by rw [if_neg (show ¬ (false = true) by decide)] at H; exact H
    clear H
    have H := H1
    clear H1
    by_cases c201 : t223 = 0
    rotate_left
    ·rw [if_neg c201] at H
     have c201b0 : (t223 == 0) = false := beq_eq_false_iff_ne.mpr c201
     have c201b1 : (t223 != 0) = true := bne_iff_ne.mpr c201
     obtain rfl := Option.some.inj H
     have hnb216 := NB217_218.out
     have hnc216 := NB218_217.out
     have hnb217 := NB217_219.out
     have hnc217 := NB219_217.out
     have hcz218_0 : wc.cell? ⟨gb217, 0, none⟩ = some (.int .i64 a0_0) := (bkC BK217.out 0).trans rfl
     have hcz218_1 : wc.cell? ⟨gb217, 1, none⟩ = some (.int .i64 a0_1) := (bkC BK217.out 1).trans rfl
     have hfz218_0 := bkF BK217.out 0
     have hfz218_1 := bkF BK217.out 1
     have hnb219 := NB218_219.out
     have hnc219 := NB219_218.out
     have hcz220_0 : wc.cell? ⟨gb218, 0, none⟩ = some (.int .i64 a1_0) := (bkC BK218.out 0).trans rfl
     have hcz220_1 : wc.cell? ⟨gb218, 1, none⟩ = some (.int .i64 a1_1) := (bkC BK218.out 1).trans rfl
     have hfz220_0 := bkF BK218.out 0
     have hfz220_1 := bkF BK218.out 1
     have hcz221_0 : wc.cell? ⟨gb219, 0, none⟩ = some (.int .i64 a2_0) := (bkC BK219.out 0).trans rfl
     have hcz221_1 : wc.cell? ⟨gb219, 1, none⟩ = some (.int .i64 a2_1) := (bkC BK219.out 1).trans rfl
     have hcz221_2 : wc.cell? ⟨gb219, 2, none⟩ = some (.int .i64 a2_2) := (bkC BK219.out 2).trans rfl
     have hcz221_3 : wc.cell? ⟨gb219, 3, none⟩ = some (.int .i64 a2_3) := (bkC BK219.out 3).trans rfl
     have hcz221_4 : wc.cell? ⟨gb219, 4, none⟩ = some (.int .i64 a2_4) := (bkC BK219.out 4).trans rfl
     have hfz221_0 := bkF BK219.out 0
     have hfz221_1 := bkF BK219.out 1
     have hfz221_2 := bkF BK219.out 2
     have hfz221_3 := bkF BK219.out 3
     have hfz221_4 := bkF BK219.out 4
     go_wp2_with (first | (go_at_call 57; (with_reducible refine (hopmeshref05_within.calls kj7 a0_0 a0_1 a1_0 a1_1 a2_2 a2_3 false _ A179.out).mono ?_); rintro e w222 ⟨rfl, hb⟩; have n0_ := Aside0.mk (bkB (g := gb217) (o := .cells #[.int .i64 a0_0, .int .i64 a0_1] 28 (0, 0)) (by (with_reducible repeat (first | refine bkN ?_ _ | refine bkD ?_ | refine bkA ?_ _)); exact BK217.out) hb); have n1_ := Aside0.mk (bkB (g := gb218) (o := .cells #[.int .i64 a1_0, .int .i64 a1_1] 28 (0, 0)) (by (with_reducible repeat (first | refine bkN ?_ _ | refine bkD ?_ | refine bkA ?_ _)); exact BK218.out) hb); have n2_ := Aside0.mk (bkB (g := gb219) (o := .cells #[.int .i64 a2_0, .int .i64 a2_1, .int .i64 a2_2, .int .i64 a2_3, .int .i64 a2_4] 47 (0, 0)) (by (with_reducible repeat (first | refine bkN ?_ _ | refine bkD ?_ | refine bkA ?_ _)); exact BK219.out) hb); have n3_ := Aside0.mk (below_step (by repeat (first | (with_reducible first | exact HB.out | apply blA | apply blN | apply blD | refine blS ?_ GE217.out | refine blS ?_ GE218.out | refine blS ?_ GE219.out) | exact HB.out)) hb); clear BK217; clear BK218; clear BK219; clear HB; have BK217 := n0_; have BK218 := n1_; have BK219 := n2_; have HB := n3_; clear n0_ n1_ n2_ n3_; (try clear hb); (try clear hb2); (try clear hk); (try clear hi); have hcz223_0 : w222.cell? ⟨gb219, 0, none⟩ = some (.int .i64 a2_0) := (bkC BK219.out 0).trans rfl; have hcz223_1 : w222.cell? ⟨gb219, 1, none⟩ = some (.int .i64 a2_1) := (bkC BK219.out 1).trans rfl; have hcz223_2 : w222.cell? ⟨gb219, 2, none⟩ = some (.int .i64 a2_2) := (bkC BK219.out 2).trans rfl; have hcz223_3 : w222.cell? ⟨gb219, 3, none⟩ = some (.int .i64 a2_3) := (bkC BK219.out 3).trans rfl; have hcz223_4 : w222.cell? ⟨gb219, 4, none⟩ = some (.int .i64 a2_4) := (bkC BK219.out 4).trans rfl; have hfz223_0 := bkF BK219.out 0; have hfz223_1 := bkF BK219.out 1; have hfz223_2 := bkF BK219.out 2; have hfz223_3 := bkF BK219.out 3; have hfz223_4 := bkF BK219.out 4; have hcz224_0 : w222.cell? ⟨gb217, 0, none⟩ = some (.int .i64 a0_0) := (bkC BK217.out 0).trans rfl; have hcz224_1 : w222.cell? ⟨gb217, 1, none⟩ = some (.int .i64 a0_1) := (bkC BK217.out 1).trans rfl; have hfz224_0 := bkF BK217.out 0; have hfz224_1 := bkF BK217.out 1) | (go_at_call 57; (with_reducible refine (hopmeshref05_within.calls kj7 a2_0 a2_1 a2_2 a2_3 a0_0 a0_1 false _ A189.out).mono ?_); rintro e w225 ⟨rfl, hb⟩; have n0_ := Aside0.mk (bkB (g := gb217) (o := .cells #[.int .i64 a0_0, .int .i64 a0_1] 28 (0, 0)) (by (with_reducible repeat (first | refine bkN ?_ _ | refine bkD ?_ | refine bkA ?_ _)); exact BK217.out) hb); have n1_ := Aside0.mk (bkB (g := gb218) (o := .cells #[.int .i64 a1_0, .int .i64 a1_1] 28 (0, 0)) (by (with_reducible repeat (first | refine bkN ?_ _ | refine bkD ?_ | refine bkA ?_ _)); exact BK218.out) hb); have n2_ := Aside0.mk (bkB (g := gb219) (o := .cells #[.int .i64 a2_0, .int .i64 a2_1, .int .i64 a2_2, .int .i64 a2_3, .int .i64 a2_4] 47 (0, 0)) (by (with_reducible repeat (first | refine bkN ?_ _ | refine bkD ?_ | refine bkA ?_ _)); exact BK219.out) hb); have n3_ := Aside0.mk (below_step (by repeat (first | (with_reducible first | exact HB.out | apply blA | apply blN | apply blD | refine blS ?_ GE217.out | refine blS ?_ GE218.out | refine blS ?_ GE219.out) | exact HB.out)) hb); clear BK217; clear BK218; clear BK219; clear HB; have BK217 := n0_; have BK218 := n1_; have BK219 := n2_; have HB := n3_; clear n0_ n1_ n2_ n3_; (try clear hb); (try clear hb2); (try clear hk); (try clear hi)))
     go_ret
     exact ⟨by first | rfl | (simp [errW_none, errW_some] <;> rfl) | (simp [*, errW_none, errW_some] <;> rfl), by repeat (first | (with_reducible first | exact HB.out | apply blA | apply blN | apply blD | refine blS ?_ GE217.out | refine blS ?_ GE218.out | refine blS ?_ GE219.out) | exact HB.out)⟩
    rw [if_pos c201] at H
    have c201b0 : (t223 == 0) = true := beq_iff_eq.mpr c201
    have c201b1 : (t223 != 0) = false := bne_eq_false_iff_eq.mpr c201
    clear c201
    replace H := Option.bind_eq_some_iff.mp H
    obtain ⟨t234, A2020, H⟩ := H
    replace H : (some t234) = some r := H
    have A202 := Aside0.mk A2020
    clear A2020
    obtain rfl := Option.some.inj H
    have hnb203 := NB217_218.out
    have hnc203 := NB218_217.out
    have hnb204 := NB217_219.out
    have hnc204 := NB219_217.out
    have hcz205_0 : wc.cell? ⟨gb217, 0, none⟩ = some (.int .i64 a0_0) := (bkC BK217.out 0).trans rfl
    have hcz205_1 : wc.cell? ⟨gb217, 1, none⟩ = some (.int .i64 a0_1) := (bkC BK217.out 1).trans rfl
    have hfz205_0 := bkF BK217.out 0
    have hfz205_1 := bkF BK217.out 1
    have hnb206 := NB218_219.out
    have hnc206 := NB219_218.out
    have hcz207_0 : wc.cell? ⟨gb218, 0, none⟩ = some (.int .i64 a1_0) := (bkC BK218.out 0).trans rfl
    have hcz207_1 : wc.cell? ⟨gb218, 1, none⟩ = some (.int .i64 a1_1) := (bkC BK218.out 1).trans rfl
    have hfz207_0 := bkF BK218.out 0
    have hfz207_1 := bkF BK218.out 1
    have hcz208_0 : wc.cell? ⟨gb219, 0, none⟩ = some (.int .i64 a2_0) := (bkC BK219.out 0).trans rfl
    have hcz208_1 : wc.cell? ⟨gb219, 1, none⟩ = some (.int .i64 a2_1) := (bkC BK219.out 1).trans rfl
    have hcz208_2 : wc.cell? ⟨gb219, 2, none⟩ = some (.int .i64 a2_2) := (bkC BK219.out 2).trans rfl
    have hcz208_3 : wc.cell? ⟨gb219, 3, none⟩ = some (.int .i64 a2_3) := (bkC BK219.out 3).trans rfl
    have hcz208_4 : wc.cell? ⟨gb219, 4, none⟩ = some (.int .i64 a2_4) := (bkC BK219.out 4).trans rfl
    have hfz208_0 := bkF BK219.out 0
    have hfz208_1 := bkF BK219.out 1
    have hfz208_2 := bkF BK219.out 2
    have hfz208_3 := bkF BK219.out 3
    have hfz208_4 := bkF BK219.out 4
    go_wp2_with (first | (go_at_call 57; (with_reducible refine (hopmeshref05_within.calls kj7 a0_0 a0_1 a1_0 a1_1 a2_2 a2_3 false _ A179.out).mono ?_); rintro e w209 ⟨rfl, hb⟩; have n0_ := Aside0.mk (bkB (g := gb217) (o := .cells #[.int .i64 a0_0, .int .i64 a0_1] 28 (0, 0)) (by (with_reducible repeat (first | refine bkN ?_ _ | refine bkD ?_ | refine bkA ?_ _)); exact BK217.out) hb); have n1_ := Aside0.mk (bkB (g := gb218) (o := .cells #[.int .i64 a1_0, .int .i64 a1_1] 28 (0, 0)) (by (with_reducible repeat (first | refine bkN ?_ _ | refine bkD ?_ | refine bkA ?_ _)); exact BK218.out) hb); have n2_ := Aside0.mk (bkB (g := gb219) (o := .cells #[.int .i64 a2_0, .int .i64 a2_1, .int .i64 a2_2, .int .i64 a2_3, .int .i64 a2_4] 47 (0, 0)) (by (with_reducible repeat (first | refine bkN ?_ _ | refine bkD ?_ | refine bkA ?_ _)); exact BK219.out) hb); have n3_ := Aside0.mk (below_step (by repeat (first | (with_reducible first | exact HB.out | apply blA | apply blN | apply blD | refine blS ?_ GE217.out | refine blS ?_ GE218.out | refine blS ?_ GE219.out) | exact HB.out)) hb); clear BK217; clear BK218; clear BK219; clear HB; have BK217 := n0_; have BK218 := n1_; have BK219 := n2_; have HB := n3_; clear n0_ n1_ n2_ n3_; (try clear hb); (try clear hb2); (try clear hk); (try clear hi); have hcz210_0 : w209.cell? ⟨gb219, 0, none⟩ = some (.int .i64 a2_0) := (bkC BK219.out 0).trans rfl; have hcz210_1 : w209.cell? ⟨gb219, 1, none⟩ = some (.int .i64 a2_1) := (bkC BK219.out 1).trans rfl; have hcz210_2 : w209.cell? ⟨gb219, 2, none⟩ = some (.int .i64 a2_2) := (bkC BK219.out 2).trans rfl; have hcz210_3 : w209.cell? ⟨gb219, 3, none⟩ = some (.int .i64 a2_3) := (bkC BK219.out 3).trans rfl; have hcz210_4 : w209.cell? ⟨gb219, 4, none⟩ = some (.int .i64 a2_4) := (bkC BK219.out 4).trans rfl; have hfz210_0 := bkF BK219.out 0; have hfz210_1 := bkF BK219.out 1; have hfz210_2 := bkF BK219.out 2; have hfz210_3 := bkF BK219.out 3; have hfz210_4 := bkF BK219.out 4; have hcz211_0 : w209.cell? ⟨gb217, 0, none⟩ = some (.int .i64 a0_0) := (bkC BK217.out 0).trans rfl; have hcz211_1 : w209.cell? ⟨gb217, 1, none⟩ = some (.int .i64 a0_1) := (bkC BK217.out 1).trans rfl; have hfz211_0 := bkF BK217.out 0; have hfz211_1 := bkF BK217.out 1) | (go_at_call 57; (with_reducible refine (hopmeshref05_within.calls kj7 a2_0 a2_1 a2_2 a2_3 a0_0 a0_1 false _ A189.out).mono ?_); rintro e w212 ⟨rfl, hb⟩; have n0_ := Aside0.mk (bkB (g := gb217) (o := .cells #[.int .i64 a0_0, .int .i64 a0_1] 28 (0, 0)) (by (with_reducible repeat (first | refine bkN ?_ _ | refine bkD ?_ | refine bkA ?_ _)); exact BK217.out) hb); have n1_ := Aside0.mk (bkB (g := gb218) (o := .cells #[.int .i64 a1_0, .int .i64 a1_1] 28 (0, 0)) (by (with_reducible repeat (first | refine bkN ?_ _ | refine bkD ?_ | refine bkA ?_ _)); exact BK218.out) hb); have n2_ := Aside0.mk (bkB (g := gb219) (o := .cells #[.int .i64 a2_0, .int .i64 a2_1, .int .i64 a2_2, .int .i64 a2_3, .int .i64 a2_4] 47 (0, 0)) (by (with_reducible repeat (first | refine bkN ?_ _ | refine bkD ?_ | refine bkA ?_ _)); exact BK219.out) hb); have n3_ := Aside0.mk (below_step (by repeat (first | (with_reducible first | exact HB.out | apply blA | apply blN | apply blD | refine blS ?_ GE217.out | refine blS ?_ GE218.out | refine blS ?_ GE219.out) | exact HB.out)) hb); clear BK217; clear BK218; clear BK219; clear HB; have BK217 := n0_; have BK218 := n1_; have BK219 := n2_; have HB := n3_; clear n0_ n1_ n2_ n3_; (try clear hb); (try clear hb2); (try clear hk); (try clear hi); have hcz213_0 : w212.cell? ⟨gb219, 0, none⟩ = some (.int .i64 a2_0) := (bkC BK219.out 0).trans rfl; have hcz213_1 : w212.cell? ⟨gb219, 1, none⟩ = some (.int .i64 a2_1) := (bkC BK219.out 1).trans rfl; have hcz213_2 : w212.cell? ⟨gb219, 2, none⟩ = some (.int .i64 a2_2) := (bkC BK219.out 2).trans rfl; have hcz213_3 : w212.cell? ⟨gb219, 3, none⟩ = some (.int .i64 a2_3) := (bkC BK219.out 3).trans rfl; have hcz213_4 : w212.cell? ⟨gb219, 4, none⟩ = some (.int .i64 a2_4) := (bkC BK219.out 4).trans rfl; have hfz213_0 := bkF BK219.out 0; have hfz213_1 := bkF BK219.out 1; have hfz213_2 := bkF BK219.out 2; have hfz213_3 := bkF BK219.out 3; have hfz213_4 := bkF BK219.out 4; have hcz214_0 : w212.cell? ⟨gb218, 0, none⟩ = some (.int .i64 a1_0) := (bkC BK218.out 0).trans rfl; have hcz214_1 : w212.cell? ⟨gb218, 1, none⟩ = some (.int .i64 a1_1) := (bkC BK218.out 1).trans rfl; have hfz214_0 := bkF BK218.out 0; have hfz214_1 := bkF BK218.out 1) | (go_at_call 57; (with_reducible refine (hopmeshref05_within.calls kj7 a2_0 a2_1 a2_2 a2_3 a1_0 a1_1 t234 _ A202.out).mono ?_); rintro e w215 ⟨rfl, hb⟩; have n0_ := Aside0.mk (bkB (g := gb217) (o := .cells #[.int .i64 a0_0, .int .i64 a0_1] 28 (0, 0)) (by (with_reducible repeat (first | refine bkN ?_ _ | refine bkD ?_ | refine bkA ?_ _)); exact BK217.out) hb); have n1_ := Aside0.mk (bkB (g := gb218) (o := .cells #[.int .i64 a1_0, .int .i64 a1_1] 28 (0, 0)) (by (with_reducible repeat (first | refine bkN ?_ _ | refine bkD ?_ | refine bkA ?_ _)); exact BK218.out) hb); have n2_ := Aside0.mk (bkB (g := gb219) (o := .cells #[.int .i64 a2_0, .int .i64 a2_1, .int .i64 a2_2, .int .i64 a2_3, .int .i64 a2_4] 47 (0, 0)) (by (with_reducible repeat (first | refine bkN ?_ _ | refine bkD ?_ | refine bkA ?_ _)); exact BK219.out) hb); have n3_ := Aside0.mk (below_step (by repeat (first | (with_reducible first | exact HB.out | apply blA | apply blN | apply blD | refine blS ?_ GE217.out | refine blS ?_ GE218.out | refine blS ?_ GE219.out) | exact HB.out)) hb); clear BK217; clear BK218; clear BK219; clear HB; have BK217 := n0_; have BK218 := n1_; have BK219 := n2_; have HB := n3_; clear n0_ n1_ n2_ n3_; (try clear hb); (try clear hb2); (try clear hk); (try clear hi)))
    go_ret
    exact ⟨by first | rfl | (simp [errW_none, errW_some] <;> rfl) | (simp [*, errW_none, errW_some] <;> rfl), by repeat (first | (with_reducible first | exact HB.out | apply blA | apply blN | apply blD | refine blS ?_ GE217.out | refine blS ?_ GE218.out | refine blS ?_ GE219.out) | exact HB.out)⟩
   rw [if_pos c20] at H
   have c20b0 : (t220 == 0) = true := beq_iff_eq.mpr c20
   have c20b1 : (t220 != 0) = false := bne_eq_false_iff_eq.mpr c20
   clear c20
   replace H := Option.bind_eq_some_iff.mp H
   obtain ⟨t224, A210, H⟩ := H
   replace H : (if t224 = true then (some true) else (if t221 = 0 then ((hopmeshref05_within.f kj7 a0_0 a0_1 a1_0 a1_1 a2_2 a2_3).bind fun t225 => (if t225 = true then (some true) else (if t222 = 0 then ((hopmeshref05_within.f kj7 a2_0 a2_1 a2_2 a2_3 a0_0 a0_1).bind fun t226 => (if t226 = true then (some true) else (if t223 = 0 then ((hopmeshref05_within.f kj7 a2_0 a2_1 a2_2 a2_3 a1_0 a1_1).bind fun t227 => (some t227)) else (some false)))) else (if t223 = 0 then ((hopmeshref05_within.f kj7 a2_0 a2_1 a2_2 a2_3 a1_0 a1_1).bind fun t228 => (some t228)) else (some false))))) else (if t222 = 0 then ((hopmeshref05_within.f kj7 a2_0 a2_1 a2_2 a2_3 a0_0 a0_1).bind fun t229 => (if t229 = true then (some true) else (if t223 = 0 then ((hopmeshref05_within.f kj7 a2_0 a2_1 a2_2 a2_3 a1_0 a1_1).bind fun t230 => (some t230)) else (some false)))) else (if t223 = 0 then ((hopmeshref05_within.f kj7 a2_0 a2_1 a2_2 a2_3 a1_0 a1_1).bind fun t231 => (some t231)) else (some false))))) = some r := H
   have A21 := Aside0.mk A210
   clear A210
   by_cases c22 : t224 = true
   ·subst c22
    have H1 : (some true) = some r := by rw [if_pos rfl] at H; exact H
    clear H
    have H := H1
    clear H1
    obtain rfl := Option.some.inj H
    have hnb23 := NB217_218.out
    have hnc23 := NB218_217.out
    have hnb24 := NB217_219.out
    have hnc24 := NB219_217.out
    have hcz25_0 : wc.cell? ⟨gb217, 0, none⟩ = some (.int .i64 a0_0) := (bkC BK217.out 0).trans rfl
    have hcz25_1 : wc.cell? ⟨gb217, 1, none⟩ = some (.int .i64 a0_1) := (bkC BK217.out 1).trans rfl
    have hfz25_0 := bkF BK217.out 0
    have hfz25_1 := bkF BK217.out 1
    have hnb26 := NB218_219.out
    have hnc26 := NB219_218.out
    have hcz27_0 : wc.cell? ⟨gb218, 0, none⟩ = some (.int .i64 a1_0) := (bkC BK218.out 0).trans rfl
    have hcz27_1 : wc.cell? ⟨gb218, 1, none⟩ = some (.int .i64 a1_1) := (bkC BK218.out 1).trans rfl
    have hfz27_0 := bkF BK218.out 0
    have hfz27_1 := bkF BK218.out 1
    have hcz28_0 : wc.cell? ⟨gb219, 0, none⟩ = some (.int .i64 a2_0) := (bkC BK219.out 0).trans rfl
    have hcz28_1 : wc.cell? ⟨gb219, 1, none⟩ = some (.int .i64 a2_1) := (bkC BK219.out 1).trans rfl
    have hcz28_2 : wc.cell? ⟨gb219, 2, none⟩ = some (.int .i64 a2_2) := (bkC BK219.out 2).trans rfl
    have hcz28_3 : wc.cell? ⟨gb219, 3, none⟩ = some (.int .i64 a2_3) := (bkC BK219.out 3).trans rfl
    have hcz28_4 : wc.cell? ⟨gb219, 4, none⟩ = some (.int .i64 a2_4) := (bkC BK219.out 4).trans rfl
    have hfz28_0 := bkF BK219.out 0
    have hfz28_1 := bkF BK219.out 1
    have hfz28_2 := bkF BK219.out 2
    have hfz28_3 := bkF BK219.out 3
    have hfz28_4 := bkF BK219.out 4
    go_wp2_with (first | (go_at_call 57; (with_reducible refine (hopmeshref05_within.calls kj7 a0_0 a0_1 a1_0 a1_1 a2_0 a2_1 true _ A21.out).mono ?_); rintro e w29 ⟨rfl, hb⟩; have n0_ := Aside0.mk (bkB (g := gb217) (o := .cells #[.int .i64 a0_0, .int .i64 a0_1] 28 (0, 0)) (by (with_reducible repeat (first | refine bkN ?_ _ | refine bkD ?_ | refine bkA ?_ _)); exact BK217.out) hb); have n1_ := Aside0.mk (bkB (g := gb218) (o := .cells #[.int .i64 a1_0, .int .i64 a1_1] 28 (0, 0)) (by (with_reducible repeat (first | refine bkN ?_ _ | refine bkD ?_ | refine bkA ?_ _)); exact BK218.out) hb); have n2_ := Aside0.mk (bkB (g := gb219) (o := .cells #[.int .i64 a2_0, .int .i64 a2_1, .int .i64 a2_2, .int .i64 a2_3, .int .i64 a2_4] 47 (0, 0)) (by (with_reducible repeat (first | refine bkN ?_ _ | refine bkD ?_ | refine bkA ?_ _)); exact BK219.out) hb); have n3_ := Aside0.mk (below_step (by repeat (first | (with_reducible first | exact HB.out | apply blA | apply blN | apply blD | refine blS ?_ GE217.out | refine blS ?_ GE218.out | refine blS ?_ GE219.out) | exact HB.out)) hb); clear BK217; clear BK218; clear BK219; clear HB; have BK217 := n0_; have BK218 := n1_; have BK219 := n2_; have HB := n3_; clear n0_ n1_ n2_ n3_; (try clear hb); (try clear hb2); (try clear hk); (try clear hi)))
    go_ret
    exact ⟨by first | rfl | (simp [errW_none, errW_some] <;> rfl) | (simp [*, errW_none, errW_some] <;> rfl), by repeat (first | (with_reducible first | exact HB.out | apply blA | apply blN | apply blD | refine blS ?_ GE217.out | refine blS ?_ GE218.out | refine blS ?_ GE219.out) | exact HB.out)⟩
   replace c22 := Bool.eq_false_iff.mpr c22
   subst c22
   have H1 : (if t221 = 0 then ((hopmeshref05_within.f kj7 a0_0 a0_1 a1_0 a1_1 a2_2 a2_3).bind fun t225 => (if t225 = true then (some true) else (if t222 = 0 then ((hopmeshref05_within.f kj7 a2_0 a2_1 a2_2 a2_3 a0_0 a0_1).bind fun t226 => (if t226 = true then (some true) else (if t223 = 0 then ((hopmeshref05_within.f kj7 a2_0 a2_1 a2_2 a2_3 a1_0 a1_1).bind fun t227 => (some t227)) else (some false)))) else (if t223 = 0 then ((hopmeshref05_within.f kj7 a2_0 a2_1 a2_2 a2_3 a1_0 a1_1).bind fun t228 => (some t228)) else (some false))))) else (if t222 = 0 then ((hopmeshref05_within.f kj7 a2_0 a2_1 a2_2 a2_3 a0_0 a0_1).bind fun t229 => (if t229 = true then (some true) else (if t223 = 0 then ((hopmeshref05_within.f kj7 a2_0 a2_1 a2_2 a2_3 a1_0 a1_1).bind fun t230 => (some t230)) else (some false)))) else (if t223 = 0 then ((hopmeshref05_within.f kj7 a2_0 a2_1 a2_2 a2_3 a1_0 a1_1).bind fun t231 => (some t231)) else (some false)))) = some r := by rw [if_neg (show ¬ (false = true) by decide)] at H; exact H
   clear H
   have H := H1
   clear H1
   by_cases c30 : t221 = 0
   rotate_left
   ·rw [if_neg c30] at H
    have c30b0 : (t221 == 0) = false := beq_eq_false_iff_ne.mpr c30
    have c30b1 : (t221 != 0) = true := bne_iff_ne.mpr c30
    by_cases c121 : t222 = 0
    rotate_left
    ·rw [if_neg c121] at H
     have c121b0 : (t222 == 0) = false := beq_eq_false_iff_ne.mpr c121
     have c121b1 : (t222 != 0) = true := bne_iff_ne.mpr c121
     by_cases c159 : t223 = 0
     rotate_left
     ·rw [if_neg c159] at H
      have c159b0 : (t223 == 0) = false := beq_eq_false_iff_ne.mpr c159
      have c159b1 : (t223 != 0) = true := bne_iff_ne.mpr c159
      obtain rfl := Option.some.inj H
      have hnb171 := NB217_218.out
      have hnc171 := NB218_217.out
      have hnb172 := NB217_219.out
      have hnc172 := NB219_217.out
      have hcz173_0 : wc.cell? ⟨gb217, 0, none⟩ = some (.int .i64 a0_0) := (bkC BK217.out 0).trans rfl
      have hcz173_1 : wc.cell? ⟨gb217, 1, none⟩ = some (.int .i64 a0_1) := (bkC BK217.out 1).trans rfl
      have hfz173_0 := bkF BK217.out 0
      have hfz173_1 := bkF BK217.out 1
      have hnb174 := NB218_219.out
      have hnc174 := NB219_218.out
      have hcz175_0 : wc.cell? ⟨gb218, 0, none⟩ = some (.int .i64 a1_0) := (bkC BK218.out 0).trans rfl
      have hcz175_1 : wc.cell? ⟨gb218, 1, none⟩ = some (.int .i64 a1_1) := (bkC BK218.out 1).trans rfl
      have hfz175_0 := bkF BK218.out 0
      have hfz175_1 := bkF BK218.out 1
      have hcz176_0 : wc.cell? ⟨gb219, 0, none⟩ = some (.int .i64 a2_0) := (bkC BK219.out 0).trans rfl
      have hcz176_1 : wc.cell? ⟨gb219, 1, none⟩ = some (.int .i64 a2_1) := (bkC BK219.out 1).trans rfl
      have hcz176_2 : wc.cell? ⟨gb219, 2, none⟩ = some (.int .i64 a2_2) := (bkC BK219.out 2).trans rfl
      have hcz176_3 : wc.cell? ⟨gb219, 3, none⟩ = some (.int .i64 a2_3) := (bkC BK219.out 3).trans rfl
      have hcz176_4 : wc.cell? ⟨gb219, 4, none⟩ = some (.int .i64 a2_4) := (bkC BK219.out 4).trans rfl
      have hfz176_0 := bkF BK219.out 0
      have hfz176_1 := bkF BK219.out 1
      have hfz176_2 := bkF BK219.out 2
      have hfz176_3 := bkF BK219.out 3
      have hfz176_4 := bkF BK219.out 4
      go_wp2_with (first | (go_at_call 57; (with_reducible refine (hopmeshref05_within.calls kj7 a0_0 a0_1 a1_0 a1_1 a2_0 a2_1 false _ A21.out).mono ?_); rintro e w177 ⟨rfl, hb⟩; have n0_ := Aside0.mk (bkB (g := gb217) (o := .cells #[.int .i64 a0_0, .int .i64 a0_1] 28 (0, 0)) (by (with_reducible repeat (first | refine bkN ?_ _ | refine bkD ?_ | refine bkA ?_ _)); exact BK217.out) hb); have n1_ := Aside0.mk (bkB (g := gb218) (o := .cells #[.int .i64 a1_0, .int .i64 a1_1] 28 (0, 0)) (by (with_reducible repeat (first | refine bkN ?_ _ | refine bkD ?_ | refine bkA ?_ _)); exact BK218.out) hb); have n2_ := Aside0.mk (bkB (g := gb219) (o := .cells #[.int .i64 a2_0, .int .i64 a2_1, .int .i64 a2_2, .int .i64 a2_3, .int .i64 a2_4] 47 (0, 0)) (by (with_reducible repeat (first | refine bkN ?_ _ | refine bkD ?_ | refine bkA ?_ _)); exact BK219.out) hb); have n3_ := Aside0.mk (below_step (by repeat (first | (with_reducible first | exact HB.out | apply blA | apply blN | apply blD | refine blS ?_ GE217.out | refine blS ?_ GE218.out | refine blS ?_ GE219.out) | exact HB.out)) hb); clear BK217; clear BK218; clear BK219; clear HB; have BK217 := n0_; have BK218 := n1_; have BK219 := n2_; have HB := n3_; clear n0_ n1_ n2_ n3_; (try clear hb); (try clear hb2); (try clear hk); (try clear hi)))
      go_ret
      exact ⟨by first | rfl | (simp [errW_none, errW_some] <;> rfl) | (simp [*, errW_none, errW_some] <;> rfl), by repeat (first | (with_reducible first | exact HB.out | apply blA | apply blN | apply blD | refine blS ?_ GE217.out | refine blS ?_ GE218.out | refine blS ?_ GE219.out) | exact HB.out)⟩
     rw [if_pos c159] at H
     have c159b0 : (t223 == 0) = true := beq_iff_eq.mpr c159
     have c159b1 : (t223 != 0) = false := bne_eq_false_iff_eq.mpr c159
     clear c159
     replace H := Option.bind_eq_some_iff.mp H
     obtain ⟨t231, A1600, H⟩ := H
     replace H : (some t231) = some r := H
     have A160 := Aside0.mk A1600
     clear A1600
     obtain rfl := Option.some.inj H
     have hnb161 := NB217_218.out
     have hnc161 := NB218_217.out
     have hnb162 := NB217_219.out
     have hnc162 := NB219_217.out
     have hcz163_0 : wc.cell? ⟨gb217, 0, none⟩ = some (.int .i64 a0_0) := (bkC BK217.out 0).trans rfl
     have hcz163_1 : wc.cell? ⟨gb217, 1, none⟩ = some (.int .i64 a0_1) := (bkC BK217.out 1).trans rfl
     have hfz163_0 := bkF BK217.out 0
     have hfz163_1 := bkF BK217.out 1
     have hnb164 := NB218_219.out
     have hnc164 := NB219_218.out
     have hcz165_0 : wc.cell? ⟨gb218, 0, none⟩ = some (.int .i64 a1_0) := (bkC BK218.out 0).trans rfl
     have hcz165_1 : wc.cell? ⟨gb218, 1, none⟩ = some (.int .i64 a1_1) := (bkC BK218.out 1).trans rfl
     have hfz165_0 := bkF BK218.out 0
     have hfz165_1 := bkF BK218.out 1
     have hcz166_0 : wc.cell? ⟨gb219, 0, none⟩ = some (.int .i64 a2_0) := (bkC BK219.out 0).trans rfl
     have hcz166_1 : wc.cell? ⟨gb219, 1, none⟩ = some (.int .i64 a2_1) := (bkC BK219.out 1).trans rfl
     have hcz166_2 : wc.cell? ⟨gb219, 2, none⟩ = some (.int .i64 a2_2) := (bkC BK219.out 2).trans rfl
     have hcz166_3 : wc.cell? ⟨gb219, 3, none⟩ = some (.int .i64 a2_3) := (bkC BK219.out 3).trans rfl
     have hcz166_4 : wc.cell? ⟨gb219, 4, none⟩ = some (.int .i64 a2_4) := (bkC BK219.out 4).trans rfl
     have hfz166_0 := bkF BK219.out 0
     have hfz166_1 := bkF BK219.out 1
     have hfz166_2 := bkF BK219.out 2
     have hfz166_3 := bkF BK219.out 3
     have hfz166_4 := bkF BK219.out 4
     go_wp2_with (first | (go_at_call 57; (with_reducible refine (hopmeshref05_within.calls kj7 a0_0 a0_1 a1_0 a1_1 a2_0 a2_1 false _ A21.out).mono ?_); rintro e w167 ⟨rfl, hb⟩; have n0_ := Aside0.mk (bkB (g := gb217) (o := .cells #[.int .i64 a0_0, .int .i64 a0_1] 28 (0, 0)) (by (with_reducible repeat (first | refine bkN ?_ _ | refine bkD ?_ | refine bkA ?_ _)); exact BK217.out) hb); have n1_ := Aside0.mk (bkB (g := gb218) (o := .cells #[.int .i64 a1_0, .int .i64 a1_1] 28 (0, 0)) (by (with_reducible repeat (first | refine bkN ?_ _ | refine bkD ?_ | refine bkA ?_ _)); exact BK218.out) hb); have n2_ := Aside0.mk (bkB (g := gb219) (o := .cells #[.int .i64 a2_0, .int .i64 a2_1, .int .i64 a2_2, .int .i64 a2_3, .int .i64 a2_4] 47 (0, 0)) (by (with_reducible repeat (first | refine bkN ?_ _ | refine bkD ?_ | refine bkA ?_ _)); exact BK219.out) hb); have n3_ := Aside0.mk (below_step (by repeat (first | (with_reducible first | exact HB.out | apply blA | apply blN | apply blD | refine blS ?_ GE217.out | refine blS ?_ GE218.out | refine blS ?_ GE219.out) | exact HB.out)) hb); clear BK217; clear BK218; clear BK219; clear HB; have BK217 := n0_; have BK218 := n1_; have BK219 := n2_; have HB := n3_; clear n0_ n1_ n2_ n3_; (try clear hb); (try clear hb2); (try clear hk); (try clear hi); have hcz168_0 : w167.cell? ⟨gb219, 0, none⟩ = some (.int .i64 a2_0) := (bkC BK219.out 0).trans rfl; have hcz168_1 : w167.cell? ⟨gb219, 1, none⟩ = some (.int .i64 a2_1) := (bkC BK219.out 1).trans rfl; have hcz168_2 : w167.cell? ⟨gb219, 2, none⟩ = some (.int .i64 a2_2) := (bkC BK219.out 2).trans rfl; have hcz168_3 : w167.cell? ⟨gb219, 3, none⟩ = some (.int .i64 a2_3) := (bkC BK219.out 3).trans rfl; have hcz168_4 : w167.cell? ⟨gb219, 4, none⟩ = some (.int .i64 a2_4) := (bkC BK219.out 4).trans rfl; have hfz168_0 := bkF BK219.out 0; have hfz168_1 := bkF BK219.out 1; have hfz168_2 := bkF BK219.out 2; have hfz168_3 := bkF BK219.out 3; have hfz168_4 := bkF BK219.out 4; have hcz169_0 : w167.cell? ⟨gb218, 0, none⟩ = some (.int .i64 a1_0) := (bkC BK218.out 0).trans rfl; have hcz169_1 : w167.cell? ⟨gb218, 1, none⟩ = some (.int .i64 a1_1) := (bkC BK218.out 1).trans rfl; have hfz169_0 := bkF BK218.out 0; have hfz169_1 := bkF BK218.out 1) | (go_at_call 57; (with_reducible refine (hopmeshref05_within.calls kj7 a2_0 a2_1 a2_2 a2_3 a1_0 a1_1 t231 _ A160.out).mono ?_); rintro e w170 ⟨rfl, hb⟩; have n0_ := Aside0.mk (bkB (g := gb217) (o := .cells #[.int .i64 a0_0, .int .i64 a0_1] 28 (0, 0)) (by (with_reducible repeat (first | refine bkN ?_ _ | refine bkD ?_ | refine bkA ?_ _)); exact BK217.out) hb); have n1_ := Aside0.mk (bkB (g := gb218) (o := .cells #[.int .i64 a1_0, .int .i64 a1_1] 28 (0, 0)) (by (with_reducible repeat (first | refine bkN ?_ _ | refine bkD ?_ | refine bkA ?_ _)); exact BK218.out) hb); have n2_ := Aside0.mk (bkB (g := gb219) (o := .cells #[.int .i64 a2_0, .int .i64 a2_1, .int .i64 a2_2, .int .i64 a2_3, .int .i64 a2_4] 47 (0, 0)) (by (with_reducible repeat (first | refine bkN ?_ _ | refine bkD ?_ | refine bkA ?_ _)); exact BK219.out) hb); have n3_ := Aside0.mk (below_step (by repeat (first | (with_reducible first | exact HB.out | apply blA | apply blN | apply blD | refine blS ?_ GE217.out | refine blS ?_ GE218.out | refine blS ?_ GE219.out) | exact HB.out)) hb); clear BK217; clear BK218; clear BK219; clear HB; have BK217 := n0_; have BK218 := n1_; have BK219 := n2_; have HB := n3_; clear n0_ n1_ n2_ n3_; (try clear hb); (try clear hb2); (try clear hk); (try clear hi)))
     go_ret
     exact ⟨by first | rfl | (simp [errW_none, errW_some] <;> rfl) | (simp [*, errW_none, errW_some] <;> rfl), by repeat (first | (with_reducible first | exact HB.out | apply blA | apply blN | apply blD | refine blS ?_ GE217.out | refine blS ?_ GE218.out | refine blS ?_ GE219.out) | exact HB.out)⟩
    rw [if_pos c121] at H
    have c121b0 : (t222 == 0) = true := beq_iff_eq.mpr c121
    have c121b1 : (t222 != 0) = false := bne_eq_false_iff_eq.mpr c121
    clear c121
    replace H := Option.bind_eq_some_iff.mp H
    obtain ⟨t229, A1220, H⟩ := H
    replace H : (if t229 = true then (some true) else (if t223 = 0 then ((hopmeshref05_within.f kj7 a2_0 a2_1 a2_2 a2_3 a1_0 a1_1).bind fun t230 => (some t230)) else (some false))) = some r := H
    have A122 := Aside0.mk A1220
    clear A1220
    by_cases c123 : t229 = true
    ·subst c123
     have H1 : (some true) = some r := by rw [if_pos rfl] at H; exact H
     clear H
     have H := H1
     clear H1
     obtain rfl := Option.some.inj H
     have hnb124 := NB217_218.out
     have hnc124 := NB218_217.out
     have hnb125 := NB217_219.out
     have hnc125 := NB219_217.out
     have hcz126_0 : wc.cell? ⟨gb217, 0, none⟩ = some (.int .i64 a0_0) := (bkC BK217.out 0).trans rfl
     have hcz126_1 : wc.cell? ⟨gb217, 1, none⟩ = some (.int .i64 a0_1) := (bkC BK217.out 1).trans rfl
     have hfz126_0 := bkF BK217.out 0
     have hfz126_1 := bkF BK217.out 1
     have hnb127 := NB218_219.out
     have hnc127 := NB219_218.out
     have hcz128_0 : wc.cell? ⟨gb218, 0, none⟩ = some (.int .i64 a1_0) := (bkC BK218.out 0).trans rfl
     have hcz128_1 : wc.cell? ⟨gb218, 1, none⟩ = some (.int .i64 a1_1) := (bkC BK218.out 1).trans rfl
     have hfz128_0 := bkF BK218.out 0
     have hfz128_1 := bkF BK218.out 1
     have hcz129_0 : wc.cell? ⟨gb219, 0, none⟩ = some (.int .i64 a2_0) := (bkC BK219.out 0).trans rfl
     have hcz129_1 : wc.cell? ⟨gb219, 1, none⟩ = some (.int .i64 a2_1) := (bkC BK219.out 1).trans rfl
     have hcz129_2 : wc.cell? ⟨gb219, 2, none⟩ = some (.int .i64 a2_2) := (bkC BK219.out 2).trans rfl
     have hcz129_3 : wc.cell? ⟨gb219, 3, none⟩ = some (.int .i64 a2_3) := (bkC BK219.out 3).trans rfl
     have hcz129_4 : wc.cell? ⟨gb219, 4, none⟩ = some (.int .i64 a2_4) := (bkC BK219.out 4).trans rfl
     have hfz129_0 := bkF BK219.out 0
     have hfz129_1 := bkF BK219.out 1
     have hfz129_2 := bkF BK219.out 2
     have hfz129_3 := bkF BK219.out 3
     have hfz129_4 := bkF BK219.out 4
     go_wp2_with (first | (go_at_call 57; (with_reducible refine (hopmeshref05_within.calls kj7 a0_0 a0_1 a1_0 a1_1 a2_0 a2_1 false _ A21.out).mono ?_); rintro e w130 ⟨rfl, hb⟩; have n0_ := Aside0.mk (bkB (g := gb217) (o := .cells #[.int .i64 a0_0, .int .i64 a0_1] 28 (0, 0)) (by (with_reducible repeat (first | refine bkN ?_ _ | refine bkD ?_ | refine bkA ?_ _)); exact BK217.out) hb); have n1_ := Aside0.mk (bkB (g := gb218) (o := .cells #[.int .i64 a1_0, .int .i64 a1_1] 28 (0, 0)) (by (with_reducible repeat (first | refine bkN ?_ _ | refine bkD ?_ | refine bkA ?_ _)); exact BK218.out) hb); have n2_ := Aside0.mk (bkB (g := gb219) (o := .cells #[.int .i64 a2_0, .int .i64 a2_1, .int .i64 a2_2, .int .i64 a2_3, .int .i64 a2_4] 47 (0, 0)) (by (with_reducible repeat (first | refine bkN ?_ _ | refine bkD ?_ | refine bkA ?_ _)); exact BK219.out) hb); have n3_ := Aside0.mk (below_step (by repeat (first | (with_reducible first | exact HB.out | apply blA | apply blN | apply blD | refine blS ?_ GE217.out | refine blS ?_ GE218.out | refine blS ?_ GE219.out) | exact HB.out)) hb); clear BK217; clear BK218; clear BK219; clear HB; have BK217 := n0_; have BK218 := n1_; have BK219 := n2_; have HB := n3_; clear n0_ n1_ n2_ n3_; (try clear hb); (try clear hb2); (try clear hk); (try clear hi); have hcz131_0 : w130.cell? ⟨gb219, 0, none⟩ = some (.int .i64 a2_0) := (bkC BK219.out 0).trans rfl; have hcz131_1 : w130.cell? ⟨gb219, 1, none⟩ = some (.int .i64 a2_1) := (bkC BK219.out 1).trans rfl; have hcz131_2 : w130.cell? ⟨gb219, 2, none⟩ = some (.int .i64 a2_2) := (bkC BK219.out 2).trans rfl; have hcz131_3 : w130.cell? ⟨gb219, 3, none⟩ = some (.int .i64 a2_3) := (bkC BK219.out 3).trans rfl; have hcz131_4 : w130.cell? ⟨gb219, 4, none⟩ = some (.int .i64 a2_4) := (bkC BK219.out 4).trans rfl; have hfz131_0 := bkF BK219.out 0; have hfz131_1 := bkF BK219.out 1; have hfz131_2 := bkF BK219.out 2; have hfz131_3 := bkF BK219.out 3; have hfz131_4 := bkF BK219.out 4; have hcz132_0 : w130.cell? ⟨gb217, 0, none⟩ = some (.int .i64 a0_0) := (bkC BK217.out 0).trans rfl; have hcz132_1 : w130.cell? ⟨gb217, 1, none⟩ = some (.int .i64 a0_1) := (bkC BK217.out 1).trans rfl; have hfz132_0 := bkF BK217.out 0; have hfz132_1 := bkF BK217.out 1) | (go_at_call 57; (with_reducible refine (hopmeshref05_within.calls kj7 a2_0 a2_1 a2_2 a2_3 a0_0 a0_1 true _ A122.out).mono ?_); rintro e w133 ⟨rfl, hb⟩; have n0_ := Aside0.mk (bkB (g := gb217) (o := .cells #[.int .i64 a0_0, .int .i64 a0_1] 28 (0, 0)) (by (with_reducible repeat (first | refine bkN ?_ _ | refine bkD ?_ | refine bkA ?_ _)); exact BK217.out) hb); have n1_ := Aside0.mk (bkB (g := gb218) (o := .cells #[.int .i64 a1_0, .int .i64 a1_1] 28 (0, 0)) (by (with_reducible repeat (first | refine bkN ?_ _ | refine bkD ?_ | refine bkA ?_ _)); exact BK218.out) hb); have n2_ := Aside0.mk (bkB (g := gb219) (o := .cells #[.int .i64 a2_0, .int .i64 a2_1, .int .i64 a2_2, .int .i64 a2_3, .int .i64 a2_4] 47 (0, 0)) (by (with_reducible repeat (first | refine bkN ?_ _ | refine bkD ?_ | refine bkA ?_ _)); exact BK219.out) hb); have n3_ := Aside0.mk (below_step (by repeat (first | (with_reducible first | exact HB.out | apply blA | apply blN | apply blD | refine blS ?_ GE217.out | refine blS ?_ GE218.out | refine blS ?_ GE219.out) | exact HB.out)) hb); clear BK217; clear BK218; clear BK219; clear HB; have BK217 := n0_; have BK218 := n1_; have BK219 := n2_; have HB := n3_; clear n0_ n1_ n2_ n3_; (try clear hb); (try clear hb2); (try clear hk); (try clear hi)))
     go_ret
     exact ⟨by first | rfl | (simp [errW_none, errW_some] <;> rfl) | (simp [*, errW_none, errW_some] <;> rfl), by repeat (first | (with_reducible first | exact HB.out | apply blA | apply blN | apply blD | refine blS ?_ GE217.out | refine blS ?_ GE218.out | refine blS ?_ GE219.out) | exact HB.out)⟩
    replace c123 := Bool.eq_false_iff.mpr c123
    subst c123
    have H1 : (if t223 = 0 then ((hopmeshref05_within.f kj7 a2_0 a2_1 a2_2 a2_3 a1_0 a1_1).bind fun t230 => (some t230)) else (some false)) = some r := by rw [if_neg (show ¬ (false = true) by decide)] at H; exact H
    clear H
    have H := H1
    clear H1
    by_cases c134 : t223 = 0
    rotate_left
    ·rw [if_neg c134] at H
     have c134b0 : (t223 == 0) = false := beq_eq_false_iff_ne.mpr c134
     have c134b1 : (t223 != 0) = true := bne_iff_ne.mpr c134
     obtain rfl := Option.some.inj H
     have hnb149 := NB217_218.out
     have hnc149 := NB218_217.out
     have hnb150 := NB217_219.out
     have hnc150 := NB219_217.out
     have hcz151_0 : wc.cell? ⟨gb217, 0, none⟩ = some (.int .i64 a0_0) := (bkC BK217.out 0).trans rfl
     have hcz151_1 : wc.cell? ⟨gb217, 1, none⟩ = some (.int .i64 a0_1) := (bkC BK217.out 1).trans rfl
     have hfz151_0 := bkF BK217.out 0
     have hfz151_1 := bkF BK217.out 1
     have hnb152 := NB218_219.out
     have hnc152 := NB219_218.out
     have hcz153_0 : wc.cell? ⟨gb218, 0, none⟩ = some (.int .i64 a1_0) := (bkC BK218.out 0).trans rfl
     have hcz153_1 : wc.cell? ⟨gb218, 1, none⟩ = some (.int .i64 a1_1) := (bkC BK218.out 1).trans rfl
     have hfz153_0 := bkF BK218.out 0
     have hfz153_1 := bkF BK218.out 1
     have hcz154_0 : wc.cell? ⟨gb219, 0, none⟩ = some (.int .i64 a2_0) := (bkC BK219.out 0).trans rfl
     have hcz154_1 : wc.cell? ⟨gb219, 1, none⟩ = some (.int .i64 a2_1) := (bkC BK219.out 1).trans rfl
     have hcz154_2 : wc.cell? ⟨gb219, 2, none⟩ = some (.int .i64 a2_2) := (bkC BK219.out 2).trans rfl
     have hcz154_3 : wc.cell? ⟨gb219, 3, none⟩ = some (.int .i64 a2_3) := (bkC BK219.out 3).trans rfl
     have hcz154_4 : wc.cell? ⟨gb219, 4, none⟩ = some (.int .i64 a2_4) := (bkC BK219.out 4).trans rfl
     have hfz154_0 := bkF BK219.out 0
     have hfz154_1 := bkF BK219.out 1
     have hfz154_2 := bkF BK219.out 2
     have hfz154_3 := bkF BK219.out 3
     have hfz154_4 := bkF BK219.out 4
     go_wp2_with (first | (go_at_call 57; (with_reducible refine (hopmeshref05_within.calls kj7 a0_0 a0_1 a1_0 a1_1 a2_0 a2_1 false _ A21.out).mono ?_); rintro e w155 ⟨rfl, hb⟩; have n0_ := Aside0.mk (bkB (g := gb217) (o := .cells #[.int .i64 a0_0, .int .i64 a0_1] 28 (0, 0)) (by (with_reducible repeat (first | refine bkN ?_ _ | refine bkD ?_ | refine bkA ?_ _)); exact BK217.out) hb); have n1_ := Aside0.mk (bkB (g := gb218) (o := .cells #[.int .i64 a1_0, .int .i64 a1_1] 28 (0, 0)) (by (with_reducible repeat (first | refine bkN ?_ _ | refine bkD ?_ | refine bkA ?_ _)); exact BK218.out) hb); have n2_ := Aside0.mk (bkB (g := gb219) (o := .cells #[.int .i64 a2_0, .int .i64 a2_1, .int .i64 a2_2, .int .i64 a2_3, .int .i64 a2_4] 47 (0, 0)) (by (with_reducible repeat (first | refine bkN ?_ _ | refine bkD ?_ | refine bkA ?_ _)); exact BK219.out) hb); have n3_ := Aside0.mk (below_step (by repeat (first | (with_reducible first | exact HB.out | apply blA | apply blN | apply blD | refine blS ?_ GE217.out | refine blS ?_ GE218.out | refine blS ?_ GE219.out) | exact HB.out)) hb); clear BK217; clear BK218; clear BK219; clear HB; have BK217 := n0_; have BK218 := n1_; have BK219 := n2_; have HB := n3_; clear n0_ n1_ n2_ n3_; (try clear hb); (try clear hb2); (try clear hk); (try clear hi); have hcz156_0 : w155.cell? ⟨gb219, 0, none⟩ = some (.int .i64 a2_0) := (bkC BK219.out 0).trans rfl; have hcz156_1 : w155.cell? ⟨gb219, 1, none⟩ = some (.int .i64 a2_1) := (bkC BK219.out 1).trans rfl; have hcz156_2 : w155.cell? ⟨gb219, 2, none⟩ = some (.int .i64 a2_2) := (bkC BK219.out 2).trans rfl; have hcz156_3 : w155.cell? ⟨gb219, 3, none⟩ = some (.int .i64 a2_3) := (bkC BK219.out 3).trans rfl; have hcz156_4 : w155.cell? ⟨gb219, 4, none⟩ = some (.int .i64 a2_4) := (bkC BK219.out 4).trans rfl; have hfz156_0 := bkF BK219.out 0; have hfz156_1 := bkF BK219.out 1; have hfz156_2 := bkF BK219.out 2; have hfz156_3 := bkF BK219.out 3; have hfz156_4 := bkF BK219.out 4; have hcz157_0 : w155.cell? ⟨gb217, 0, none⟩ = some (.int .i64 a0_0) := (bkC BK217.out 0).trans rfl; have hcz157_1 : w155.cell? ⟨gb217, 1, none⟩ = some (.int .i64 a0_1) := (bkC BK217.out 1).trans rfl; have hfz157_0 := bkF BK217.out 0; have hfz157_1 := bkF BK217.out 1) | (go_at_call 57; (with_reducible refine (hopmeshref05_within.calls kj7 a2_0 a2_1 a2_2 a2_3 a0_0 a0_1 false _ A122.out).mono ?_); rintro e w158 ⟨rfl, hb⟩; have n0_ := Aside0.mk (bkB (g := gb217) (o := .cells #[.int .i64 a0_0, .int .i64 a0_1] 28 (0, 0)) (by (with_reducible repeat (first | refine bkN ?_ _ | refine bkD ?_ | refine bkA ?_ _)); exact BK217.out) hb); have n1_ := Aside0.mk (bkB (g := gb218) (o := .cells #[.int .i64 a1_0, .int .i64 a1_1] 28 (0, 0)) (by (with_reducible repeat (first | refine bkN ?_ _ | refine bkD ?_ | refine bkA ?_ _)); exact BK218.out) hb); have n2_ := Aside0.mk (bkB (g := gb219) (o := .cells #[.int .i64 a2_0, .int .i64 a2_1, .int .i64 a2_2, .int .i64 a2_3, .int .i64 a2_4] 47 (0, 0)) (by (with_reducible repeat (first | refine bkN ?_ _ | refine bkD ?_ | refine bkA ?_ _)); exact BK219.out) hb); have n3_ := Aside0.mk (below_step (by repeat (first | (with_reducible first | exact HB.out | apply blA | apply blN | apply blD | refine blS ?_ GE217.out | refine blS ?_ GE218.out | refine blS ?_ GE219.out) | exact HB.out)) hb); clear BK217; clear BK218; clear BK219; clear HB; have BK217 := n0_; have BK218 := n1_; have BK219 := n2_; have HB := n3_; clear n0_ n1_ n2_ n3_; (try clear hb); (try clear hb2); (try clear hk); (try clear hi)))
     go_ret
     exact ⟨by first | rfl | (simp [errW_none, errW_some] <;> rfl) | (simp [*, errW_none, errW_some] <;> rfl), by repeat (first | (with_reducible first | exact HB.out | apply blA | apply blN | apply blD | refine blS ?_ GE217.out | refine blS ?_ GE218.out | refine blS ?_ GE219.out) | exact HB.out)⟩
    rw [if_pos c134] at H
    have c134b0 : (t223 == 0) = true := beq_iff_eq.mpr c134
    have c134b1 : (t223 != 0) = false := bne_eq_false_iff_eq.mpr c134
    clear c134
    replace H := Option.bind_eq_some_iff.mp H
    obtain ⟨t230, A1350, H⟩ := H
    replace H : (some t230) = some r := H
    have A135 := Aside0.mk A1350
    clear A1350
    obtain rfl := Option.some.inj H
    have hnb136 := NB217_218.out
    have hnc136 := NB218_217.out
    have hnb137 := NB217_219.out
    have hnc137 := NB219_217.out
    have hcz138_0 : wc.cell? ⟨gb217, 0, none⟩ = some (.int .i64 a0_0) := (bkC BK217.out 0).trans rfl
    have hcz138_1 : wc.cell? ⟨gb217, 1, none⟩ = some (.int .i64 a0_1) := (bkC BK217.out 1).trans rfl
    have hfz138_0 := bkF BK217.out 0
    have hfz138_1 := bkF BK217.out 1
    have hnb139 := NB218_219.out
    have hnc139 := NB219_218.out
    have hcz140_0 : wc.cell? ⟨gb218, 0, none⟩ = some (.int .i64 a1_0) := (bkC BK218.out 0).trans rfl
    have hcz140_1 : wc.cell? ⟨gb218, 1, none⟩ = some (.int .i64 a1_1) := (bkC BK218.out 1).trans rfl
    have hfz140_0 := bkF BK218.out 0
    have hfz140_1 := bkF BK218.out 1
    have hcz141_0 : wc.cell? ⟨gb219, 0, none⟩ = some (.int .i64 a2_0) := (bkC BK219.out 0).trans rfl
    have hcz141_1 : wc.cell? ⟨gb219, 1, none⟩ = some (.int .i64 a2_1) := (bkC BK219.out 1).trans rfl
    have hcz141_2 : wc.cell? ⟨gb219, 2, none⟩ = some (.int .i64 a2_2) := (bkC BK219.out 2).trans rfl
    have hcz141_3 : wc.cell? ⟨gb219, 3, none⟩ = some (.int .i64 a2_3) := (bkC BK219.out 3).trans rfl
    have hcz141_4 : wc.cell? ⟨gb219, 4, none⟩ = some (.int .i64 a2_4) := (bkC BK219.out 4).trans rfl
    have hfz141_0 := bkF BK219.out 0
    have hfz141_1 := bkF BK219.out 1
    have hfz141_2 := bkF BK219.out 2
    have hfz141_3 := bkF BK219.out 3
    have hfz141_4 := bkF BK219.out 4
    go_wp2_with (first | (go_at_call 57; (with_reducible refine (hopmeshref05_within.calls kj7 a0_0 a0_1 a1_0 a1_1 a2_0 a2_1 false _ A21.out).mono ?_); rintro e w142 ⟨rfl, hb⟩; have n0_ := Aside0.mk (bkB (g := gb217) (o := .cells #[.int .i64 a0_0, .int .i64 a0_1] 28 (0, 0)) (by (with_reducible repeat (first | refine bkN ?_ _ | refine bkD ?_ | refine bkA ?_ _)); exact BK217.out) hb); have n1_ := Aside0.mk (bkB (g := gb218) (o := .cells #[.int .i64 a1_0, .int .i64 a1_1] 28 (0, 0)) (by (with_reducible repeat (first | refine bkN ?_ _ | refine bkD ?_ | refine bkA ?_ _)); exact BK218.out) hb); have n2_ := Aside0.mk (bkB (g := gb219) (o := .cells #[.int .i64 a2_0, .int .i64 a2_1, .int .i64 a2_2, .int .i64 a2_3, .int .i64 a2_4] 47 (0, 0)) (by (with_reducible repeat (first | refine bkN ?_ _ | refine bkD ?_ | refine bkA ?_ _)); exact BK219.out) hb); have n3_ := Aside0.mk (below_step (by repeat (first | (with_reducible first | exact HB.out | apply blA | apply blN | apply blD | refine blS ?_ GE217.out | refine blS ?_ GE218.out | refine blS ?_ GE219.out) | exact HB.out)) hb); clear BK217; clear BK218; clear BK219; clear HB; have BK217 := n0_; have BK218 := n1_; have BK219 := n2_; have HB := n3_; clear n0_ n1_ n2_ n3_; (try clear hb); (try clear hb2); (try clear hk); (try clear hi); have hcz143_0 : w142.cell? ⟨gb219, 0, none⟩ = some (.int .i64 a2_0) := (bkC BK219.out 0).trans rfl; have hcz143_1 : w142.cell? ⟨gb219, 1, none⟩ = some (.int .i64 a2_1) := (bkC BK219.out 1).trans rfl; have hcz143_2 : w142.cell? ⟨gb219, 2, none⟩ = some (.int .i64 a2_2) := (bkC BK219.out 2).trans rfl; have hcz143_3 : w142.cell? ⟨gb219, 3, none⟩ = some (.int .i64 a2_3) := (bkC BK219.out 3).trans rfl; have hcz143_4 : w142.cell? ⟨gb219, 4, none⟩ = some (.int .i64 a2_4) := (bkC BK219.out 4).trans rfl; have hfz143_0 := bkF BK219.out 0; have hfz143_1 := bkF BK219.out 1; have hfz143_2 := bkF BK219.out 2; have hfz143_3 := bkF BK219.out 3; have hfz143_4 := bkF BK219.out 4; have hcz144_0 : w142.cell? ⟨gb217, 0, none⟩ = some (.int .i64 a0_0) := (bkC BK217.out 0).trans rfl; have hcz144_1 : w142.cell? ⟨gb217, 1, none⟩ = some (.int .i64 a0_1) := (bkC BK217.out 1).trans rfl; have hfz144_0 := bkF BK217.out 0; have hfz144_1 := bkF BK217.out 1) | (go_at_call 57; (with_reducible refine (hopmeshref05_within.calls kj7 a2_0 a2_1 a2_2 a2_3 a0_0 a0_1 false _ A122.out).mono ?_); rintro e w145 ⟨rfl, hb⟩; have n0_ := Aside0.mk (bkB (g := gb217) (o := .cells #[.int .i64 a0_0, .int .i64 a0_1] 28 (0, 0)) (by (with_reducible repeat (first | refine bkN ?_ _ | refine bkD ?_ | refine bkA ?_ _)); exact BK217.out) hb); have n1_ := Aside0.mk (bkB (g := gb218) (o := .cells #[.int .i64 a1_0, .int .i64 a1_1] 28 (0, 0)) (by (with_reducible repeat (first | refine bkN ?_ _ | refine bkD ?_ | refine bkA ?_ _)); exact BK218.out) hb); have n2_ := Aside0.mk (bkB (g := gb219) (o := .cells #[.int .i64 a2_0, .int .i64 a2_1, .int .i64 a2_2, .int .i64 a2_3, .int .i64 a2_4] 47 (0, 0)) (by (with_reducible repeat (first | refine bkN ?_ _ | refine bkD ?_ | refine bkA ?_ _)); exact BK219.out) hb); have n3_ := Aside0.mk (below_step (by repeat (first | (with_reducible first | exact HB.out | apply blA | apply blN | apply blD | refine blS ?_ GE217.out | refine blS ?_ GE218.out | refine blS ?_ GE219.out) | exact HB.out)) hb); clear BK217; clear BK218; clear BK219; clear HB; have BK217 := n0_; have BK218 := n1_; have BK219 := n2_; have HB := n3_; clear n0_ n1_ n2_ n3_; (try clear hb); (try clear hb2); (try clear hk); (try clear hi); have hcz146_0 : w145.cell? ⟨gb219, 0, none⟩ = some (.int .i64 a2_0) := (bkC BK219.out 0).trans rfl; have hcz146_1 : w145.cell? ⟨gb219, 1, none⟩ = some (.int .i64 a2_1) := (bkC BK219.out 1).trans rfl; have hcz146_2 : w145.cell? ⟨gb219, 2, none⟩ = some (.int .i64 a2_2) := (bkC BK219.out 2).trans rfl; have hcz146_3 : w145.cell? ⟨gb219, 3, none⟩ = some (.int .i64 a2_3) := (bkC BK219.out 3).trans rfl; have hcz146_4 : w145.cell? ⟨gb219, 4, none⟩ = some (.int .i64 a2_4) := (bkC BK219.out 4).trans rfl; have hfz146_0 := bkF BK219.out 0; have hfz146_1 := bkF BK219.out 1; have hfz146_2 := bkF BK219.out 2; have hfz146_3 := bkF BK219.out 3; have hfz146_4 := bkF BK219.out 4; have hcz147_0 : w145.cell? ⟨gb218, 0, none⟩ = some (.int .i64 a1_0) := (bkC BK218.out 0).trans rfl; have hcz147_1 : w145.cell? ⟨gb218, 1, none⟩ = some (.int .i64 a1_1) := (bkC BK218.out 1).trans rfl; have hfz147_0 := bkF BK218.out 0; have hfz147_1 := bkF BK218.out 1) | (go_at_call 57; (with_reducible refine (hopmeshref05_within.calls kj7 a2_0 a2_1 a2_2 a2_3 a1_0 a1_1 t230 _ A135.out).mono ?_); rintro e w148 ⟨rfl, hb⟩; have n0_ := Aside0.mk (bkB (g := gb217) (o := .cells #[.int .i64 a0_0, .int .i64 a0_1] 28 (0, 0)) (by (with_reducible repeat (first | refine bkN ?_ _ | refine bkD ?_ | refine bkA ?_ _)); exact BK217.out) hb); have n1_ := Aside0.mk (bkB (g := gb218) (o := .cells #[.int .i64 a1_0, .int .i64 a1_1] 28 (0, 0)) (by (with_reducible repeat (first | refine bkN ?_ _ | refine bkD ?_ | refine bkA ?_ _)); exact BK218.out) hb); have n2_ := Aside0.mk (bkB (g := gb219) (o := .cells #[.int .i64 a2_0, .int .i64 a2_1, .int .i64 a2_2, .int .i64 a2_3, .int .i64 a2_4] 47 (0, 0)) (by (with_reducible repeat (first | refine bkN ?_ _ | refine bkD ?_ | refine bkA ?_ _)); exact BK219.out) hb); have n3_ := Aside0.mk (below_step (by repeat (first | (with_reducible first | exact HB.out | apply blA | apply blN | apply blD | refine blS ?_ GE217.out | refine blS ?_ GE218.out | refine blS ?_ GE219.out) | exact HB.out)) hb); clear BK217; clear BK218; clear BK219; clear HB; have BK217 := n0_; have BK218 := n1_; have BK219 := n2_; have HB := n3_; clear n0_ n1_ n2_ n3_; (try clear hb); (try clear hb2); (try clear hk); (try clear hi)))
    go_ret
    exact ⟨by first | rfl | (simp [errW_none, errW_some] <;> rfl) | (simp [*, errW_none, errW_some] <;> rfl), by repeat (first | (with_reducible first | exact HB.out | apply blA | apply blN | apply blD | refine blS ?_ GE217.out | refine blS ?_ GE218.out | refine blS ?_ GE219.out) | exact HB.out)⟩
   rw [if_pos c30] at H
   have c30b0 : (t221 == 0) = true := beq_iff_eq.mpr c30
   have c30b1 : (t221 != 0) = false := bne_eq_false_iff_eq.mpr c30
   clear c30
   replace H := Option.bind_eq_some_iff.mp H
   obtain ⟨t225, A310, H⟩ := H
   replace H : (if t225 = true then (some true) else (if t222 = 0 then ((hopmeshref05_within.f kj7 a2_0 a2_1 a2_2 a2_3 a0_0 a0_1).bind fun t226 => (if t226 = true then (some true) else (if t223 = 0 then ((hopmeshref05_within.f kj7 a2_0 a2_1 a2_2 a2_3 a1_0 a1_1).bind fun t227 => (some t227)) else (some false)))) else (if t223 = 0 then ((hopmeshref05_within.f kj7 a2_0 a2_1 a2_2 a2_3 a1_0 a1_1).bind fun t228 => (some t228)) else (some false)))) = some r := H
   have A31 := Aside0.mk A310
   clear A310
   by_cases c32 : t225 = true
   ·subst c32
    have H1 : (some true) = some r := by rw [if_pos rfl] at H; exact H
    clear H
    have H := H1
    clear H1
    obtain rfl := Option.some.inj H
    have hnb33 := NB217_218.out
    have hnc33 := NB218_217.out
    have hnb34 := NB217_219.out
    have hnc34 := NB219_217.out
    have hcz35_0 : wc.cell? ⟨gb217, 0, none⟩ = some (.int .i64 a0_0) := (bkC BK217.out 0).trans rfl
    have hcz35_1 : wc.cell? ⟨gb217, 1, none⟩ = some (.int .i64 a0_1) := (bkC BK217.out 1).trans rfl
    have hfz35_0 := bkF BK217.out 0
    have hfz35_1 := bkF BK217.out 1
    have hnb36 := NB218_219.out
    have hnc36 := NB219_218.out
    have hcz37_0 : wc.cell? ⟨gb218, 0, none⟩ = some (.int .i64 a1_0) := (bkC BK218.out 0).trans rfl
    have hcz37_1 : wc.cell? ⟨gb218, 1, none⟩ = some (.int .i64 a1_1) := (bkC BK218.out 1).trans rfl
    have hfz37_0 := bkF BK218.out 0
    have hfz37_1 := bkF BK218.out 1
    have hcz38_0 : wc.cell? ⟨gb219, 0, none⟩ = some (.int .i64 a2_0) := (bkC BK219.out 0).trans rfl
    have hcz38_1 : wc.cell? ⟨gb219, 1, none⟩ = some (.int .i64 a2_1) := (bkC BK219.out 1).trans rfl
    have hcz38_2 : wc.cell? ⟨gb219, 2, none⟩ = some (.int .i64 a2_2) := (bkC BK219.out 2).trans rfl
    have hcz38_3 : wc.cell? ⟨gb219, 3, none⟩ = some (.int .i64 a2_3) := (bkC BK219.out 3).trans rfl
    have hcz38_4 : wc.cell? ⟨gb219, 4, none⟩ = some (.int .i64 a2_4) := (bkC BK219.out 4).trans rfl
    have hfz38_0 := bkF BK219.out 0
    have hfz38_1 := bkF BK219.out 1
    have hfz38_2 := bkF BK219.out 2
    have hfz38_3 := bkF BK219.out 3
    have hfz38_4 := bkF BK219.out 4
    go_wp2_with (first | (go_at_call 57; (with_reducible refine (hopmeshref05_within.calls kj7 a0_0 a0_1 a1_0 a1_1 a2_0 a2_1 false _ A21.out).mono ?_); rintro e w39 ⟨rfl, hb⟩; have n0_ := Aside0.mk (bkB (g := gb217) (o := .cells #[.int .i64 a0_0, .int .i64 a0_1] 28 (0, 0)) (by (with_reducible repeat (first | refine bkN ?_ _ | refine bkD ?_ | refine bkA ?_ _)); exact BK217.out) hb); have n1_ := Aside0.mk (bkB (g := gb218) (o := .cells #[.int .i64 a1_0, .int .i64 a1_1] 28 (0, 0)) (by (with_reducible repeat (first | refine bkN ?_ _ | refine bkD ?_ | refine bkA ?_ _)); exact BK218.out) hb); have n2_ := Aside0.mk (bkB (g := gb219) (o := .cells #[.int .i64 a2_0, .int .i64 a2_1, .int .i64 a2_2, .int .i64 a2_3, .int .i64 a2_4] 47 (0, 0)) (by (with_reducible repeat (first | refine bkN ?_ _ | refine bkD ?_ | refine bkA ?_ _)); exact BK219.out) hb); have n3_ := Aside0.mk (below_step (by repeat (first | (with_reducible first | exact HB.out | apply blA | apply blN | apply blD | refine blS ?_ GE217.out | refine blS ?_ GE218.out | refine blS ?_ GE219.out) | exact HB.out)) hb); clear BK217; clear BK218; clear BK219; clear HB; have BK217 := n0_; have BK218 := n1_; have BK219 := n2_; have HB := n3_; clear n0_ n1_ n2_ n3_; (try clear hb); (try clear hb2); (try clear hk); (try clear hi); have hcz40_0 : w39.cell? ⟨gb217, 0, none⟩ = some (.int .i64 a0_0) := (bkC BK217.out 0).trans rfl; have hcz40_1 : w39.cell? ⟨gb217, 1, none⟩ = some (.int .i64 a0_1) := (bkC BK217.out 1).trans rfl; have hfz40_0 := bkF BK217.out 0; have hfz40_1 := bkF BK217.out 1; have hcz41_0 : w39.cell? ⟨gb218, 0, none⟩ = some (.int .i64 a1_0) := (bkC BK218.out 0).trans rfl; have hcz41_1 : w39.cell? ⟨gb218, 1, none⟩ = some (.int .i64 a1_1) := (bkC BK218.out 1).trans rfl; have hfz41_0 := bkF BK218.out 0; have hfz41_1 := bkF BK218.out 1; have hcz42_0 : w39.cell? ⟨gb219, 0, none⟩ = some (.int .i64 a2_0) := (bkC BK219.out 0).trans rfl; have hcz42_1 : w39.cell? ⟨gb219, 1, none⟩ = some (.int .i64 a2_1) := (bkC BK219.out 1).trans rfl; have hcz42_2 : w39.cell? ⟨gb219, 2, none⟩ = some (.int .i64 a2_2) := (bkC BK219.out 2).trans rfl; have hcz42_3 : w39.cell? ⟨gb219, 3, none⟩ = some (.int .i64 a2_3) := (bkC BK219.out 3).trans rfl; have hcz42_4 : w39.cell? ⟨gb219, 4, none⟩ = some (.int .i64 a2_4) := (bkC BK219.out 4).trans rfl; have hfz42_0 := bkF BK219.out 0; have hfz42_1 := bkF BK219.out 1; have hfz42_2 := bkF BK219.out 2; have hfz42_3 := bkF BK219.out 3; have hfz42_4 := bkF BK219.out 4) | (go_at_call 57; (with_reducible refine (hopmeshref05_within.calls kj7 a0_0 a0_1 a1_0 a1_1 a2_2 a2_3 true _ A31.out).mono ?_); rintro e w43 ⟨rfl, hb⟩; have n0_ := Aside0.mk (bkB (g := gb217) (o := .cells #[.int .i64 a0_0, .int .i64 a0_1] 28 (0, 0)) (by (with_reducible repeat (first | refine bkN ?_ _ | refine bkD ?_ | refine bkA ?_ _)); exact BK217.out) hb); have n1_ := Aside0.mk (bkB (g := gb218) (o := .cells #[.int .i64 a1_0, .int .i64 a1_1] 28 (0, 0)) (by (with_reducible repeat (first | refine bkN ?_ _ | refine bkD ?_ | refine bkA ?_ _)); exact BK218.out) hb); have n2_ := Aside0.mk (bkB (g := gb219) (o := .cells #[.int .i64 a2_0, .int .i64 a2_1, .int .i64 a2_2, .int .i64 a2_3, .int .i64 a2_4] 47 (0, 0)) (by (with_reducible repeat (first | refine bkN ?_ _ | refine bkD ?_ | refine bkA ?_ _)); exact BK219.out) hb); have n3_ := Aside0.mk (below_step (by repeat (first | (with_reducible first | exact HB.out | apply blA | apply blN | apply blD | refine blS ?_ GE217.out | refine blS ?_ GE218.out | refine blS ?_ GE219.out) | exact HB.out)) hb); clear BK217; clear BK218; clear BK219; clear HB; have BK217 := n0_; have BK218 := n1_; have BK219 := n2_; have HB := n3_; clear n0_ n1_ n2_ n3_; (try clear hb); (try clear hb2); (try clear hk); (try clear hi)))
    go_ret
    exact ⟨by first | rfl | (simp [errW_none, errW_some] <;> rfl) | (simp [*, errW_none, errW_some] <;> rfl), by repeat (first | (with_reducible first | exact HB.out | apply blA | apply blN | apply blD | refine blS ?_ GE217.out | refine blS ?_ GE218.out | refine blS ?_ GE219.out) | exact HB.out)⟩
   replace c32 := Bool.eq_false_iff.mpr c32
   subst c32
   have H1 : (if t222 = 0 then ((hopmeshref05_within.f kj7 a2_0 a2_1 a2_2 a2_3 a0_0 a0_1).bind fun t226 => (if t226 = true then (some true) else (if t223 = 0 then ((hopmeshref05_within.f kj7 a2_0 a2_1 a2_2 a2_3 a1_0 a1_1).bind fun t227 => (some t227)) else (some false)))) else (if t223 = 0 then ((hopmeshref05_within.f kj7 a2_0 a2_1 a2_2 a2_3 a1_0 a1_1).bind fun t228 => (some t228)) else (some false))) = some r := by rw [if_neg (show ¬ (false = true) by decide)] at H; exact H
   clear H
   have H := H1
   clear H1
   by_cases c44 : t222 = 0
   rotate_left
   ·rw [if_neg c44] at H
    have c44b0 : (t222 == 0) = false := beq_eq_false_iff_ne.mpr c44
    have c44b1 : (t222 != 0) = true := bne_iff_ne.mpr c44
    by_cases c94 : t223 = 0
    rotate_left
    ·rw [if_neg c94] at H
     have c94b0 : (t223 == 0) = false := beq_eq_false_iff_ne.mpr c94
     have c94b1 : (t223 != 0) = true := bne_iff_ne.mpr c94
     obtain rfl := Option.some.inj H
     have hnb110 := NB217_218.out
     have hnc110 := NB218_217.out
     have hnb111 := NB217_219.out
     have hnc111 := NB219_217.out
     have hcz112_0 : wc.cell? ⟨gb217, 0, none⟩ = some (.int .i64 a0_0) := (bkC BK217.out 0).trans rfl
     have hcz112_1 : wc.cell? ⟨gb217, 1, none⟩ = some (.int .i64 a0_1) := (bkC BK217.out 1).trans rfl
     have hfz112_0 := bkF BK217.out 0
     have hfz112_1 := bkF BK217.out 1
     have hnb113 := NB218_219.out
     have hnc113 := NB219_218.out
     have hcz114_0 : wc.cell? ⟨gb218, 0, none⟩ = some (.int .i64 a1_0) := (bkC BK218.out 0).trans rfl
     have hcz114_1 : wc.cell? ⟨gb218, 1, none⟩ = some (.int .i64 a1_1) := (bkC BK218.out 1).trans rfl
     have hfz114_0 := bkF BK218.out 0
     have hfz114_1 := bkF BK218.out 1
     have hcz115_0 : wc.cell? ⟨gb219, 0, none⟩ = some (.int .i64 a2_0) := (bkC BK219.out 0).trans rfl
     have hcz115_1 : wc.cell? ⟨gb219, 1, none⟩ = some (.int .i64 a2_1) := (bkC BK219.out 1).trans rfl
     have hcz115_2 : wc.cell? ⟨gb219, 2, none⟩ = some (.int .i64 a2_2) := (bkC BK219.out 2).trans rfl
     have hcz115_3 : wc.cell? ⟨gb219, 3, none⟩ = some (.int .i64 a2_3) := (bkC BK219.out 3).trans rfl
     have hcz115_4 : wc.cell? ⟨gb219, 4, none⟩ = some (.int .i64 a2_4) := (bkC BK219.out 4).trans rfl
     have hfz115_0 := bkF BK219.out 0
     have hfz115_1 := bkF BK219.out 1
     have hfz115_2 := bkF BK219.out 2
     have hfz115_3 := bkF BK219.out 3
     have hfz115_4 := bkF BK219.out 4
     go_wp2_with (first | (go_at_call 57; (with_reducible refine (hopmeshref05_within.calls kj7 a0_0 a0_1 a1_0 a1_1 a2_0 a2_1 false _ A21.out).mono ?_); rintro e w116 ⟨rfl, hb⟩; have n0_ := Aside0.mk (bkB (g := gb217) (o := .cells #[.int .i64 a0_0, .int .i64 a0_1] 28 (0, 0)) (by (with_reducible repeat (first | refine bkN ?_ _ | refine bkD ?_ | refine bkA ?_ _)); exact BK217.out) hb); have n1_ := Aside0.mk (bkB (g := gb218) (o := .cells #[.int .i64 a1_0, .int .i64 a1_1] 28 (0, 0)) (by (with_reducible repeat (first | refine bkN ?_ _ | refine bkD ?_ | refine bkA ?_ _)); exact BK218.out) hb); have n2_ := Aside0.mk (bkB (g := gb219) (o := .cells #[.int .i64 a2_0, .int .i64 a2_1, .int .i64 a2_2, .int .i64 a2_3, .int .i64 a2_4] 47 (0, 0)) (by (with_reducible repeat (first | refine bkN ?_ _ | refine bkD ?_ | refine bkA ?_ _)); exact BK219.out) hb); have n3_ := Aside0.mk (below_step (by repeat (first | (with_reducible first | exact HB.out | apply blA | apply blN | apply blD | refine blS ?_ GE217.out | refine blS ?_ GE218.out | refine blS ?_ GE219.out) | exact HB.out)) hb); clear BK217; clear BK218; clear BK219; clear HB; have BK217 := n0_; have BK218 := n1_; have BK219 := n2_; have HB := n3_; clear n0_ n1_ n2_ n3_; (try clear hb); (try clear hb2); (try clear hk); (try clear hi); have hcz117_0 : w116.cell? ⟨gb217, 0, none⟩ = some (.int .i64 a0_0) := (bkC BK217.out 0).trans rfl; have hcz117_1 : w116.cell? ⟨gb217, 1, none⟩ = some (.int .i64 a0_1) := (bkC BK217.out 1).trans rfl; have hfz117_0 := bkF BK217.out 0; have hfz117_1 := bkF BK217.out 1; have hcz118_0 : w116.cell? ⟨gb218, 0, none⟩ = some (.int .i64 a1_0) := (bkC BK218.out 0).trans rfl; have hcz118_1 : w116.cell? ⟨gb218, 1, none⟩ = some (.int .i64 a1_1) := (bkC BK218.out 1).trans rfl; have hfz118_0 := bkF BK218.out 0; have hfz118_1 := bkF BK218.out 1; have hcz119_0 : w116.cell? ⟨gb219, 0, none⟩ = some (.int .i64 a2_0) := (bkC BK219.out 0).trans rfl; have hcz119_1 : w116.cell? ⟨gb219, 1, none⟩ = some (.int .i64 a2_1) := (bkC BK219.out 1).trans rfl; have hcz119_2 : w116.cell? ⟨gb219, 2, none⟩ = some (.int .i64 a2_2) := (bkC BK219.out 2).trans rfl; have hcz119_3 : w116.cell? ⟨gb219, 3, none⟩ = some (.int .i64 a2_3) := (bkC BK219.out 3).trans rfl; have hcz119_4 : w116.cell? ⟨gb219, 4, none⟩ = some (.int .i64 a2_4) := (bkC BK219.out 4).trans rfl; have hfz119_0 := bkF BK219.out 0; have hfz119_1 := bkF BK219.out 1; have hfz119_2 := bkF BK219.out 2; have hfz119_3 := bkF BK219.out 3; have hfz119_4 := bkF BK219.out 4) | (go_at_call 57; (with_reducible refine (hopmeshref05_within.calls kj7 a0_0 a0_1 a1_0 a1_1 a2_2 a2_3 false _ A31.out).mono ?_); rintro e w120 ⟨rfl, hb⟩; have n0_ := Aside0.mk (bkB (g := gb217) (o := .cells #[.int .i64 a0_0, .int .i64 a0_1] 28 (0, 0)) (by (with_reducible repeat (first | refine bkN ?_ _ | refine bkD ?_ | refine bkA ?_ _)); exact BK217.out) hb); have n1_ := Aside0.mk (bkB (g := gb218) (o := .cells #[.int .i64 a1_0, .int .i64 a1_1] 28 (0, 0)) (by (with_reducible repeat (first | refine bkN ?_ _ | refine bkD ?_ | refine bkA ?_ _)); exact BK218.out) hb); have n2_ := Aside0.mk (bkB (g := gb219) (o := .cells #[.int .i64 a2_0, .int .i64 a2_1, .int .i64 a2_2, .int .i64 a2_3, .int .i64 a2_4] 47 (0, 0)) (by (with_reducible repeat (first | refine bkN ?_ _ | refine bkD ?_ | refine bkA ?_ _)); exact BK219.out) hb); have n3_ := Aside0.mk (below_step (by repeat (first | (with_reducible first | exact HB.out | apply blA | apply blN | apply blD | refine blS ?_ GE217.out | refine blS ?_ GE218.out | refine blS ?_ GE219.out) | exact HB.out)) hb); clear BK217; clear BK218; clear BK219; clear HB; have BK217 := n0_; have BK218 := n1_; have BK219 := n2_; have HB := n3_; clear n0_ n1_ n2_ n3_; (try clear hb); (try clear hb2); (try clear hk); (try clear hi)))
     go_ret
     exact ⟨by first | rfl | (simp [errW_none, errW_some] <;> rfl) | (simp [*, errW_none, errW_some] <;> rfl), by repeat (first | (with_reducible first | exact HB.out | apply blA | apply blN | apply blD | refine blS ?_ GE217.out | refine blS ?_ GE218.out | refine blS ?_ GE219.out) | exact HB.out)⟩
    rw [if_pos c94] at H
    have c94b0 : (t223 == 0) = true := beq_iff_eq.mpr c94
    have c94b1 : (t223 != 0) = false := bne_eq_false_iff_eq.mpr c94
    clear c94
    replace H := Option.bind_eq_some_iff.mp H
    obtain ⟨t228, A950, H⟩ := H
    replace H : (some t228) = some r := H
    have A95 := Aside0.mk A950
    clear A950
    obtain rfl := Option.some.inj H
    have hnb96 := NB217_218.out
    have hnc96 := NB218_217.out
    have hnb97 := NB217_219.out
    have hnc97 := NB219_217.out
    have hcz98_0 : wc.cell? ⟨gb217, 0, none⟩ = some (.int .i64 a0_0) := (bkC BK217.out 0).trans rfl
    have hcz98_1 : wc.cell? ⟨gb217, 1, none⟩ = some (.int .i64 a0_1) := (bkC BK217.out 1).trans rfl
    have hfz98_0 := bkF BK217.out 0
    have hfz98_1 := bkF BK217.out 1
    have hnb99 := NB218_219.out
    have hnc99 := NB219_218.out
    have hcz100_0 : wc.cell? ⟨gb218, 0, none⟩ = some (.int .i64 a1_0) := (bkC BK218.out 0).trans rfl
    have hcz100_1 : wc.cell? ⟨gb218, 1, none⟩ = some (.int .i64 a1_1) := (bkC BK218.out 1).trans rfl
    have hfz100_0 := bkF BK218.out 0
    have hfz100_1 := bkF BK218.out 1
    have hcz101_0 : wc.cell? ⟨gb219, 0, none⟩ = some (.int .i64 a2_0) := (bkC BK219.out 0).trans rfl
    have hcz101_1 : wc.cell? ⟨gb219, 1, none⟩ = some (.int .i64 a2_1) := (bkC BK219.out 1).trans rfl
    have hcz101_2 : wc.cell? ⟨gb219, 2, none⟩ = some (.int .i64 a2_2) := (bkC BK219.out 2).trans rfl
    have hcz101_3 : wc.cell? ⟨gb219, 3, none⟩ = some (.int .i64 a2_3) := (bkC BK219.out 3).trans rfl
    have hcz101_4 : wc.cell? ⟨gb219, 4, none⟩ = some (.int .i64 a2_4) := (bkC BK219.out 4).trans rfl
    have hfz101_0 := bkF BK219.out 0
    have hfz101_1 := bkF BK219.out 1
    have hfz101_2 := bkF BK219.out 2
    have hfz101_3 := bkF BK219.out 3
    have hfz101_4 := bkF BK219.out 4
    go_wp2_with (first | (go_at_call 57; (with_reducible refine (hopmeshref05_within.calls kj7 a0_0 a0_1 a1_0 a1_1 a2_0 a2_1 false _ A21.out).mono ?_); rintro e w102 ⟨rfl, hb⟩; have n0_ := Aside0.mk (bkB (g := gb217) (o := .cells #[.int .i64 a0_0, .int .i64 a0_1] 28 (0, 0)) (by (with_reducible repeat (first | refine bkN ?_ _ | refine bkD ?_ | refine bkA ?_ _)); exact BK217.out) hb); have n1_ := Aside0.mk (bkB (g := gb218) (o := .cells #[.int .i64 a1_0, .int .i64 a1_1] 28 (0, 0)) (by (with_reducible repeat (first | refine bkN ?_ _ | refine bkD ?_ | refine bkA ?_ _)); exact BK218.out) hb); have n2_ := Aside0.mk (bkB (g := gb219) (o := .cells #[.int .i64 a2_0, .int .i64 a2_1, .int .i64 a2_2, .int .i64 a2_3, .int .i64 a2_4] 47 (0, 0)) (by (with_reducible repeat (first | refine bkN ?_ _ | refine bkD ?_ | refine bkA ?_ _)); exact BK219.out) hb); have n3_ := Aside0.mk (below_step (by repeat (first | (with_reducible first | exact HB.out | apply blA | apply blN | apply blD | refine blS ?_ GE217.out | refine blS ?_ GE218.out | refine blS ?_ GE219.out) | exact HB.out)) hb); clear BK217; clear BK218; clear BK219; clear HB; have BK217 := n0_; have BK218 := n1_; have BK219 := n2_; have HB := n3_; clear n0_ n1_ n2_ n3_; (try clear hb); (try clear hb2); (try clear hk); (try clear hi); have hcz103_0 : w102.cell? ⟨gb217, 0, none⟩ = some (.int .i64 a0_0) := (bkC BK217.out 0).trans rfl; have hcz103_1 : w102.cell? ⟨gb217, 1, none⟩ = some (.int .i64 a0_1) := (bkC BK217.out 1).trans rfl; have hfz103_0 := bkF BK217.out 0; have hfz103_1 := bkF BK217.out 1; have hcz104_0 : w102.cell? ⟨gb218, 0, none⟩ = some (.int .i64 a1_0) := (bkC BK218.out 0).trans rfl; have hcz104_1 : w102.cell? ⟨gb218, 1, none⟩ = some (.int .i64 a1_1) := (bkC BK218.out 1).trans rfl; have hfz104_0 := bkF BK218.out 0; have hfz104_1 := bkF BK218.out 1; have hcz105_0 : w102.cell? ⟨gb219, 0, none⟩ = some (.int .i64 a2_0) := (bkC BK219.out 0).trans rfl; have hcz105_1 : w102.cell? ⟨gb219, 1, none⟩ = some (.int .i64 a2_1) := (bkC BK219.out 1).trans rfl; have hcz105_2 : w102.cell? ⟨gb219, 2, none⟩ = some (.int .i64 a2_2) := (bkC BK219.out 2).trans rfl; have hcz105_3 : w102.cell? ⟨gb219, 3, none⟩ = some (.int .i64 a2_3) := (bkC BK219.out 3).trans rfl; have hcz105_4 : w102.cell? ⟨gb219, 4, none⟩ = some (.int .i64 a2_4) := (bkC BK219.out 4).trans rfl; have hfz105_0 := bkF BK219.out 0; have hfz105_1 := bkF BK219.out 1; have hfz105_2 := bkF BK219.out 2; have hfz105_3 := bkF BK219.out 3; have hfz105_4 := bkF BK219.out 4) | (go_at_call 57; (with_reducible refine (hopmeshref05_within.calls kj7 a0_0 a0_1 a1_0 a1_1 a2_2 a2_3 false _ A31.out).mono ?_); rintro e w106 ⟨rfl, hb⟩; have n0_ := Aside0.mk (bkB (g := gb217) (o := .cells #[.int .i64 a0_0, .int .i64 a0_1] 28 (0, 0)) (by (with_reducible repeat (first | refine bkN ?_ _ | refine bkD ?_ | refine bkA ?_ _)); exact BK217.out) hb); have n1_ := Aside0.mk (bkB (g := gb218) (o := .cells #[.int .i64 a1_0, .int .i64 a1_1] 28 (0, 0)) (by (with_reducible repeat (first | refine bkN ?_ _ | refine bkD ?_ | refine bkA ?_ _)); exact BK218.out) hb); have n2_ := Aside0.mk (bkB (g := gb219) (o := .cells #[.int .i64 a2_0, .int .i64 a2_1, .int .i64 a2_2, .int .i64 a2_3, .int .i64 a2_4] 47 (0, 0)) (by (with_reducible repeat (first | refine bkN ?_ _ | refine bkD ?_ | refine bkA ?_ _)); exact BK219.out) hb); have n3_ := Aside0.mk (below_step (by repeat (first | (with_reducible first | exact HB.out | apply blA | apply blN | apply blD | refine blS ?_ GE217.out | refine blS ?_ GE218.out | refine blS ?_ GE219.out) | exact HB.out)) hb); clear BK217; clear BK218; clear BK219; clear HB; have BK217 := n0_; have BK218 := n1_; have BK219 := n2_; have HB := n3_; clear n0_ n1_ n2_ n3_; (try clear hb); (try clear hb2); (try clear hk); (try clear hi); have hcz107_0 : w106.cell? ⟨gb219, 0, none⟩ = some (.int .i64 a2_0) := (bkC BK219.out 0).trans rfl; have hcz107_1 : w106.cell? ⟨gb219, 1, none⟩ = some (.int .i64 a2_1) := (bkC BK219.out 1).trans rfl; have hcz107_2 : w106.cell? ⟨gb219, 2, none⟩ = some (.int .i64 a2_2) := (bkC BK219.out 2).trans rfl; have hcz107_3 : w106.cell? ⟨gb219, 3, none⟩ = some (.int .i64 a2_3) := (bkC BK219.out 3).trans rfl; have hcz107_4 : w106.cell? ⟨gb219, 4, none⟩ = some (.int .i64 a2_4) := (bkC BK219.out 4).trans rfl; have hfz107_0 := bkF BK219.out 0; have hfz107_1 := bkF BK219.out 1; have hfz107_2 := bkF BK219.out 2; have hfz107_3 := bkF BK219.out 3; have hfz107_4 := bkF BK219.out 4; have hcz108_0 : w106.cell? ⟨gb218, 0, none⟩ = some (.int .i64 a1_0) := (bkC BK218.out 0).trans rfl; have hcz108_1 : w106.cell? ⟨gb218, 1, none⟩ = some (.int .i64 a1_1) := (bkC BK218.out 1).trans rfl; have hfz108_0 := bkF BK218.out 0; have hfz108_1 := bkF BK218.out 1) | (go_at_call 57; (with_reducible refine (hopmeshref05_within.calls kj7 a2_0 a2_1 a2_2 a2_3 a1_0 a1_1 t228 _ A95.out).mono ?_); rintro e w109 ⟨rfl, hb⟩; have n0_ := Aside0.mk (bkB (g := gb217) (o := .cells #[.int .i64 a0_0, .int .i64 a0_1] 28 (0, 0)) (by (with_reducible repeat (first | refine bkN ?_ _ | refine bkD ?_ | refine bkA ?_ _)); exact BK217.out) hb); have n1_ := Aside0.mk (bkB (g := gb218) (o := .cells #[.int .i64 a1_0, .int .i64 a1_1] 28 (0, 0)) (by (with_reducible repeat (first | refine bkN ?_ _ | refine bkD ?_ | refine bkA ?_ _)); exact BK218.out) hb); have n2_ := Aside0.mk (bkB (g := gb219) (o := .cells #[.int .i64 a2_0, .int .i64 a2_1, .int .i64 a2_2, .int .i64 a2_3, .int .i64 a2_4] 47 (0, 0)) (by (with_reducible repeat (first | refine bkN ?_ _ | refine bkD ?_ | refine bkA ?_ _)); exact BK219.out) hb); have n3_ := Aside0.mk (below_step (by repeat (first | (with_reducible first | exact HB.out | apply blA | apply blN | apply blD | refine blS ?_ GE217.out | refine blS ?_ GE218.out | refine blS ?_ GE219.out) | exact HB.out)) hb); clear BK217; clear BK218; clear BK219; clear HB; have BK217 := n0_; have BK218 := n1_; have BK219 := n2_; have HB := n3_; clear n0_ n1_ n2_ n3_; (try clear hb); (try clear hb2); (try clear hk); (try clear hi)))
    go_ret
    exact ⟨by first | rfl | (simp [errW_none, errW_some] <;> rfl) | (simp [*, errW_none, errW_some] <;> rfl), by repeat (first | (with_reducible first | exact HB.out | apply blA | apply blN | apply blD | refine blS ?_ GE217.out | refine blS ?_ GE218.out | refine blS ?_ GE219.out) | exact HB.out)⟩
   rw [if_pos c44] at H
   have c44b0 : (t222 == 0) = true := beq_iff_eq.mpr c44
   have c44b1 : (t222 != 0) = false := bne_eq_false_iff_eq.mpr c44
   clear c44
   replace H := Option.bind_eq_some_iff.mp H
   obtain ⟨t226, A450, H⟩ := H
   replace H : (if t226 = true then (some true) else (if t223 = 0 then ((hopmeshref05_within.f kj7 a2_0 a2_1 a2_2 a2_3 a1_0 a1_1).bind fun t227 => (some t227)) else (some false))) = some r := H
   have A45 := Aside0.mk A450
   clear A450
   by_cases c46 : t226 = true
   ·subst c46
    have H1 : (some true) = some r := by rw [if_pos rfl] at H; exact H
    clear H
    have H := H1
    clear H1
    obtain rfl := Option.some.inj H
    have hnb47 := NB217_218.out
    have hnc47 := NB218_217.out
    have hnb48 := NB217_219.out
    have hnc48 := NB219_217.out
    have hcz49_0 : wc.cell? ⟨gb217, 0, none⟩ = some (.int .i64 a0_0) := (bkC BK217.out 0).trans rfl
    have hcz49_1 : wc.cell? ⟨gb217, 1, none⟩ = some (.int .i64 a0_1) := (bkC BK217.out 1).trans rfl
    have hfz49_0 := bkF BK217.out 0
    have hfz49_1 := bkF BK217.out 1
    have hnb50 := NB218_219.out
    have hnc50 := NB219_218.out
    have hcz51_0 : wc.cell? ⟨gb218, 0, none⟩ = some (.int .i64 a1_0) := (bkC BK218.out 0).trans rfl
    have hcz51_1 : wc.cell? ⟨gb218, 1, none⟩ = some (.int .i64 a1_1) := (bkC BK218.out 1).trans rfl
    have hfz51_0 := bkF BK218.out 0
    have hfz51_1 := bkF BK218.out 1
    have hcz52_0 : wc.cell? ⟨gb219, 0, none⟩ = some (.int .i64 a2_0) := (bkC BK219.out 0).trans rfl
    have hcz52_1 : wc.cell? ⟨gb219, 1, none⟩ = some (.int .i64 a2_1) := (bkC BK219.out 1).trans rfl
    have hcz52_2 : wc.cell? ⟨gb219, 2, none⟩ = some (.int .i64 a2_2) := (bkC BK219.out 2).trans rfl
    have hcz52_3 : wc.cell? ⟨gb219, 3, none⟩ = some (.int .i64 a2_3) := (bkC BK219.out 3).trans rfl
    have hcz52_4 : wc.cell? ⟨gb219, 4, none⟩ = some (.int .i64 a2_4) := (bkC BK219.out 4).trans rfl
    have hfz52_0 := bkF BK219.out 0
    have hfz52_1 := bkF BK219.out 1
    have hfz52_2 := bkF BK219.out 2
    have hfz52_3 := bkF BK219.out 3
    have hfz52_4 := bkF BK219.out 4
    go_wp2_with (first | (go_at_call 57; (with_reducible refine (hopmeshref05_within.calls kj7 a0_0 a0_1 a1_0 a1_1 a2_0 a2_1 false _ A21.out).mono ?_); rintro e w53 ⟨rfl, hb⟩; have n0_ := Aside0.mk (bkB (g := gb217) (o := .cells #[.int .i64 a0_0, .int .i64 a0_1] 28 (0, 0)) (by (with_reducible repeat (first | refine bkN ?_ _ | refine bkD ?_ | refine bkA ?_ _)); exact BK217.out) hb); have n1_ := Aside0.mk (bkB (g := gb218) (o := .cells #[.int .i64 a1_0, .int .i64 a1_1] 28 (0, 0)) (by (with_reducible repeat (first | refine bkN ?_ _ | refine bkD ?_ | refine bkA ?_ _)); exact BK218.out) hb); have n2_ := Aside0.mk (bkB (g := gb219) (o := .cells #[.int .i64 a2_0, .int .i64 a2_1, .int .i64 a2_2, .int .i64 a2_3, .int .i64 a2_4] 47 (0, 0)) (by (with_reducible repeat (first | refine bkN ?_ _ | refine bkD ?_ | refine bkA ?_ _)); exact BK219.out) hb); have n3_ := Aside0.mk (below_step (by repeat (first | (with_reducible first | exact HB.out | apply blA | apply blN | apply blD | refine blS ?_ GE217.out | refine blS ?_ GE218.out | refine blS ?_ GE219.out) | exact HB.out)) hb); clear BK217; clear BK218; clear BK219; clear HB; have BK217 := n0_; have BK218 := n1_; have BK219 := n2_; have HB := n3_; clear n0_ n1_ n2_ n3_; (try clear hb); (try clear hb2); (try clear hk); (try clear hi); have hcz54_0 : w53.cell? ⟨gb217, 0, none⟩ = some (.int .i64 a0_0) := (bkC BK217.out 0).trans rfl; have hcz54_1 : w53.cell? ⟨gb217, 1, none⟩ = some (.int .i64 a0_1) := (bkC BK217.out 1).trans rfl; have hfz54_0 := bkF BK217.out 0; have hfz54_1 := bkF BK217.out 1; have hcz55_0 : w53.cell? ⟨gb218, 0, none⟩ = some (.int .i64 a1_0) := (bkC BK218.out 0).trans rfl; have hcz55_1 : w53.cell? ⟨gb218, 1, none⟩ = some (.int .i64 a1_1) := (bkC BK218.out 1).trans rfl; have hfz55_0 := bkF BK218.out 0; have hfz55_1 := bkF BK218.out 1; have hcz56_0 : w53.cell? ⟨gb219, 0, none⟩ = some (.int .i64 a2_0) := (bkC BK219.out 0).trans rfl; have hcz56_1 : w53.cell? ⟨gb219, 1, none⟩ = some (.int .i64 a2_1) := (bkC BK219.out 1).trans rfl; have hcz56_2 : w53.cell? ⟨gb219, 2, none⟩ = some (.int .i64 a2_2) := (bkC BK219.out 2).trans rfl; have hcz56_3 : w53.cell? ⟨gb219, 3, none⟩ = some (.int .i64 a2_3) := (bkC BK219.out 3).trans rfl; have hcz56_4 : w53.cell? ⟨gb219, 4, none⟩ = some (.int .i64 a2_4) := (bkC BK219.out 4).trans rfl; have hfz56_0 := bkF BK219.out 0; have hfz56_1 := bkF BK219.out 1; have hfz56_2 := bkF BK219.out 2; have hfz56_3 := bkF BK219.out 3; have hfz56_4 := bkF BK219.out 4) | (go_at_call 57; (with_reducible refine (hopmeshref05_within.calls kj7 a0_0 a0_1 a1_0 a1_1 a2_2 a2_3 false _ A31.out).mono ?_); rintro e w57 ⟨rfl, hb⟩; have n0_ := Aside0.mk (bkB (g := gb217) (o := .cells #[.int .i64 a0_0, .int .i64 a0_1] 28 (0, 0)) (by (with_reducible repeat (first | refine bkN ?_ _ | refine bkD ?_ | refine bkA ?_ _)); exact BK217.out) hb); have n1_ := Aside0.mk (bkB (g := gb218) (o := .cells #[.int .i64 a1_0, .int .i64 a1_1] 28 (0, 0)) (by (with_reducible repeat (first | refine bkN ?_ _ | refine bkD ?_ | refine bkA ?_ _)); exact BK218.out) hb); have n2_ := Aside0.mk (bkB (g := gb219) (o := .cells #[.int .i64 a2_0, .int .i64 a2_1, .int .i64 a2_2, .int .i64 a2_3, .int .i64 a2_4] 47 (0, 0)) (by (with_reducible repeat (first | refine bkN ?_ _ | refine bkD ?_ | refine bkA ?_ _)); exact BK219.out) hb); have n3_ := Aside0.mk (below_step (by repeat (first | (with_reducible first | exact HB.out | apply blA | apply blN | apply blD | refine blS ?_ GE217.out | refine blS ?_ GE218.out | refine blS ?_ GE219.out) | exact HB.out)) hb); clear BK217; clear BK218; clear BK219; clear HB; have BK217 := n0_; have BK218 := n1_; have BK219 := n2_; have HB := n3_; clear n0_ n1_ n2_ n3_; (try clear hb); (try clear hb2); (try clear hk); (try clear hi); have hcz58_0 : w57.cell? ⟨gb219, 0, none⟩ = some (.int .i64 a2_0) := (bkC BK219.out 0).trans rfl; have hcz58_1 : w57.cell? ⟨gb219, 1, none⟩ = some (.int .i64 a2_1) := (bkC BK219.out 1).trans rfl; have hcz58_2 : w57.cell? ⟨gb219, 2, none⟩ = some (.int .i64 a2_2) := (bkC BK219.out 2).trans rfl; have hcz58_3 : w57.cell? ⟨gb219, 3, none⟩ = some (.int .i64 a2_3) := (bkC BK219.out 3).trans rfl; have hcz58_4 : w57.cell? ⟨gb219, 4, none⟩ = some (.int .i64 a2_4) := (bkC BK219.out 4).trans rfl; have hfz58_0 := bkF BK219.out 0; have hfz58_1 := bkF BK219.out 1; have hfz58_2 := bkF BK219.out 2; have hfz58_3 := bkF BK219.out 3; have hfz58_4 := bkF BK219.out 4; have hcz59_0 : w57.cell? ⟨gb217, 0, none⟩ = some (.int .i64 a0_0) := (bkC BK217.out 0).trans rfl; have hcz59_1 : w57.cell? ⟨gb217, 1, none⟩ = some (.int .i64 a0_1) := (bkC BK217.out 1).trans rfl; have hfz59_0 := bkF BK217.out 0; have hfz59_1 := bkF BK217.out 1) | (go_at_call 57; (with_reducible refine (hopmeshref05_within.calls kj7 a2_0 a2_1 a2_2 a2_3 a0_0 a0_1 true _ A45.out).mono ?_); rintro e w60 ⟨rfl, hb⟩; have n0_ := Aside0.mk (bkB (g := gb217) (o := .cells #[.int .i64 a0_0, .int .i64 a0_1] 28 (0, 0)) (by (with_reducible repeat (first | refine bkN ?_ _ | refine bkD ?_ | refine bkA ?_ _)); exact BK217.out) hb); have n1_ := Aside0.mk (bkB (g := gb218) (o := .cells #[.int .i64 a1_0, .int .i64 a1_1] 28 (0, 0)) (by (with_reducible repeat (first | refine bkN ?_ _ | refine bkD ?_ | refine bkA ?_ _)); exact BK218.out) hb); have n2_ := Aside0.mk (bkB (g := gb219) (o := .cells #[.int .i64 a2_0, .int .i64 a2_1, .int .i64 a2_2, .int .i64 a2_3, .int .i64 a2_4] 47 (0, 0)) (by (with_reducible repeat (first | refine bkN ?_ _ | refine bkD ?_ | refine bkA ?_ _)); exact BK219.out) hb); have n3_ := Aside0.mk (below_step (by repeat (first | (with_reducible first | exact HB.out | apply blA | apply blN | apply blD | refine blS ?_ GE217.out | refine blS ?_ GE218.out | refine blS ?_ GE219.out) | exact HB.out)) hb); clear BK217; clear BK218; clear BK219; clear HB; have BK217 := n0_; have BK218 := n1_; have BK219 := n2_; have HB := n3_; clear n0_ n1_ n2_ n3_; (try clear hb); (try clear hb2); (try clear hk); (try clear hi)))
    go_ret
    exact ⟨by first | rfl | (simp [errW_none, errW_some] <;> rfl) | (simp [*, errW_none, errW_some] <;> rfl), by repeat (first | (with_reducible first | exact HB.out | apply blA | apply blN | apply blD | refine blS ?_ GE217.out | refine blS ?_ GE218.out | refine blS ?_ GE219.out) | exact HB.out)⟩
   replace c46 := Bool.eq_false_iff.mpr c46
   subst c46
   have H1 : (if t223 = 0 then ((hopmeshref05_within.f kj7 a2_0 a2_1 a2_2 a2_3 a1_0 a1_1).bind fun t227 => (some t227)) else (some false)) = some r := by rw [if_neg (show ¬ (false = true) by decide)] at H; exact H
   clear H
   have H := H1
   clear H1
   by_cases c61 : t223 = 0
   rotate_left
   ·rw [if_neg c61] at H
    have c61b0 : (t223 == 0) = false := beq_eq_false_iff_ne.mpr c61
    have c61b1 : (t223 != 0) = true := bne_iff_ne.mpr c61
    obtain rfl := Option.some.inj H
    have hnb80 := NB217_218.out
    have hnc80 := NB218_217.out
    have hnb81 := NB217_219.out
    have hnc81 := NB219_217.out
    have hcz82_0 : wc.cell? ⟨gb217, 0, none⟩ = some (.int .i64 a0_0) := (bkC BK217.out 0).trans rfl
    have hcz82_1 : wc.cell? ⟨gb217, 1, none⟩ = some (.int .i64 a0_1) := (bkC BK217.out 1).trans rfl
    have hfz82_0 := bkF BK217.out 0
    have hfz82_1 := bkF BK217.out 1
    have hnb83 := NB218_219.out
    have hnc83 := NB219_218.out
    have hcz84_0 : wc.cell? ⟨gb218, 0, none⟩ = some (.int .i64 a1_0) := (bkC BK218.out 0).trans rfl
    have hcz84_1 : wc.cell? ⟨gb218, 1, none⟩ = some (.int .i64 a1_1) := (bkC BK218.out 1).trans rfl
    have hfz84_0 := bkF BK218.out 0
    have hfz84_1 := bkF BK218.out 1
    have hcz85_0 : wc.cell? ⟨gb219, 0, none⟩ = some (.int .i64 a2_0) := (bkC BK219.out 0).trans rfl
    have hcz85_1 : wc.cell? ⟨gb219, 1, none⟩ = some (.int .i64 a2_1) := (bkC BK219.out 1).trans rfl
    have hcz85_2 : wc.cell? ⟨gb219, 2, none⟩ = some (.int .i64 a2_2) := (bkC BK219.out 2).trans rfl
    have hcz85_3 : wc.cell? ⟨gb219, 3, none⟩ = some (.int .i64 a2_3) := (bkC BK219.out 3).trans rfl
    have hcz85_4 : wc.cell? ⟨gb219, 4, none⟩ = some (.int .i64 a2_4) := (bkC BK219.out 4).trans rfl
    have hfz85_0 := bkF BK219.out 0
    have hfz85_1 := bkF BK219.out 1
    have hfz85_2 := bkF BK219.out 2
    have hfz85_3 := bkF BK219.out 3
    have hfz85_4 := bkF BK219.out 4
    go_wp2_with (first | (go_at_call 57; (with_reducible refine (hopmeshref05_within.calls kj7 a0_0 a0_1 a1_0 a1_1 a2_0 a2_1 false _ A21.out).mono ?_); rintro e w86 ⟨rfl, hb⟩; have n0_ := Aside0.mk (bkB (g := gb217) (o := .cells #[.int .i64 a0_0, .int .i64 a0_1] 28 (0, 0)) (by (with_reducible repeat (first | refine bkN ?_ _ | refine bkD ?_ | refine bkA ?_ _)); exact BK217.out) hb); have n1_ := Aside0.mk (bkB (g := gb218) (o := .cells #[.int .i64 a1_0, .int .i64 a1_1] 28 (0, 0)) (by (with_reducible repeat (first | refine bkN ?_ _ | refine bkD ?_ | refine bkA ?_ _)); exact BK218.out) hb); have n2_ := Aside0.mk (bkB (g := gb219) (o := .cells #[.int .i64 a2_0, .int .i64 a2_1, .int .i64 a2_2, .int .i64 a2_3, .int .i64 a2_4] 47 (0, 0)) (by (with_reducible repeat (first | refine bkN ?_ _ | refine bkD ?_ | refine bkA ?_ _)); exact BK219.out) hb); have n3_ := Aside0.mk (below_step (by repeat (first | (with_reducible first | exact HB.out | apply blA | apply blN | apply blD | refine blS ?_ GE217.out | refine blS ?_ GE218.out | refine blS ?_ GE219.out) | exact HB.out)) hb); clear BK217; clear BK218; clear BK219; clear HB; have BK217 := n0_; have BK218 := n1_; have BK219 := n2_; have HB := n3_; clear n0_ n1_ n2_ n3_; (try clear hb); (try clear hb2); (try clear hk); (try clear hi); have hcz87_0 : w86.cell? ⟨gb217, 0, none⟩ = some (.int .i64 a0_0) := (bkC BK217.out 0).trans rfl; have hcz87_1 : w86.cell? ⟨gb217, 1, none⟩ = some (.int .i64 a0_1) := (bkC BK217.out 1).trans rfl; have hfz87_0 := bkF BK217.out 0; have hfz87_1 := bkF BK217.out 1; have hcz88_0 : w86.cell? ⟨gb218, 0, none⟩ = some (.int .i64 a1_0) := (bkC BK218.out 0).trans rfl; have hcz88_1 : w86.cell? ⟨gb218, 1, none⟩ = some (.int .i64 a1_1) := (bkC BK218.out 1).trans rfl; have hfz88_0 := bkF BK218.out 0; have hfz88_1 := bkF BK218.out 1; have hcz89_0 : w86.cell? ⟨gb219, 0, none⟩ = some (.int .i64 a2_0) := (bkC BK219.out 0).trans rfl; have hcz89_1 : w86.cell? ⟨gb219, 1, none⟩ = some (.int .i64 a2_1) := (bkC BK219.out 1).trans rfl; have hcz89_2 : w86.cell? ⟨gb219, 2, none⟩ = some (.int .i64 a2_2) := (bkC BK219.out 2).trans rfl; have hcz89_3 : w86.cell? ⟨gb219, 3, none⟩ = some (.int .i64 a2_3) := (bkC BK219.out 3).trans rfl; have hcz89_4 : w86.cell? ⟨gb219, 4, none⟩ = some (.int .i64 a2_4) := (bkC BK219.out 4).trans rfl; have hfz89_0 := bkF BK219.out 0; have hfz89_1 := bkF BK219.out 1; have hfz89_2 := bkF BK219.out 2; have hfz89_3 := bkF BK219.out 3; have hfz89_4 := bkF BK219.out 4) | (go_at_call 57; (with_reducible refine (hopmeshref05_within.calls kj7 a0_0 a0_1 a1_0 a1_1 a2_2 a2_3 false _ A31.out).mono ?_); rintro e w90 ⟨rfl, hb⟩; have n0_ := Aside0.mk (bkB (g := gb217) (o := .cells #[.int .i64 a0_0, .int .i64 a0_1] 28 (0, 0)) (by (with_reducible repeat (first | refine bkN ?_ _ | refine bkD ?_ | refine bkA ?_ _)); exact BK217.out) hb); have n1_ := Aside0.mk (bkB (g := gb218) (o := .cells #[.int .i64 a1_0, .int .i64 a1_1] 28 (0, 0)) (by (with_reducible repeat (first | refine bkN ?_ _ | refine bkD ?_ | refine bkA ?_ _)); exact BK218.out) hb); have n2_ := Aside0.mk (bkB (g := gb219) (o := .cells #[.int .i64 a2_0, .int .i64 a2_1, .int .i64 a2_2, .int .i64 a2_3, .int .i64 a2_4] 47 (0, 0)) (by (with_reducible repeat (first | refine bkN ?_ _ | refine bkD ?_ | refine bkA ?_ _)); exact BK219.out) hb); have n3_ := Aside0.mk (below_step (by repeat (first | (with_reducible first | exact HB.out | apply blA | apply blN | apply blD | refine blS ?_ GE217.out | refine blS ?_ GE218.out | refine blS ?_ GE219.out) | exact HB.out)) hb); clear BK217; clear BK218; clear BK219; clear HB; have BK217 := n0_; have BK218 := n1_; have BK219 := n2_; have HB := n3_; clear n0_ n1_ n2_ n3_; (try clear hb); (try clear hb2); (try clear hk); (try clear hi); have hcz91_0 : w90.cell? ⟨gb219, 0, none⟩ = some (.int .i64 a2_0) := (bkC BK219.out 0).trans rfl; have hcz91_1 : w90.cell? ⟨gb219, 1, none⟩ = some (.int .i64 a2_1) := (bkC BK219.out 1).trans rfl; have hcz91_2 : w90.cell? ⟨gb219, 2, none⟩ = some (.int .i64 a2_2) := (bkC BK219.out 2).trans rfl; have hcz91_3 : w90.cell? ⟨gb219, 3, none⟩ = some (.int .i64 a2_3) := (bkC BK219.out 3).trans rfl; have hcz91_4 : w90.cell? ⟨gb219, 4, none⟩ = some (.int .i64 a2_4) := (bkC BK219.out 4).trans rfl; have hfz91_0 := bkF BK219.out 0; have hfz91_1 := bkF BK219.out 1; have hfz91_2 := bkF BK219.out 2; have hfz91_3 := bkF BK219.out 3; have hfz91_4 := bkF BK219.out 4; have hcz92_0 : w90.cell? ⟨gb217, 0, none⟩ = some (.int .i64 a0_0) := (bkC BK217.out 0).trans rfl; have hcz92_1 : w90.cell? ⟨gb217, 1, none⟩ = some (.int .i64 a0_1) := (bkC BK217.out 1).trans rfl; have hfz92_0 := bkF BK217.out 0; have hfz92_1 := bkF BK217.out 1) | (go_at_call 57; (with_reducible refine (hopmeshref05_within.calls kj7 a2_0 a2_1 a2_2 a2_3 a0_0 a0_1 false _ A45.out).mono ?_); rintro e w93 ⟨rfl, hb⟩; have n0_ := Aside0.mk (bkB (g := gb217) (o := .cells #[.int .i64 a0_0, .int .i64 a0_1] 28 (0, 0)) (by (with_reducible repeat (first | refine bkN ?_ _ | refine bkD ?_ | refine bkA ?_ _)); exact BK217.out) hb); have n1_ := Aside0.mk (bkB (g := gb218) (o := .cells #[.int .i64 a1_0, .int .i64 a1_1] 28 (0, 0)) (by (with_reducible repeat (first | refine bkN ?_ _ | refine bkD ?_ | refine bkA ?_ _)); exact BK218.out) hb); have n2_ := Aside0.mk (bkB (g := gb219) (o := .cells #[.int .i64 a2_0, .int .i64 a2_1, .int .i64 a2_2, .int .i64 a2_3, .int .i64 a2_4] 47 (0, 0)) (by (with_reducible repeat (first | refine bkN ?_ _ | refine bkD ?_ | refine bkA ?_ _)); exact BK219.out) hb); have n3_ := Aside0.mk (below_step (by repeat (first | (with_reducible first | exact HB.out | apply blA | apply blN | apply blD | refine blS ?_ GE217.out | refine blS ?_ GE218.out | refine blS ?_ GE219.out) | exact HB.out)) hb); clear BK217; clear BK218; clear BK219; clear HB; have BK217 := n0_; have BK218 := n1_; have BK219 := n2_; have HB := n3_; clear n0_ n1_ n2_ n3_; (try clear hb); (try clear hb2); (try clear hk); (try clear hi)))
    go_ret
    exact ⟨by first | rfl | (simp [errW_none, errW_some] <;> rfl) | (simp [*, errW_none, errW_some] <;> rfl), by repeat (first | (with_reducible first | exact HB.out | apply blA | apply blN | apply blD | refine blS ?_ GE217.out | refine blS ?_ GE218.out | refine blS ?_ GE219.out) | exact HB.out)⟩
   rw [if_pos c61] at H
   have c61b0 : (t223 == 0) = true := beq_iff_eq.mpr c61
   have c61b1 : (t223 != 0) = false := bne_eq_false_iff_eq.mpr c61
   clear c61
   replace H := Option.bind_eq_some_iff.mp H
   obtain ⟨t227, A620, H⟩ := H
   replace H : (some t227) = some r := H
   have A62 := Aside0.mk A620
   clear A620
   obtain rfl := Option.some.inj H
   have hnb63 := NB217_218.out
   have hnc63 := NB218_217.out
   have hnb64 := NB217_219.out
   have hnc64 := NB219_217.out
   have hcz65_0 : wc.cell? ⟨gb217, 0, none⟩ = some (.int .i64 a0_0) := (bkC BK217.out 0).trans rfl
   have hcz65_1 : wc.cell? ⟨gb217, 1, none⟩ = some (.int .i64 a0_1) := (bkC BK217.out 1).trans rfl
   have hfz65_0 := bkF BK217.out 0
   have hfz65_1 := bkF BK217.out 1
   have hnb66 := NB218_219.out
   have hnc66 := NB219_218.out
   have hcz67_0 : wc.cell? ⟨gb218, 0, none⟩ = some (.int .i64 a1_0) := (bkC BK218.out 0).trans rfl
   have hcz67_1 : wc.cell? ⟨gb218, 1, none⟩ = some (.int .i64 a1_1) := (bkC BK218.out 1).trans rfl
   have hfz67_0 := bkF BK218.out 0
   have hfz67_1 := bkF BK218.out 1
   have hcz68_0 : wc.cell? ⟨gb219, 0, none⟩ = some (.int .i64 a2_0) := (bkC BK219.out 0).trans rfl
   have hcz68_1 : wc.cell? ⟨gb219, 1, none⟩ = some (.int .i64 a2_1) := (bkC BK219.out 1).trans rfl
   have hcz68_2 : wc.cell? ⟨gb219, 2, none⟩ = some (.int .i64 a2_2) := (bkC BK219.out 2).trans rfl
   have hcz68_3 : wc.cell? ⟨gb219, 3, none⟩ = some (.int .i64 a2_3) := (bkC BK219.out 3).trans rfl
   have hcz68_4 : wc.cell? ⟨gb219, 4, none⟩ = some (.int .i64 a2_4) := (bkC BK219.out 4).trans rfl
   have hfz68_0 := bkF BK219.out 0
   have hfz68_1 := bkF BK219.out 1
   have hfz68_2 := bkF BK219.out 2
   have hfz68_3 := bkF BK219.out 3
   have hfz68_4 := bkF BK219.out 4
   go_wp2_with (first | (go_at_call 57; (with_reducible refine (hopmeshref05_within.calls kj7 a0_0 a0_1 a1_0 a1_1 a2_0 a2_1 false _ A21.out).mono ?_); rintro e w69 ⟨rfl, hb⟩; have n0_ := Aside0.mk (bkB (g := gb217) (o := .cells #[.int .i64 a0_0, .int .i64 a0_1] 28 (0, 0)) (by (with_reducible repeat (first | refine bkN ?_ _ | refine bkD ?_ | refine bkA ?_ _)); exact BK217.out) hb); have n1_ := Aside0.mk (bkB (g := gb218) (o := .cells #[.int .i64 a1_0, .int .i64 a1_1] 28 (0, 0)) (by (with_reducible repeat (first | refine bkN ?_ _ | refine bkD ?_ | refine bkA ?_ _)); exact BK218.out) hb); have n2_ := Aside0.mk (bkB (g := gb219) (o := .cells #[.int .i64 a2_0, .int .i64 a2_1, .int .i64 a2_2, .int .i64 a2_3, .int .i64 a2_4] 47 (0, 0)) (by (with_reducible repeat (first | refine bkN ?_ _ | refine bkD ?_ | refine bkA ?_ _)); exact BK219.out) hb); have n3_ := Aside0.mk (below_step (by repeat (first | (with_reducible first | exact HB.out | apply blA | apply blN | apply blD | refine blS ?_ GE217.out | refine blS ?_ GE218.out | refine blS ?_ GE219.out) | exact HB.out)) hb); clear BK217; clear BK218; clear BK219; clear HB; have BK217 := n0_; have BK218 := n1_; have BK219 := n2_; have HB := n3_; clear n0_ n1_ n2_ n3_; (try clear hb); (try clear hb2); (try clear hk); (try clear hi); have hcz70_0 : w69.cell? ⟨gb217, 0, none⟩ = some (.int .i64 a0_0) := (bkC BK217.out 0).trans rfl; have hcz70_1 : w69.cell? ⟨gb217, 1, none⟩ = some (.int .i64 a0_1) := (bkC BK217.out 1).trans rfl; have hfz70_0 := bkF BK217.out 0; have hfz70_1 := bkF BK217.out 1; have hcz71_0 : w69.cell? ⟨gb218, 0, none⟩ = some (.int .i64 a1_0) := (bkC BK218.out 0).trans rfl; have hcz71_1 : w69.cell? ⟨gb218, 1, none⟩ = some (.int .i64 a1_1) := (bkC BK218.out 1).trans rfl; have hfz71_0 := bkF BK218.out 0; have hfz71_1 := bkF BK218.out 1; have hcz72_0 : w69.cell? ⟨gb219, 0, none⟩ = some (.int .i64 a2_0) := (bkC BK219.out 0).trans rfl; have hcz72_1 : w69.cell? ⟨gb219, 1, none⟩ = some (.int .i64 a2_1) := (bkC BK219.out 1).trans rfl; have hcz72_2 : w69.cell? ⟨gb219, 2, none⟩ = some (.int .i64 a2_2) := (bkC BK219.out 2).trans rfl; have hcz72_3 : w69.cell? ⟨gb219, 3, none⟩ = some (.int .i64 a2_3) := (bkC BK219.out 3).trans rfl; have hcz72_4 : w69.cell? ⟨gb219, 4, none⟩ = some (.int .i64 a2_4) := (bkC BK219.out 4).trans rfl; have hfz72_0 := bkF BK219.out 0; have hfz72_1 := bkF BK219.out 1; have hfz72_2 := bkF BK219.out 2; have hfz72_3 := bkF BK219.out 3; have hfz72_4 := bkF BK219.out 4) | (go_at_call 57; (with_reducible refine (hopmeshref05_within.calls kj7 a0_0 a0_1 a1_0 a1_1 a2_2 a2_3 false _ A31.out).mono ?_); rintro e w73 ⟨rfl, hb⟩; have n0_ := Aside0.mk (bkB (g := gb217) (o := .cells #[.int .i64 a0_0, .int .i64 a0_1] 28 (0, 0)) (by (with_reducible repeat (first | refine bkN ?_ _ | refine bkD ?_ | refine bkA ?_ _)); exact BK217.out) hb); have n1_ := Aside0.mk (bkB (g := gb218) (o := .cells #[.int .i64 a1_0, .int .i64 a1_1] 28 (0, 0)) (by (with_reducible repeat (first | refine bkN ?_ _ | refine bkD ?_ | refine bkA ?_ _)); exact BK218.out) hb); have n2_ := Aside0.mk (bkB (g := gb219) (o := .cells #[.int .i64 a2_0, .int .i64 a2_1, .int .i64 a2_2, .int .i64 a2_3, .int .i64 a2_4] 47 (0, 0)) (by (with_reducible repeat (first | refine bkN ?_ _ | refine bkD ?_ | refine bkA ?_ _)); exact BK219.out) hb); have n3_ := Aside0.mk (below_step (by repeat (first | (with_reducible first | exact HB.out | apply blA | apply blN | apply blD | refine blS ?_ GE217.out | refine blS ?_ GE218.out | refine blS ?_ GE219.out) | exact HB.out)) hb); clear BK217; clear BK218; clear BK219; clear HB; have BK217 := n0_; have BK218 := n1_; have BK219 := n2_; have HB := n3_; clear n0_ n1_ n2_ n3_; (try clear hb); (try clear hb2); (try clear hk); (try clear hi); have hcz74_0 : w73.cell? ⟨gb219, 0, none⟩ = some (.int .i64 a2_0) := (bkC BK219.out 0).trans rfl; have hcz74_1 : w73.cell? ⟨gb219, 1, none⟩ = some (.int .i64 a2_1) := (bkC BK219.out 1).trans rfl; have hcz74_2 : w73.cell? ⟨gb219, 2, none⟩ = some (.int .i64 a2_2) := (bkC BK219.out 2).trans rfl; have hcz74_3 : w73.cell? ⟨gb219, 3, none⟩ = some (.int .i64 a2_3) := (bkC BK219.out 3).trans rfl; have hcz74_4 : w73.cell? ⟨gb219, 4, none⟩ = some (.int .i64 a2_4) := (bkC BK219.out 4).trans rfl; have hfz74_0 := bkF BK219.out 0; have hfz74_1 := bkF BK219.out 1; have hfz74_2 := bkF BK219.out 2; have hfz74_3 := bkF BK219.out 3; have hfz74_4 := bkF BK219.out 4; have hcz75_0 : w73.cell? ⟨gb217, 0, none⟩ = some (.int .i64 a0_0) := (bkC BK217.out 0).trans rfl; have hcz75_1 : w73.cell? ⟨gb217, 1, none⟩ = some (.int .i64 a0_1) := (bkC BK217.out 1).trans rfl; have hfz75_0 := bkF BK217.out 0; have hfz75_1 := bkF BK217.out 1) | (go_at_call 57; (with_reducible refine (hopmeshref05_within.calls kj7 a2_0 a2_1 a2_2 a2_3 a0_0 a0_1 false _ A45.out).mono ?_); rintro e w76 ⟨rfl, hb⟩; have n0_ := Aside0.mk (bkB (g := gb217) (o := .cells #[.int .i64 a0_0, .int .i64 a0_1] 28 (0, 0)) (by (with_reducible repeat (first | refine bkN ?_ _ | refine bkD ?_ | refine bkA ?_ _)); exact BK217.out) hb); have n1_ := Aside0.mk (bkB (g := gb218) (o := .cells #[.int .i64 a1_0, .int .i64 a1_1] 28 (0, 0)) (by (with_reducible repeat (first | refine bkN ?_ _ | refine bkD ?_ | refine bkA ?_ _)); exact BK218.out) hb); have n2_ := Aside0.mk (bkB (g := gb219) (o := .cells #[.int .i64 a2_0, .int .i64 a2_1, .int .i64 a2_2, .int .i64 a2_3, .int .i64 a2_4] 47 (0, 0)) (by (with_reducible repeat (first | refine bkN ?_ _ | refine bkD ?_ | refine bkA ?_ _)); exact BK219.out) hb); have n3_ := Aside0.mk (below_step (by repeat (first | (with_reducible first | exact HB.out | apply blA | apply blN | apply blD | refine blS ?_ GE217.out | refine blS ?_ GE218.out | refine blS ?_ GE219.out) | exact HB.out)) hb); clear BK217; clear BK218; clear BK219; clear HB; have BK217 := n0_; have BK218 := n1_; have BK219 := n2_; have HB := n3_; clear n0_ n1_ n2_ n3_; (try clear hb); (try clear hb2); (try clear hk); (try clear hi); have hcz77_0 : w76.cell? ⟨gb219, 0, none⟩ = some (.int .i64 a2_0) := (bkC BK219.out 0).trans rfl; have hcz77_1 : w76.cell? ⟨gb219, 1, none⟩ = some (.int .i64 a2_1) := (bkC BK219.out 1).trans rfl; have hcz77_2 : w76.cell? ⟨gb219, 2, none⟩ = some (.int .i64 a2_2) := (bkC BK219.out 2).trans rfl; have hcz77_3 : w76.cell? ⟨gb219, 3, none⟩ = some (.int .i64 a2_3) := (bkC BK219.out 3).trans rfl; have hcz77_4 : w76.cell? ⟨gb219, 4, none⟩ = some (.int .i64 a2_4) := (bkC BK219.out 4).trans rfl; have hfz77_0 := bkF BK219.out 0; have hfz77_1 := bkF BK219.out 1; have hfz77_2 := bkF BK219.out 2; have hfz77_3 := bkF BK219.out 3; have hfz77_4 := bkF BK219.out 4; have hcz78_0 : w76.cell? ⟨gb218, 0, none⟩ = some (.int .i64 a1_0) := (bkC BK218.out 0).trans rfl; have hcz78_1 : w76.cell? ⟨gb218, 1, none⟩ = some (.int .i64 a1_1) := (bkC BK218.out 1).trans rfl; have hfz78_0 := bkF BK218.out 0; have hfz78_1 := bkF BK218.out 1) | (go_at_call 57; (with_reducible refine (hopmeshref05_within.calls kj7 a2_0 a2_1 a2_2 a2_3 a1_0 a1_1 t227 _ A62.out).mono ?_); rintro e w79 ⟨rfl, hb⟩; have n0_ := Aside0.mk (bkB (g := gb217) (o := .cells #[.int .i64 a0_0, .int .i64 a0_1] 28 (0, 0)) (by (with_reducible repeat (first | refine bkN ?_ _ | refine bkD ?_ | refine bkA ?_ _)); exact BK217.out) hb); have n1_ := Aside0.mk (bkB (g := gb218) (o := .cells #[.int .i64 a1_0, .int .i64 a1_1] 28 (0, 0)) (by (with_reducible repeat (first | refine bkN ?_ _ | refine bkD ?_ | refine bkA ?_ _)); exact BK218.out) hb); have n2_ := Aside0.mk (bkB (g := gb219) (o := .cells #[.int .i64 a2_0, .int .i64 a2_1, .int .i64 a2_2, .int .i64 a2_3, .int .i64 a2_4] 47 (0, 0)) (by (with_reducible repeat (first | refine bkN ?_ _ | refine bkD ?_ | refine bkA ?_ _)); exact BK219.out) hb); have n3_ := Aside0.mk (below_step (by repeat (first | (with_reducible first | exact HB.out | apply blA | apply blN | apply blD | refine blS ?_ GE217.out | refine blS ?_ GE218.out | refine blS ?_ GE219.out) | exact HB.out)) hb); clear BK217; clear BK218; clear BK219; clear HB; have BK217 := n0_; have BK218 := n1_; have BK219 := n2_; have HB := n3_; clear n0_ n1_ n2_ n3_; (try clear hb); (try clear hb2); (try clear hk); (try clear hi)))
   go_ret
   exact ⟨by first | rfl | (simp [errW_none, errW_some] <;> rfl) | (simp [*, errW_none, errW_some] <;> rfl), by repeat (first | (with_reducible first | exact HB.out | apply blA | apply blN | apply blD | refine blS ?_ GE217.out | refine blS ?_ GE218.out | refine blS ?_ GE219.out) | exact HB.out)⟩
end Go.Proofs.Ytcdgpnjlaicbcaa.PA
