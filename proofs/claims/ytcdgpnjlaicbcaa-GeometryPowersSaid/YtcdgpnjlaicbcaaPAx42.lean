-- Written by a program of this session (mkprint.py: the kit's print, changed) for this claim. Not trusted: Lean checks it.
import Derived.Test.YtcdgpnjlaicbcaaPAx0
import Derived.Test.YtcdgpnjlaicbcaaPAx9
import Derived.Test.YtcdgpnjlaicbcaaPAx11
import Derived.Test.YtcdgpnjlaicbcaaPAx14
import Derived.Test.YtcdgpnjlaicbcaaPAx23
import Derived.Test.YtcdgpnjlaicbcaaPAx27
import Derived.Test.YtcdgpnjlaicbcaaPAx30
import Derived.Test.YtcdgpnjlaicbcaaPAx40
import Derived.Test.YtcdgpnjlaicbcaaPAx41
import Derived.Test.YtcdgpnjlaicbcaaPAx43
import Derived.Test.YtcdgpnjlaicbcaaPAx48
namespace Go.Proofs.Ytcdgpnjlaicbcaa.PA
open Go.RowKit Go.Proofs.YtcdgpnjlaicbcaaW.PrintWords Go.Proofs.YtcdgpnjlaicbcaaW.PrintLast Go.Proofs.YtcdgpnjlaicbcaaW.PrintMore
attribute [local go_sem] max2_int min2_int max_two min_two max_three min_three max_four min_four   -- for this text's walks alone
-- thin
set_option linter.unusedVariables false
set_option linter.unusedSimpArgs false

/-! ### hopmeshlaw05_GeometryPowers: function 10 -/
def hopmeshlaw05_GeometryPowers.f (k : Nat) (l0_0 : List (S28)) (l0_1 : List Int) (l0_2 : List (S47)) (a0_3 : Int) (a0_4 : Int) (a0_5 : Int) (a1_0 : Int) (a1_1 : Int) (a1_2 : Int) (a1_3 : Int) (a1_4 : Int) (a1_5 : Int) (a1_6 : Int) : Option (Bool) := (hopmeshlaw05_awake.f).bind fun t444 => (if t444 = true then ((hopmeshref05_Few.f l0_0 l0_1 l0_2 a0_3 a0_4 a0_5).bind fun t445 => (if t445 = true then ((geometry_At.f k l0_0 l0_1 l0_2 a0_3 a0_4 a0_5 a1_0 a1_1 a1_4 a1_2 a1_3).bind fun bt446 => ((hopmeshref05_At.f k l0_0 l0_1 l0_2 a0_3 a0_4 a0_5 a1_0 a1_1 a1_4 a1_2 a1_3).bind fun bt448 => ((geometry_Between.f l0_0 l0_1 l0_2 a0_3 a0_4 a0_5 a1_5 a1_6).bind fun bt450 => ((hopmeshref05_Between.f k l0_0 l0_1 l0_2 a0_3 a0_4 a0_5 a1_5 a1_6).bind fun bt452 => ((geometry_Table.f k l0_0 l0_1 l0_2 a0_3 a0_4 a0_5).bind fun bt454 => ((hopmeshref05_Table.f k l0_0 l0_1 l0_2 a0_3 a0_4 a0_5).bind fun bt458 => ((geometry_Check.f l0_0 l0_1 l0_2 a0_3 a0_4 a0_5).bind fun t462 => ((hopmeshref05_Check.f k l0_0 l0_1 l0_2 a0_3 a0_4 a0_5).bind fun t463 => (if t462 = t463 then (if bt446.1 = bt448.1 then (if bt446.2 = bt448.2 then (if bt450.1 = bt452.1 then (if bt450.2 = bt452.2 then (if bt454.2 = bt458.2 then ((slices_EqualFunc_int_int_int_int__slices_Equal_int_int.f bt454.1 bt458.1).bind fun t464 => (some t464)) else (some false)) else (some false)) else (some false)) else (some false)) else (some false)) else (some false)))))))))) else (some true))) else (some false))
theorem hopmeshlaw05_GeometryPowers.mono : ∀ a0 a1 a2 a3 a4 a5 a6 a7 a8 a9 a10 a11 a12 k, LeO (hopmeshlaw05_GeometryPowers.f k a0 a1 a2 a3 a4 a5 a6 a7 a8 a9 a10 a11 a12) (hopmeshlaw05_GeometryPowers.f (k + 1) a0 a1 a2 a3 a4 a5 a6 a7 a8 a9 a10 a11 a12) := by
 intro a0 a1 a2 a3 a4 a5 a6 a7 a8 a9 a10 a11 a12 k
 unfold hopmeshlaw05_GeometryPowers.f
 repeat' first
  | (with_reducible exact geometry_At.mono _ _ _ _ _ _ _ _ _ _ _ _)
  | (with_reducible exact geometry_Table.mono _ _ _ _ _ _ _)
  | (with_reducible exact hopmeshref05_At.mono _ _ _ _ _ _ _ _ _ _ _ _)
  | (with_reducible exact hopmeshref05_Between.mono _ _ _ _ _ _ _ _ _)
  | (with_reducible exact hopmeshref05_Check.mono _ _ _ _ _ _ _)
  | (with_reducible exact hopmeshref05_Table.mono _ _ _ _ _ _ _)
  | (with_reducible exact LeO.refl _)
  | (with_reducible exact LeO.none _)
  | (with_reducible refine LeO.ite ?_ ?_)
  | (with_reducible refine LeO.bind ?_ (fun _ => ?_))
  | exact geometry_At.mono _ _ _ _ _ _ _ _ _ _ _ _
  | exact geometry_Table.mono _ _ _ _ _ _ _
  | exact hopmeshref05_At.mono _ _ _ _ _ _ _ _ _ _ _ _
  | exact hopmeshref05_Between.mono _ _ _ _ _ _ _ _ _
  | exact hopmeshref05_Check.mono _ _ _ _ _ _ _
  | exact hopmeshref05_Table.mono _ _ _ _ _ _ _
  | exact LeO.none _
  | refine LeO.ite ?_ ?_
  | refine LeO.bind ?_ (fun _ => ?_)
def hopmeshlaw05_GeometryPowers.T11 : Bool × List (List Nat × List Nat) := (true, [([], []), ([0], [0]), ([], []), ([2, 1], [2]), ([1, 3], [1, 3]), ([4, 3], [4]), ([5], [5]), ([5], [5]), ([6, 7, 5], [5, 6, 7]), ([5, 8], [5, 8]), ([9, 5], [9]), ([10], [10]), ([10], [10]), ([11, 12, 10], [10, 11, 12]), ([10, 13], [10, 13]), ([14, 10], [14]), ([15], [15]), ([15], [15]), ([16, 17, 15], [15, 16, 17]), ([15, 18], [15, 18]), ([19, 15], [19]), ([20], [20]), ([20], [20]), ([21, 22, 20], [20, 21, 22]), ([20, 23], [20, 23]), ([24, 20], [24]), ([25], [25]), ([25], [25]), ([26, 27, 25], [25, 26, 27]), ([25, 28], [25, 28]), ([29, 25], [29]), ([30], [30]), ([30], [30]), ([31, 32, 30, 30], [30, 31, 32]), ([30, 33], [30, 33]), ([34, 33, 0, 1, 2, 3, 4, 5, 6, 7, 8, 9, 10, 11, 12, 13, 14, 15, 16, 17, 18, 19, 20, 21, 22, 23, 24, 25, 26, 27, 28, 29, 30, 31, 32, 33, 34], [34])])
def hopmeshlaw05_GeometryPowers.B11 : List Nat := [0, 1, 0, 7, 15, 31, 63, 63, 255, 511, 1023, 2047, 2047, 8191, 16383, 32767, 65535, 65535, 262143, 524287, 1048575, 2097151, 2097151, 8388607, 16777215, 33554431, 67108863, 67108863, 268435455, 536870911, 1073741823, 2147483647, 2147483647, 8589934591, 17179869183, 34359738367]
theorem hopmeshlaw05_GeometryPowers.tab11 : rtab .any (opsOf Try.f10 11) = hopmeshlaw05_GeometryPowers.T11 := by kernel_rfl
theorem hopmeshlaw05_GeometryPowers.bits11 : waitsOk hopmeshlaw05_GeometryPowers.T11.2 hopmeshlaw05_GeometryPowers.B11 = true := by kernel_rfl
set_option maxHeartbeats 8000000 in
set_option maxRecDepth 100000 in
theorem hopmeshlaw05_GeometryPowers.calls (k : Nat) (A0_0 : Option Addr) (c0_0 : Nat) (l0_0 : List (S28)) (A0_1 : Option Addr) (c0_1 : Nat) (l0_1 : List Int) (A0_2 : Option Addr) (c0_2 : Nat) (l0_2 : List (S47)) (a0_3 : Int) (a0_4 : Int) (a0_5 : Int) (a1_0 : Int) (a1_1 : Int) (a1_2 : Int) (a1_3 : Int) (a1_4 : Int) (a1_5 : Int) (a1_6 : Int) (r : Bool) (w : World) (hr0_0 : Kd.C k28 w A0_0 l0_0.length l0_0) (hc0_0 : l0_0.length ≤ c0_0) (hr0_1 : Kd.C (Kd.int .i64) w A0_1 l0_1.length l0_1) (hc0_1 : l0_1.length ≤ c0_1) (hr0_2 : Kd.C k47 w A0_2 l0_2.length l0_2) (hc0_2 : l0_2.length ≤ c0_2) (h : hopmeshlaw05_GeometryPowers.f k l0_0 l0_1 l0_2 a0_3 a0_4 a0_5 a1_0 a1_1 a1_2 a1_3 a1_4 a1_5 a1_6 = some r) (hr_ : r = true) :
 Calls Try.prog 10 #[.agg #[.slice A0_0 l0_0.length c0_0, .slice A0_1 l0_1.length c0_1, .slice A0_2 l0_2.length c0_2, .int .i64 a0_3, .int .i64 a0_4, .int .i64 a0_5], .agg #[.int .i64 a1_0, .int .i64 a1_1, .int .i64 a1_2, .int .i64 a1_3, .int .i64 a1_4, .int .i64 a1_5, .int .i64 a1_6]] w fun e w' => e = .returned (.bool r) ∧ Below w.heap.size w w' := by
 have hu26 := Try.underlying26
 have hu56 := Try.underlying56
 have hu28 := Try.underlying28
 have HRT := Aside0.mk hr_
 clear hr_
 have HR0_0 := Aside0.mk hr0_0
 have HC0_0 := Aside0.mk hc0_0
 clear hr0_0 hc0_0
 have HR0_1 := Aside0.mk hr0_1
 have HC0_1 := Aside0.mk hc0_1
 clear hr0_1 hc0_1
 have HR0_2 := Aside0.mk hr0_2
 have HC0_2 := Aside0.mk hc0_2
 clear hr0_2 hc0_2
 have HB := Aside0.mk (Below.refl w.heap.size w)
 have H : ((hopmeshlaw05_awake.f).bind fun t444 => (if t444 = true then ((hopmeshref05_Few.f l0_0 l0_1 l0_2 a0_3 a0_4 a0_5).bind fun t445 => (if t445 = true then ((geometry_At.f k l0_0 l0_1 l0_2 a0_3 a0_4 a0_5 a1_0 a1_1 a1_4 a1_2 a1_3).bind fun bt446 => ((hopmeshref05_At.f k l0_0 l0_1 l0_2 a0_3 a0_4 a0_5 a1_0 a1_1 a1_4 a1_2 a1_3).bind fun bt448 => ((geometry_Between.f l0_0 l0_1 l0_2 a0_3 a0_4 a0_5 a1_5 a1_6).bind fun bt450 => ((hopmeshref05_Between.f k l0_0 l0_1 l0_2 a0_3 a0_4 a0_5 a1_5 a1_6).bind fun bt452 => ((geometry_Table.f k l0_0 l0_1 l0_2 a0_3 a0_4 a0_5).bind fun bt454 => ((hopmeshref05_Table.f k l0_0 l0_1 l0_2 a0_3 a0_4 a0_5).bind fun bt458 => ((geometry_Check.f l0_0 l0_1 l0_2 a0_3 a0_4 a0_5).bind fun t462 => ((hopmeshref05_Check.f k l0_0 l0_1 l0_2 a0_3 a0_4 a0_5).bind fun t463 => (if t462 = t463 then (if bt446.1 = bt448.1 then (if bt446.2 = bt448.2 then (if bt450.1 = bt452.1 then (if bt450.2 = bt452.2 then (if bt454.2 = bt458.2 then ((slices_EqualFunc_int_int_int_int__slices_Equal_int_int.f bt454.1 bt458.1).bind fun t464 => (some t464)) else (some false)) else (some false)) else (some false)) else (some false)) else (some false)) else (some false)))))))))) else (some true))) else (some false))) = some r := h
 clear h
 replace H := Option.bind_eq_some_iff.mp H
 obtain ⟨t444, A30, H⟩ := H
 replace H : (if t444 = true then ((hopmeshref05_Few.f l0_0 l0_1 l0_2 a0_3 a0_4 a0_5).bind fun t445 => (if t445 = true then ((geometry_At.f k l0_0 l0_1 l0_2 a0_3 a0_4 a0_5 a1_0 a1_1 a1_4 a1_2 a1_3).bind fun bt446 => ((hopmeshref05_At.f k l0_0 l0_1 l0_2 a0_3 a0_4 a0_5 a1_0 a1_1 a1_4 a1_2 a1_3).bind fun bt448 => ((geometry_Between.f l0_0 l0_1 l0_2 a0_3 a0_4 a0_5 a1_5 a1_6).bind fun bt450 => ((hopmeshref05_Between.f k l0_0 l0_1 l0_2 a0_3 a0_4 a0_5 a1_5 a1_6).bind fun bt452 => ((geometry_Table.f k l0_0 l0_1 l0_2 a0_3 a0_4 a0_5).bind fun bt454 => ((hopmeshref05_Table.f k l0_0 l0_1 l0_2 a0_3 a0_4 a0_5).bind fun bt458 => ((geometry_Check.f l0_0 l0_1 l0_2 a0_3 a0_4 a0_5).bind fun t462 => ((hopmeshref05_Check.f k l0_0 l0_1 l0_2 a0_3 a0_4 a0_5).bind fun t463 => (if t462 = t463 then (if bt446.1 = bt448.1 then (if bt446.2 = bt448.2 then (if bt450.1 = bt452.1 then (if bt450.2 = bt452.2 then (if bt454.2 = bt458.2 then ((slices_EqualFunc_int_int_int_int__slices_Equal_int_int.f bt454.1 bt458.1).bind fun t464 => (some t464)) else (some false)) else (some false)) else (some false)) else (some false)) else (some false)) else (some false)))))))))) else (some true))) else (some false)) = some r := H
 have A3 := Aside0.mk A30
 clear A30
 by_cases c4 : t444 = true
 rotate_left
 ·replace c4 := Bool.eq_false_iff.mpr c4
  subst c4
  have H1 : (some false) = some r := by rw [if_neg (show ¬ (false = true) by decide)] at H; exact H
  clear H
  have H := H1
  clear H1
  exact absurd (H.trans (congrArg some HRT.out)) (by simp)

 subst c4
 have H1 : ((hopmeshref05_Few.f l0_0 l0_1 l0_2 a0_3 a0_4 a0_5).bind fun t445 => (if t445 = true then ((geometry_At.f k l0_0 l0_1 l0_2 a0_3 a0_4 a0_5 a1_0 a1_1 a1_4 a1_2 a1_3).bind fun bt446 => ((hopmeshref05_At.f k l0_0 l0_1 l0_2 a0_3 a0_4 a0_5 a1_0 a1_1 a1_4 a1_2 a1_3).bind fun bt448 => ((geometry_Between.f l0_0 l0_1 l0_2 a0_3 a0_4 a0_5 a1_5 a1_6).bind fun bt450 => ((hopmeshref05_Between.f k l0_0 l0_1 l0_2 a0_3 a0_4 a0_5 a1_5 a1_6).bind fun bt452 => ((geometry_Table.f k l0_0 l0_1 l0_2 a0_3 a0_4 a0_5).bind fun bt454 => ((hopmeshref05_Table.f k l0_0 l0_1 l0_2 a0_3 a0_4 a0_5).bind fun bt458 => ((geometry_Check.f l0_0 l0_1 l0_2 a0_3 a0_4 a0_5).bind fun t462 => ((hopmeshref05_Check.f k l0_0 l0_1 l0_2 a0_3 a0_4 a0_5).bind fun t463 => (if t462 = t463 then (if bt446.1 = bt448.1 then (if bt446.2 = bt448.2 then (if bt450.1 = bt452.1 then (if bt450.2 = bt452.2 then (if bt454.2 = bt458.2 then ((slices_EqualFunc_int_int_int_int__slices_Equal_int_int.f bt454.1 bt458.1).bind fun t464 => (some t464)) else (some false)) else (some false)) else (some false)) else (some false)) else (some false)) else (some false)))))))))) else (some true))) = some r := by rw [if_pos rfl] at H; exact H
 clear H
 have H := H1
 clear H1
 replace H := Option.bind_eq_some_iff.mp H
 obtain ⟨t445, A50, H⟩ := H
 replace H : (if t445 = true then ((geometry_At.f k l0_0 l0_1 l0_2 a0_3 a0_4 a0_5 a1_0 a1_1 a1_4 a1_2 a1_3).bind fun bt446 => ((hopmeshref05_At.f k l0_0 l0_1 l0_2 a0_3 a0_4 a0_5 a1_0 a1_1 a1_4 a1_2 a1_3).bind fun bt448 => ((geometry_Between.f l0_0 l0_1 l0_2 a0_3 a0_4 a0_5 a1_5 a1_6).bind fun bt450 => ((hopmeshref05_Between.f k l0_0 l0_1 l0_2 a0_3 a0_4 a0_5 a1_5 a1_6).bind fun bt452 => ((geometry_Table.f k l0_0 l0_1 l0_2 a0_3 a0_4 a0_5).bind fun bt454 => ((hopmeshref05_Table.f k l0_0 l0_1 l0_2 a0_3 a0_4 a0_5).bind fun bt458 => ((geometry_Check.f l0_0 l0_1 l0_2 a0_3 a0_4 a0_5).bind fun t462 => ((hopmeshref05_Check.f k l0_0 l0_1 l0_2 a0_3 a0_4 a0_5).bind fun t463 => (if t462 = t463 then (if bt446.1 = bt448.1 then (if bt446.2 = bt448.2 then (if bt450.1 = bt452.1 then (if bt450.2 = bt452.2 then (if bt454.2 = bt458.2 then ((slices_EqualFunc_int_int_int_int__slices_Equal_int_int.f bt454.1 bt458.1).bind fun t464 => (some t464)) else (some false)) else (some false)) else (some false)) else (some false)) else (some false)) else (some false)))))))))) else (some true)) = some r := H
 have A5 := Aside0.mk A50
 clear A50
 by_cases c6 : t445 = true
 rotate_left
 ·replace c6 := Bool.eq_false_iff.mpr c6
  subst c6
  have H1 : (some true) = some r := by rw [if_neg (show ¬ (false = true) by decide)] at H; exact H
  clear H
  have H := H1
  clear H1
  obtain rfl := Option.some.inj H
  go_enter Try.func10, Try.ntmps10
  go_wp2_with (first | ((with_reducible refine gate_dst (N := 2) rfl ?_); refine box_event ?hg (N := 2) ?hd (cs := #[.slice A0_0 l0_0.length c0_0, .slice A0_1 l0_1.length c0_1, .slice A0_2 l0_2.length c0_2, .int .i64 a0_3, .int .i64 a0_4, .int .i64 a0_5]) (t := 26) ?hr ?_; (case hd => rfl); (case hg => rfl); (case hr => first | (go_simp; done) | (go_simp; rfl)); intro gb442 hg w50 hbox hb; have n0_ := Aside0.mk (below_step (by repeat (first | (with_reducible first | exact HB.out | apply blA | apply blN | apply blD) | exact HB.out)) hb); have n1_ := Aside0.mk (hbox); have n2_ := Aside0.mk ((by rw [hg]; exact (below_size (by repeat (first | (with_reducible first | exact HB.out | apply blA | apply blN | apply blD) | exact HB.out))) : w.heap.size ≤ gb442)); have n3_ := Aside0.mk ((by rw [hg]; exact (below_size (by repeat (first | (with_reducible first | exact HB.out | apply blA | apply blN | apply blD) | exact HB.out))) : w.heap.size ≤ gb442)); clear HB; have HB := n0_; have BK442 := n1_; have GW442 := n2_; have GE442 := n3_; clear n0_ n1_ n2_ n3_; clear hb hbox hg) | ((with_reducible refine gate_dst (N := 3) rfl ?_); refine box_event ?hg (N := 3) ?hd (cs := #[.int .i64 a1_0, .int .i64 a1_1, .int .i64 a1_2, .int .i64 a1_3, .int .i64 a1_4, .int .i64 a1_5, .int .i64 a1_6]) (t := 56) ?hr ?_; (case hd => rfl); (case hg => rfl); (case hr => first | (go_simp; done) | (go_simp; rfl)); intro gb443 hg w51 hbox hb; have n0_ := Aside0.mk (bkB (g := gb442) (o := .cells #[.slice A0_0 l0_0.length c0_0, .slice A0_1 l0_1.length c0_1, .slice A0_2 l0_2.length c0_2, .int .i64 a0_3, .int .i64 a0_4, .int .i64 a0_5] 26 (0, 0)) (by (with_reducible repeat (first | refine bkN ?_ _ | refine bkD ?_ | refine bkA ?_ _)); exact BK442.out) hb); have n1_ := Aside0.mk (below_step (by repeat (first | (with_reducible first | exact HB.out | apply blA | apply blN | apply blD | refine blS ?_ GE442.out) | exact HB.out)) hb); have n2_ := Aside0.mk (hbox); have n3_ := Aside0.mk ((by rw [hg]; exact (below_size (by repeat (first | (with_reducible first | exact HB.out | apply blA | apply blN | apply blD | refine blS ?_ GE442.out) | exact HB.out))) : w.heap.size ≤ gb443)); have n4_ := Aside0.mk ((by rw [hg]; exact (below_size (by repeat (first | (with_reducible first | exact HB.out | apply blA | apply blN | apply blD | refine blS ?_ GE442.out) | exact HB.out))) : w.heap.size ≤ gb443)); have n5_ := Aside0.mk ((by rw [hg]; exact Nat.ne_of_lt (blk_lt (g := gb442) (o := .cells #[.slice A0_0 l0_0.length c0_0, .slice A0_1 l0_1.length c0_1, .slice A0_2 l0_2.length c0_2, .int .i64 a0_3, .int .i64 a0_4, .int .i64 a0_5] 26 (0, 0)) (by (with_reducible repeat (first | refine bkN ?_ _ | refine bkD ?_ | refine bkA ?_ _)); exact BK442.out)) : gb442 ≠ gb443)); have n6_ := Aside0.mk ((by rw [hg]; exact Nat.ne_of_gt (blk_lt (g := gb442) (o := .cells #[.slice A0_0 l0_0.length c0_0, .slice A0_1 l0_1.length c0_1, .slice A0_2 l0_2.length c0_2, .int .i64 a0_3, .int .i64 a0_4, .int .i64 a0_5] 26 (0, 0)) (by (with_reducible repeat (first | refine bkN ?_ _ | refine bkD ?_ | refine bkA ?_ _)); exact BK442.out)) : gb443 ≠ gb442)); clear BK442; clear HB; have BK442 := n0_; have HB := n1_; have BK443 := n2_; have GW443 := n3_; have GE443 := n4_; have NB442_443 := n5_; have NB443_442 := n6_; clear n0_ n1_ n2_ n3_ n4_ n5_ n6_; clear hb hbox hg) | ((with_reducible refine gate_callee (f := 11) rfl ?_); refine goesL_ (some 17) rfl rfl Try.func11 (by kernel_rfl) rfl #[] rfl (by (try simp only [List.map_toArray, List.map_cons, List.map_nil]); first | done | rfl | (simp only [List.length_drop, List.length_take]; rfl)) ?_; (with_reducible refine (hopmeshlaw05_awake.calls  true _ A3.out).mono ?_); rintro e w52 ⟨rfl, hb⟩; refine ⟨_, rfl, ?_⟩; have n0_ := Aside0.mk (bkB (g := gb442) (o := .cells #[.slice A0_0 l0_0.length c0_0, .slice A0_1 l0_1.length c0_1, .slice A0_2 l0_2.length c0_2, .int .i64 a0_3, .int .i64 a0_4, .int .i64 a0_5] 26 (0, 0)) (by (with_reducible repeat (first | refine bkN ?_ _ | refine bkD ?_ | refine bkA ?_ _)); exact BK442.out) hb); have n1_ := Aside0.mk (bkB (g := gb443) (o := .cells #[.int .i64 a1_0, .int .i64 a1_1, .int .i64 a1_2, .int .i64 a1_3, .int .i64 a1_4, .int .i64 a1_5, .int .i64 a1_6] 56 (0, 0)) (by (with_reducible repeat (first | refine bkN ?_ _ | refine bkD ?_ | refine bkA ?_ _)); exact BK443.out) hb); have n2_ := Aside0.mk (below_step (by repeat (first | (with_reducible first | exact HB.out | apply blA | apply blN | apply blD | refine blS ?_ GE442.out | refine blS ?_ GE443.out) | exact HB.out)) hb); clear BK442; clear BK443; clear HB; have BK442 := n0_; have BK443 := n1_; have HB := n2_; clear n0_ n1_ n2_; (try clear hb); (try clear hb2); (try clear hk); (try clear hi); have hnb53 := NB442_443.out; have hnc53 := NB443_442.out; have hcz54_0 : w52.cell? ⟨gb442, 0, none⟩ = some (.slice A0_0 l0_0.length c0_0) := (bkC BK442.out 0).trans rfl; have hcz54_1 : w52.cell? ⟨gb442, 1, none⟩ = some (.slice A0_1 l0_1.length c0_1) := (bkC BK442.out 1).trans rfl; have hcz54_2 : w52.cell? ⟨gb442, 2, none⟩ = some (.slice A0_2 l0_2.length c0_2) := (bkC BK442.out 2).trans rfl; have hcz54_3 : w52.cell? ⟨gb442, 3, none⟩ = some (.int .i64 a0_3) := (bkC BK442.out 3).trans rfl; have hcz54_4 : w52.cell? ⟨gb442, 4, none⟩ = some (.int .i64 a0_4) := (bkC BK442.out 4).trans rfl; have hcz54_5 : w52.cell? ⟨gb442, 5, none⟩ = some (.int .i64 a0_5) := (bkC BK442.out 5).trans rfl; have hfz54_0 := bkF BK442.out 0; have hfz54_1 := bkF BK442.out 1; have hfz54_2 := bkF BK442.out 2; have hfz54_3 := bkF BK442.out 3; have hfz54_4 := bkF BK442.out 4; have hfz54_5 := bkF BK442.out 5) | ((with_reducible refine gate_callee (f := 12) rfl ?_); refine goesL_ (some 20) rfl rfl Try.func12 (by kernel_rfl) rfl #[.agg #[.slice A0_0 l0_0.length c0_0, .slice A0_1 l0_1.length c0_1, .slice A0_2 l0_2.length c0_2, .int .i64 a0_3, .int .i64 a0_4, .int .i64 a0_5]] rfl (by (try simp only [List.map_toArray, List.map_cons, List.map_nil]); first | done | rfl | (simp only [List.length_drop, List.length_take]; rfl)) ?_; (with_reducible refine (hopmeshref05_Few.calls _ _ l0_0 _ _ l0_1 _ _ l0_2 a0_3 a0_4 a0_5 false _ ?side1 ?side2 ?side3 ?side4 ?side5 ?side6 A5.out).mono ?_); (case side1 => repeat (first | exact (Kd.C_below HR0_0.out HB.out) | (with_reducible refine Kd.C_alloc ?_ _) | (with_reducible refine Kd.C_drewN ?_ _) | (with_reducible refine Kd.C_drew ?_))); (case side2 => exact HC0_0.out); (case side3 => repeat (first | exact (Kd.C_below HR0_1.out HB.out) | (with_reducible refine Kd.C_alloc ?_ _) | (with_reducible refine Kd.C_drewN ?_ _) | (with_reducible refine Kd.C_drew ?_))); (case side4 => exact HC0_1.out); (case side5 => repeat (first | exact (Kd.C_below HR0_2.out HB.out) | (with_reducible refine Kd.C_alloc ?_ _) | (with_reducible refine Kd.C_drewN ?_ _) | (with_reducible refine Kd.C_drew ?_))); (case side6 => exact HC0_2.out); rintro e w55 ⟨rfl, hb⟩; refine ⟨_, rfl, ?_⟩; have n0_ := Aside0.mk (bkB (g := gb442) (o := .cells #[.slice A0_0 l0_0.length c0_0, .slice A0_1 l0_1.length c0_1, .slice A0_2 l0_2.length c0_2, .int .i64 a0_3, .int .i64 a0_4, .int .i64 a0_5] 26 (0, 0)) (by (with_reducible repeat (first | refine bkN ?_ _ | refine bkD ?_ | refine bkA ?_ _)); exact BK442.out) hb); have n1_ := Aside0.mk (bkB (g := gb443) (o := .cells #[.int .i64 a1_0, .int .i64 a1_1, .int .i64 a1_2, .int .i64 a1_3, .int .i64 a1_4, .int .i64 a1_5, .int .i64 a1_6] 56 (0, 0)) (by (with_reducible repeat (first | refine bkN ?_ _ | refine bkD ?_ | refine bkA ?_ _)); exact BK443.out) hb); have n2_ := Aside0.mk (below_step (by repeat (first | (with_reducible first | exact HB.out | apply blA | apply blN | apply blD | refine blS ?_ GE442.out | refine blS ?_ GE443.out) | exact HB.out)) hb); clear BK442; clear BK443; clear HB; have BK442 := n0_; have BK443 := n1_; have HB := n2_; clear n0_ n1_ n2_; (try clear hb); (try clear hb2); (try clear hk); (try clear hi)))
  go_ret
  exact ⟨by first | rfl | (simp [errW_none, errW_some] <;> rfl) | (simp [*, errW_none, errW_some] <;> rfl), by repeat (first | (with_reducible first | exact HB.out | apply blA | apply blN | apply blD | refine blS ?_ GE442.out | refine blS ?_ GE443.out) | exact HB.out)⟩
 subst c6
 have H1 : ((geometry_At.f k l0_0 l0_1 l0_2 a0_3 a0_4 a0_5 a1_0 a1_1 a1_4 a1_2 a1_3).bind fun bt446 => ((hopmeshref05_At.f k l0_0 l0_1 l0_2 a0_3 a0_4 a0_5 a1_0 a1_1 a1_4 a1_2 a1_3).bind fun bt448 => ((geometry_Between.f l0_0 l0_1 l0_2 a0_3 a0_4 a0_5 a1_5 a1_6).bind fun bt450 => ((hopmeshref05_Between.f k l0_0 l0_1 l0_2 a0_3 a0_4 a0_5 a1_5 a1_6).bind fun bt452 => ((geometry_Table.f k l0_0 l0_1 l0_2 a0_3 a0_4 a0_5).bind fun bt454 => ((hopmeshref05_Table.f k l0_0 l0_1 l0_2 a0_3 a0_4 a0_5).bind fun bt458 => ((geometry_Check.f l0_0 l0_1 l0_2 a0_3 a0_4 a0_5).bind fun t462 => ((hopmeshref05_Check.f k l0_0 l0_1 l0_2 a0_3 a0_4 a0_5).bind fun t463 => (if t462 = t463 then (if bt446.1 = bt448.1 then (if bt446.2 = bt448.2 then (if bt450.1 = bt452.1 then (if bt450.2 = bt452.2 then (if bt454.2 = bt458.2 then ((slices_EqualFunc_int_int_int_int__slices_Equal_int_int.f bt454.1 bt458.1).bind fun t464 => (some t464)) else (some false)) else (some false)) else (some false)) else (some false)) else (some false)) else (some false)))))))))) = some r := by rw [if_pos rfl] at H; exact H
 clear H
 have H := H1
 clear H1
 replace H := Option.bind_eq_some_iff.mp H
 obtain ⟨⟨t446, t447⟩, A70, H⟩ := H
 replace H : ((hopmeshref05_At.f k l0_0 l0_1 l0_2 a0_3 a0_4 a0_5 a1_0 a1_1 a1_4 a1_2 a1_3).bind fun bt448 => ((geometry_Between.f l0_0 l0_1 l0_2 a0_3 a0_4 a0_5 a1_5 a1_6).bind fun bt450 => ((hopmeshref05_Between.f k l0_0 l0_1 l0_2 a0_3 a0_4 a0_5 a1_5 a1_6).bind fun bt452 => ((geometry_Table.f k l0_0 l0_1 l0_2 a0_3 a0_4 a0_5).bind fun bt454 => ((hopmeshref05_Table.f k l0_0 l0_1 l0_2 a0_3 a0_4 a0_5).bind fun bt458 => ((geometry_Check.f l0_0 l0_1 l0_2 a0_3 a0_4 a0_5).bind fun t462 => ((hopmeshref05_Check.f k l0_0 l0_1 l0_2 a0_3 a0_4 a0_5).bind fun t463 => (if t462 = t463 then (if t446 = bt448.1 then (if t447 = bt448.2 then (if bt450.1 = bt452.1 then (if bt450.2 = bt452.2 then (if bt454.2 = bt458.2 then ((slices_EqualFunc_int_int_int_int__slices_Equal_int_int.f bt454.1 bt458.1).bind fun t464 => (some t464)) else (some false)) else (some false)) else (some false)) else (some false)) else (some false)) else (some false))))))))) = some r := H
 have A7 := Aside0.mk A70
 clear A70
 replace H := Option.bind_eq_some_iff.mp H
 obtain ⟨⟨t448, t449⟩, A80, H⟩ := H
 replace H : ((geometry_Between.f l0_0 l0_1 l0_2 a0_3 a0_4 a0_5 a1_5 a1_6).bind fun bt450 => ((hopmeshref05_Between.f k l0_0 l0_1 l0_2 a0_3 a0_4 a0_5 a1_5 a1_6).bind fun bt452 => ((geometry_Table.f k l0_0 l0_1 l0_2 a0_3 a0_4 a0_5).bind fun bt454 => ((hopmeshref05_Table.f k l0_0 l0_1 l0_2 a0_3 a0_4 a0_5).bind fun bt458 => ((geometry_Check.f l0_0 l0_1 l0_2 a0_3 a0_4 a0_5).bind fun t462 => ((hopmeshref05_Check.f k l0_0 l0_1 l0_2 a0_3 a0_4 a0_5).bind fun t463 => (if t462 = t463 then (if t446 = t448 then (if t447 = t449 then (if bt450.1 = bt452.1 then (if bt450.2 = bt452.2 then (if bt454.2 = bt458.2 then ((slices_EqualFunc_int_int_int_int__slices_Equal_int_int.f bt454.1 bt458.1).bind fun t464 => (some t464)) else (some false)) else (some false)) else (some false)) else (some false)) else (some false)) else (some false)))))))) = some r := H
 have A8 := Aside0.mk A80
 clear A80
 replace H := Option.bind_eq_some_iff.mp H
 obtain ⟨⟨t450, t451⟩, A90, H⟩ := H
 replace H : ((hopmeshref05_Between.f k l0_0 l0_1 l0_2 a0_3 a0_4 a0_5 a1_5 a1_6).bind fun bt452 => ((geometry_Table.f k l0_0 l0_1 l0_2 a0_3 a0_4 a0_5).bind fun bt454 => ((hopmeshref05_Table.f k l0_0 l0_1 l0_2 a0_3 a0_4 a0_5).bind fun bt458 => ((geometry_Check.f l0_0 l0_1 l0_2 a0_3 a0_4 a0_5).bind fun t462 => ((hopmeshref05_Check.f k l0_0 l0_1 l0_2 a0_3 a0_4 a0_5).bind fun t463 => (if t462 = t463 then (if t446 = t448 then (if t447 = t449 then (if t450 = bt452.1 then (if t451 = bt452.2 then (if bt454.2 = bt458.2 then ((slices_EqualFunc_int_int_int_int__slices_Equal_int_int.f bt454.1 bt458.1).bind fun t464 => (some t464)) else (some false)) else (some false)) else (some false)) else (some false)) else (some false)) else (some false))))))) = some r := H
 have A9 := Aside0.mk A90
 clear A90
 replace H := Option.bind_eq_some_iff.mp H
 obtain ⟨⟨t452, t453⟩, A100, H⟩ := H
 replace H : ((geometry_Table.f k l0_0 l0_1 l0_2 a0_3 a0_4 a0_5).bind fun bt454 => ((hopmeshref05_Table.f k l0_0 l0_1 l0_2 a0_3 a0_4 a0_5).bind fun bt458 => ((geometry_Check.f l0_0 l0_1 l0_2 a0_3 a0_4 a0_5).bind fun t462 => ((hopmeshref05_Check.f k l0_0 l0_1 l0_2 a0_3 a0_4 a0_5).bind fun t463 => (if t462 = t463 then (if t446 = t448 then (if t447 = t449 then (if t450 = t452 then (if t451 = t453 then (if bt454.2 = bt458.2 then ((slices_EqualFunc_int_int_int_int__slices_Equal_int_int.f bt454.1 bt458.1).bind fun t464 => (some t464)) else (some false)) else (some false)) else (some false)) else (some false)) else (some false)) else (some false)))))) = some r := H
 have A10 := Aside0.mk A100
 clear A100
 replace H := Option.bind_eq_some_iff.mp H
 obtain ⟨⟨t454, t457⟩, A110, H⟩ := H
 replace H : ((hopmeshref05_Table.f k l0_0 l0_1 l0_2 a0_3 a0_4 a0_5).bind fun bt458 => ((geometry_Check.f l0_0 l0_1 l0_2 a0_3 a0_4 a0_5).bind fun t462 => ((hopmeshref05_Check.f k l0_0 l0_1 l0_2 a0_3 a0_4 a0_5).bind fun t463 => (if t462 = t463 then (if t446 = t448 then (if t447 = t449 then (if t450 = t452 then (if t451 = t453 then (if t457 = bt458.2 then ((slices_EqualFunc_int_int_int_int__slices_Equal_int_int.f t454 bt458.1).bind fun t464 => (some t464)) else (some false)) else (some false)) else (some false)) else (some false)) else (some false)) else (some false))))) = some r := H
 have A11 := Aside0.mk A110
 clear A110
 replace H := Option.bind_eq_some_iff.mp H
 obtain ⟨⟨t458, t461⟩, A120, H⟩ := H
 replace H : ((geometry_Check.f l0_0 l0_1 l0_2 a0_3 a0_4 a0_5).bind fun t462 => ((hopmeshref05_Check.f k l0_0 l0_1 l0_2 a0_3 a0_4 a0_5).bind fun t463 => (if t462 = t463 then (if t446 = t448 then (if t447 = t449 then (if t450 = t452 then (if t451 = t453 then (if t457 = t461 then ((slices_EqualFunc_int_int_int_int__slices_Equal_int_int.f t454 t458).bind fun t464 => (some t464)) else (some false)) else (some false)) else (some false)) else (some false)) else (some false)) else (some false)))) = some r := H
 have A12 := Aside0.mk A120
 clear A120
 replace H := Option.bind_eq_some_iff.mp H
 obtain ⟨t462, A130, H⟩ := H
 replace H : ((hopmeshref05_Check.f k l0_0 l0_1 l0_2 a0_3 a0_4 a0_5).bind fun t463 => (if t462 = t463 then (if t446 = t448 then (if t447 = t449 then (if t450 = t452 then (if t451 = t453 then (if t457 = t461 then ((slices_EqualFunc_int_int_int_int__slices_Equal_int_int.f t454 t458).bind fun t464 => (some t464)) else (some false)) else (some false)) else (some false)) else (some false)) else (some false)) else (some false))) = some r := H
 have A13 := Aside0.mk A130
 clear A130
 replace H := Option.bind_eq_some_iff.mp H
 obtain ⟨t463, A140, H⟩ := H
 replace H : (if t462 = t463 then (if t446 = t448 then (if t447 = t449 then (if t450 = t452 then (if t451 = t453 then (if t457 = t461 then ((slices_EqualFunc_int_int_int_int__slices_Equal_int_int.f t454 t458).bind fun t464 => (some t464)) else (some false)) else (some false)) else (some false)) else (some false)) else (some false)) else (some false)) = some r := H
 have A14 := Aside0.mk A140
 clear A140
 by_cases c15 : t462 = t463
 rotate_left
 ·rw [if_neg c15] at H
  have c15b0 : (t462 == t463) = false := beq_eq_false_iff_ne.mpr c15
  have c15b1 : (t462 != t463) = true := bne_iff_ne.mpr c15
  exact absurd (H.trans (congrArg some HRT.out)) (by simp)
 rw [if_pos c15] at H
 have c15b0 : (t462 == t463) = true := beq_iff_eq.mpr c15
 have c15b1 : (t462 != t463) = false := bne_eq_false_iff_eq.mpr c15
 clear c15
 by_cases c16 : t446 = t448
 rotate_left
 ·rw [if_neg c16] at H
  have c16b0 : (t446 == t448) = false := beq_eq_false_iff_ne.mpr c16
  have c16b1 : (t446 != t448) = true := bne_iff_ne.mpr c16
  exact absurd (H.trans (congrArg some HRT.out)) (by simp)
 rw [if_pos c16] at H
 have c16b0 : (t446 == t448) = true := beq_iff_eq.mpr c16
 have c16b1 : (t446 != t448) = false := bne_eq_false_iff_eq.mpr c16
 clear c16
 by_cases c17 : t447 = t449
 rotate_left
 ·rw [if_neg c17] at H
  have c17b0 : (t447 == t449) = false := beq_eq_false_iff_ne.mpr c17
  have c17b1 : (t447 != t449) = true := bne_iff_ne.mpr c17
  exact absurd (H.trans (congrArg some HRT.out)) (by simp)
 rw [if_pos c17] at H
 have c17b0 : (t447 == t449) = true := beq_iff_eq.mpr c17
 have c17b1 : (t447 != t449) = false := bne_eq_false_iff_eq.mpr c17
 clear c17
 by_cases c18 : t450 = t452
 rotate_left
 ·rw [if_neg c18] at H
  have c18b0 : (t450 == t452) = false := beq_eq_false_iff_ne.mpr c18
  have c18b1 : (t450 != t452) = true := bne_iff_ne.mpr c18
  exact absurd (H.trans (congrArg some HRT.out)) (by simp)
 rw [if_pos c18] at H
 have c18b0 : (t450 == t452) = true := beq_iff_eq.mpr c18
 have c18b1 : (t450 != t452) = false := bne_eq_false_iff_eq.mpr c18
 clear c18
 by_cases c19 : t451 = t453
 rotate_left
 ·rw [if_neg c19] at H
  have c19b0 : (t451 == t453) = false := beq_eq_false_iff_ne.mpr c19
  have c19b1 : (t451 != t453) = true := bne_iff_ne.mpr c19
  exact absurd (H.trans (congrArg some HRT.out)) (by simp)
 rw [if_pos c19] at H
 have c19b0 : (t451 == t453) = true := beq_iff_eq.mpr c19
 have c19b1 : (t451 != t453) = false := bne_eq_false_iff_eq.mpr c19
 clear c19
 by_cases c20 : t457 = t461
 rotate_left
 ·rw [if_neg c20] at H
  have c20b0 : (t457 == t461) = false := beq_eq_false_iff_ne.mpr c20
  have c20b1 : (t457 != t461) = true := bne_iff_ne.mpr c20
  exact absurd (H.trans (congrArg some HRT.out)) (by simp)
 rw [if_pos c20] at H
 have c20b0 : (t457 == t461) = true := beq_iff_eq.mpr c20
 have c20b1 : (t457 != t461) = false := bne_eq_false_iff_eq.mpr c20
 clear c20
 replace H := Option.bind_eq_some_iff.mp H
 obtain ⟨t464, A210, H⟩ := H
 replace H : (some t464) = some r := H
 have A21 := Aside0.mk A210
 clear A210
 obtain rfl := Option.some.inj H
 go_enter Try.func10, Try.ntmps10
 try go_wp2_with (first | ((with_reducible refine gate_dst (N := 2) rfl ?_); refine box_event ?hg (N := 2) ?hd (cs := #[.slice A0_0 l0_0.length c0_0, .slice A0_1 l0_1.length c0_1, .slice A0_2 l0_2.length c0_2, .int .i64 a0_3, .int .i64 a0_4, .int .i64 a0_5]) (t := 26) ?hr ?_; (case hd => rfl); (case hg => rfl); (case hr => first | (go_simp; done) | (go_simp; rfl)); intro gb442 hg w22 hbox hb; have n0_ := Aside0.mk (below_step (by repeat (first | (with_reducible first | exact HB.out | apply blA | apply blN | apply blD) | exact HB.out)) hb); have n1_ := Aside0.mk (hbox); have n2_ := Aside0.mk ((by rw [hg]; exact (below_size (by repeat (first | (with_reducible first | exact HB.out | apply blA | apply blN | apply blD) | exact HB.out))) : w.heap.size ≤ gb442)); have n3_ := Aside0.mk ((by rw [hg]; exact (below_size (by repeat (first | (with_reducible first | exact HB.out | apply blA | apply blN | apply blD) | exact HB.out))) : w.heap.size ≤ gb442)); clear HB; have HB := n0_; have BK442 := n1_; have GW442 := n2_; have GE442 := n3_; clear n0_ n1_ n2_ n3_; clear hb hbox hg) | ((with_reducible refine gate_dst (N := 3) rfl ?_); refine box_event ?hg (N := 3) ?hd (cs := #[.int .i64 a1_0, .int .i64 a1_1, .int .i64 a1_2, .int .i64 a1_3, .int .i64 a1_4, .int .i64 a1_5, .int .i64 a1_6]) (t := 56) ?hr ?_; (case hd => rfl); (case hg => rfl); (case hr => first | (go_simp; done) | (go_simp; rfl)); intro gb443 hg w23 hbox hb; have n0_ := Aside0.mk (bkB (g := gb442) (o := .cells #[.slice A0_0 l0_0.length c0_0, .slice A0_1 l0_1.length c0_1, .slice A0_2 l0_2.length c0_2, .int .i64 a0_3, .int .i64 a0_4, .int .i64 a0_5] 26 (0, 0)) (by (with_reducible repeat (first | refine bkN ?_ _ | refine bkD ?_ | refine bkA ?_ _)); exact BK442.out) hb); have n1_ := Aside0.mk (below_step (by repeat (first | (with_reducible first | exact HB.out | apply blA | apply blN | apply blD | refine blS ?_ GE442.out) | exact HB.out)) hb); have n2_ := Aside0.mk (hbox); have n3_ := Aside0.mk ((by rw [hg]; exact (below_size (by repeat (first | (with_reducible first | exact HB.out | apply blA | apply blN | apply blD | refine blS ?_ GE442.out) | exact HB.out))) : w.heap.size ≤ gb443)); have n4_ := Aside0.mk ((by rw [hg]; exact (below_size (by repeat (first | (with_reducible first | exact HB.out | apply blA | apply blN | apply blD | refine blS ?_ GE442.out) | exact HB.out))) : w.heap.size ≤ gb443)); have n5_ := Aside0.mk ((by rw [hg]; exact Nat.ne_of_lt (blk_lt (g := gb442) (o := .cells #[.slice A0_0 l0_0.length c0_0, .slice A0_1 l0_1.length c0_1, .slice A0_2 l0_2.length c0_2, .int .i64 a0_3, .int .i64 a0_4, .int .i64 a0_5] 26 (0, 0)) (by (with_reducible repeat (first | refine bkN ?_ _ | refine bkD ?_ | refine bkA ?_ _)); exact BK442.out)) : gb442 ≠ gb443)); have n6_ := Aside0.mk ((by rw [hg]; exact Nat.ne_of_gt (blk_lt (g := gb442) (o := .cells #[.slice A0_0 l0_0.length c0_0, .slice A0_1 l0_1.length c0_1, .slice A0_2 l0_2.length c0_2, .int .i64 a0_3, .int .i64 a0_4, .int .i64 a0_5] 26 (0, 0)) (by (with_reducible repeat (first | refine bkN ?_ _ | refine bkD ?_ | refine bkA ?_ _)); exact BK442.out)) : gb443 ≠ gb442)); clear BK442; clear HB; have BK442 := n0_; have HB := n1_; have BK443 := n2_; have GW443 := n3_; have GE443 := n4_; have NB442_443 := n5_; have NB443_442 := n6_; clear n0_ n1_ n2_ n3_ n4_ n5_ n6_; clear hb hbox hg) | ((with_reducible refine gate_callee (f := 11) rfl ?_); refine goesL_ (some 17) rfl rfl Try.func11 (by kernel_rfl) rfl #[] rfl (by (try simp only [List.map_toArray, List.map_cons, List.map_nil]); first | done | rfl | (simp only [List.length_drop, List.length_take]; rfl)) ?_; (with_reducible refine (hopmeshlaw05_awake.calls  true _ A3.out).mono ?_); rintro e w24 ⟨rfl, hb⟩; refine ⟨_, rfl, ?_⟩; have n0_ := Aside0.mk (bkB (g := gb442) (o := .cells #[.slice A0_0 l0_0.length c0_0, .slice A0_1 l0_1.length c0_1, .slice A0_2 l0_2.length c0_2, .int .i64 a0_3, .int .i64 a0_4, .int .i64 a0_5] 26 (0, 0)) (by (with_reducible repeat (first | refine bkN ?_ _ | refine bkD ?_ | refine bkA ?_ _)); exact BK442.out) hb); have n1_ := Aside0.mk (bkB (g := gb443) (o := .cells #[.int .i64 a1_0, .int .i64 a1_1, .int .i64 a1_2, .int .i64 a1_3, .int .i64 a1_4, .int .i64 a1_5, .int .i64 a1_6] 56 (0, 0)) (by (with_reducible repeat (first | refine bkN ?_ _ | refine bkD ?_ | refine bkA ?_ _)); exact BK443.out) hb); have n2_ := Aside0.mk (below_step (by repeat (first | (with_reducible first | exact HB.out | apply blA | apply blN | apply blD | refine blS ?_ GE442.out | refine blS ?_ GE443.out) | exact HB.out)) hb); clear BK442; clear BK443; clear HB; have BK442 := n0_; have BK443 := n1_; have HB := n2_; clear n0_ n1_ n2_; (try clear hb); (try clear hb2); (try clear hk); (try clear hi); have hnb25 := NB442_443.out; have hnc25 := NB443_442.out; have hcz26_0 : w24.cell? ⟨gb442, 0, none⟩ = some (.slice A0_0 l0_0.length c0_0) := (bkC BK442.out 0).trans rfl; have hcz26_1 : w24.cell? ⟨gb442, 1, none⟩ = some (.slice A0_1 l0_1.length c0_1) := (bkC BK442.out 1).trans rfl; have hcz26_2 : w24.cell? ⟨gb442, 2, none⟩ = some (.slice A0_2 l0_2.length c0_2) := (bkC BK442.out 2).trans rfl; have hcz26_3 : w24.cell? ⟨gb442, 3, none⟩ = some (.int .i64 a0_3) := (bkC BK442.out 3).trans rfl; have hcz26_4 : w24.cell? ⟨gb442, 4, none⟩ = some (.int .i64 a0_4) := (bkC BK442.out 4).trans rfl; have hcz26_5 : w24.cell? ⟨gb442, 5, none⟩ = some (.int .i64 a0_5) := (bkC BK442.out 5).trans rfl; have hfz26_0 := bkF BK442.out 0; have hfz26_1 := bkF BK442.out 1; have hfz26_2 := bkF BK442.out 2; have hfz26_3 := bkF BK442.out 3; have hfz26_4 := bkF BK442.out 4; have hfz26_5 := bkF BK442.out 5) | ((with_reducible refine gate_callee (f := 12) rfl ?_); refine goesL_ (some 20) rfl rfl Try.func12 (by kernel_rfl) rfl #[.agg #[.slice A0_0 l0_0.length c0_0, .slice A0_1 l0_1.length c0_1, .slice A0_2 l0_2.length c0_2, .int .i64 a0_3, .int .i64 a0_4, .int .i64 a0_5]] rfl (by (try simp only [List.map_toArray, List.map_cons, List.map_nil]); first | done | rfl | (simp only [List.length_drop, List.length_take]; rfl)) ?_; (with_reducible refine (hopmeshref05_Few.calls _ _ l0_0 _ _ l0_1 _ _ l0_2 a0_3 a0_4 a0_5 true _ ?side1 ?side2 ?side3 ?side4 ?side5 ?side6 A5.out).mono ?_); (case side1 => repeat (first | exact (Kd.C_below HR0_0.out HB.out) | (with_reducible refine Kd.C_alloc ?_ _) | (with_reducible refine Kd.C_drewN ?_ _) | (with_reducible refine Kd.C_drew ?_))); (case side2 => exact HC0_0.out); (case side3 => repeat (first | exact (Kd.C_below HR0_1.out HB.out) | (with_reducible refine Kd.C_alloc ?_ _) | (with_reducible refine Kd.C_drewN ?_ _) | (with_reducible refine Kd.C_drew ?_))); (case side4 => exact HC0_1.out); (case side5 => repeat (first | exact (Kd.C_below HR0_2.out HB.out) | (with_reducible refine Kd.C_alloc ?_ _) | (with_reducible refine Kd.C_drewN ?_ _) | (with_reducible refine Kd.C_drew ?_))); (case side6 => exact HC0_2.out); rintro e w27 ⟨rfl, hb⟩; refine ⟨_, rfl, ?_⟩; have n0_ := Aside0.mk (bkB (g := gb442) (o := .cells #[.slice A0_0 l0_0.length c0_0, .slice A0_1 l0_1.length c0_1, .slice A0_2 l0_2.length c0_2, .int .i64 a0_3, .int .i64 a0_4, .int .i64 a0_5] 26 (0, 0)) (by (with_reducible repeat (first | refine bkN ?_ _ | refine bkD ?_ | refine bkA ?_ _)); exact BK442.out) hb); have n1_ := Aside0.mk (bkB (g := gb443) (o := .cells #[.int .i64 a1_0, .int .i64 a1_1, .int .i64 a1_2, .int .i64 a1_3, .int .i64 a1_4, .int .i64 a1_5, .int .i64 a1_6] 56 (0, 0)) (by (with_reducible repeat (first | refine bkN ?_ _ | refine bkD ?_ | refine bkA ?_ _)); exact BK443.out) hb); have n2_ := Aside0.mk (below_step (by repeat (first | (with_reducible first | exact HB.out | apply blA | apply blN | apply blD | refine blS ?_ GE442.out | refine blS ?_ GE443.out) | exact HB.out)) hb); clear BK442; clear BK443; clear HB; have BK442 := n0_; have BK443 := n1_; have HB := n2_; clear n0_ n1_ n2_; (try clear hb); (try clear hb2); (try clear hk); (try clear hi); have hcz28_0 : w27.cell? ⟨gb442, 0, none⟩ = some (.slice A0_0 l0_0.length c0_0) := (bkC BK442.out 0).trans rfl; have hcz28_1 : w27.cell? ⟨gb442, 1, none⟩ = some (.slice A0_1 l0_1.length c0_1) := (bkC BK442.out 1).trans rfl; have hcz28_2 : w27.cell? ⟨gb442, 2, none⟩ = some (.slice A0_2 l0_2.length c0_2) := (bkC BK442.out 2).trans rfl; have hcz28_3 : w27.cell? ⟨gb442, 3, none⟩ = some (.int .i64 a0_3) := (bkC BK442.out 3).trans rfl; have hcz28_4 : w27.cell? ⟨gb442, 4, none⟩ = some (.int .i64 a0_4) := (bkC BK442.out 4).trans rfl; have hcz28_5 : w27.cell? ⟨gb442, 5, none⟩ = some (.int .i64 a0_5) := (bkC BK442.out 5).trans rfl; have hfz28_0 := bkF BK442.out 0; have hfz28_1 := bkF BK442.out 1; have hfz28_2 := bkF BK442.out 2; have hfz28_3 := bkF BK442.out 3; have hfz28_4 := bkF BK442.out 4; have hfz28_5 := bkF BK442.out 5; have hcz29_0 : w27.cell? ⟨gb443, 0, none⟩ = some (.int .i64 a1_0) := (bkC BK443.out 0).trans rfl; have hcz29_1 : w27.cell? ⟨gb443, 1, none⟩ = some (.int .i64 a1_1) := (bkC BK443.out 1).trans rfl; have hcz29_2 : w27.cell? ⟨gb443, 2, none⟩ = some (.int .i64 a1_2) := (bkC BK443.out 2).trans rfl; have hcz29_3 : w27.cell? ⟨gb443, 3, none⟩ = some (.int .i64 a1_3) := (bkC BK443.out 3).trans rfl; have hcz29_4 : w27.cell? ⟨gb443, 4, none⟩ = some (.int .i64 a1_4) := (bkC BK443.out 4).trans rfl; have hcz29_5 : w27.cell? ⟨gb443, 5, none⟩ = some (.int .i64 a1_5) := (bkC BK443.out 5).trans rfl; have hcz29_6 : w27.cell? ⟨gb443, 6, none⟩ = some (.int .i64 a1_6) := (bkC BK443.out 6).trans rfl; have hfz29_0 := bkF BK443.out 0; have hfz29_1 := bkF BK443.out 1; have hfz29_2 := bkF BK443.out 2; have hfz29_3 := bkF BK443.out 3; have hfz29_4 := bkF BK443.out 4; have hfz29_5 := bkF BK443.out 5; have hfz29_6 := bkF BK443.out 6) | ((with_reducible refine gate_callee (f := 23) rfl ?_); refine goesL_ (some 30) rfl rfl Try.func23 (by kernel_rfl) rfl #[.agg #[.slice A0_0 l0_0.length c0_0, .slice A0_1 l0_1.length c0_1, .slice A0_2 l0_2.length c0_2, .int .i64 a0_3, .int .i64 a0_4, .int .i64 a0_5], .agg #[.int .i64 a1_0, .int .i64 a1_1], .int .i64 a1_4, .agg #[.int .i64 a1_2, .int .i64 a1_3]] rfl (by (try simp only [List.map_toArray, List.map_cons, List.map_nil]); first | done | rfl | (simp only [List.length_drop, List.length_take]; rfl)) ?_; (with_reducible refine (geometry_At.calls k _ _ l0_0 _ _ l0_1 _ _ l0_2 a0_3 a0_4 a0_5 a1_0 a1_1 a1_4 a1_2 a1_3 t446 t447 _ ?side1 ?side2 ?side3 ?side4 ?side5 ?side6 A7.out).mono ?_); (case side1 => repeat (first | exact (Kd.C_below HR0_0.out HB.out) | (with_reducible refine Kd.C_alloc ?_ _) | (with_reducible refine Kd.C_drewN ?_ _) | (with_reducible refine Kd.C_drew ?_))); (case side2 => exact HC0_0.out); (case side3 => repeat (first | exact (Kd.C_below HR0_1.out HB.out) | (with_reducible refine Kd.C_alloc ?_ _) | (with_reducible refine Kd.C_drewN ?_ _) | (with_reducible refine Kd.C_drew ?_))); (case side4 => exact HC0_1.out); (case side5 => repeat (first | exact (Kd.C_below HR0_2.out HB.out) | (with_reducible refine Kd.C_alloc ?_ _) | (with_reducible refine Kd.C_drewN ?_ _) | (with_reducible refine Kd.C_drew ?_))); (case side6 => exact HC0_2.out); rintro e w30 ⟨rfl, hb⟩; refine ⟨_, rfl, ?_⟩; have n0_ := Aside0.mk (bkB (g := gb442) (o := .cells #[.slice A0_0 l0_0.length c0_0, .slice A0_1 l0_1.length c0_1, .slice A0_2 l0_2.length c0_2, .int .i64 a0_3, .int .i64 a0_4, .int .i64 a0_5] 26 (0, 0)) (by (with_reducible repeat (first | refine bkN ?_ _ | refine bkD ?_ | refine bkA ?_ _)); exact BK442.out) hb); have n1_ := Aside0.mk (bkB (g := gb443) (o := .cells #[.int .i64 a1_0, .int .i64 a1_1, .int .i64 a1_2, .int .i64 a1_3, .int .i64 a1_4, .int .i64 a1_5, .int .i64 a1_6] 56 (0, 0)) (by (with_reducible repeat (first | refine bkN ?_ _ | refine bkD ?_ | refine bkA ?_ _)); exact BK443.out) hb); have n2_ := Aside0.mk (below_step (by repeat (first | (with_reducible first | exact HB.out | apply blA | apply blN | apply blD | refine blS ?_ GE442.out | refine blS ?_ GE443.out) | exact HB.out)) hb); clear BK442; clear BK443; clear HB; have BK442 := n0_; have BK443 := n1_; have HB := n2_; clear n0_ n1_ n2_; (try clear hb); (try clear hb2); (try clear hk); (try clear hi); have hcz31_0 : w30.cell? ⟨gb442, 0, none⟩ = some (.slice A0_0 l0_0.length c0_0) := (bkC BK442.out 0).trans rfl; have hcz31_1 : w30.cell? ⟨gb442, 1, none⟩ = some (.slice A0_1 l0_1.length c0_1) := (bkC BK442.out 1).trans rfl; have hcz31_2 : w30.cell? ⟨gb442, 2, none⟩ = some (.slice A0_2 l0_2.length c0_2) := (bkC BK442.out 2).trans rfl; have hcz31_3 : w30.cell? ⟨gb442, 3, none⟩ = some (.int .i64 a0_3) := (bkC BK442.out 3).trans rfl; have hcz31_4 : w30.cell? ⟨gb442, 4, none⟩ = some (.int .i64 a0_4) := (bkC BK442.out 4).trans rfl; have hcz31_5 : w30.cell? ⟨gb442, 5, none⟩ = some (.int .i64 a0_5) := (bkC BK442.out 5).trans rfl; have hfz31_0 := bkF BK442.out 0; have hfz31_1 := bkF BK442.out 1; have hfz31_2 := bkF BK442.out 2; have hfz31_3 := bkF BK442.out 3; have hfz31_4 := bkF BK442.out 4; have hfz31_5 := bkF BK442.out 5; have hcz32_0 : w30.cell? ⟨gb443, 0, none⟩ = some (.int .i64 a1_0) := (bkC BK443.out 0).trans rfl; have hcz32_1 : w30.cell? ⟨gb443, 1, none⟩ = some (.int .i64 a1_1) := (bkC BK443.out 1).trans rfl; have hcz32_2 : w30.cell? ⟨gb443, 2, none⟩ = some (.int .i64 a1_2) := (bkC BK443.out 2).trans rfl; have hcz32_3 : w30.cell? ⟨gb443, 3, none⟩ = some (.int .i64 a1_3) := (bkC BK443.out 3).trans rfl; have hcz32_4 : w30.cell? ⟨gb443, 4, none⟩ = some (.int .i64 a1_4) := (bkC BK443.out 4).trans rfl; have hcz32_5 : w30.cell? ⟨gb443, 5, none⟩ = some (.int .i64 a1_5) := (bkC BK443.out 5).trans rfl; have hcz32_6 : w30.cell? ⟨gb443, 6, none⟩ = some (.int .i64 a1_6) := (bkC BK443.out 6).trans rfl; have hfz32_0 := bkF BK443.out 0; have hfz32_1 := bkF BK443.out 1; have hfz32_2 := bkF BK443.out 2; have hfz32_3 := bkF BK443.out 3; have hfz32_4 := bkF BK443.out 4; have hfz32_5 := bkF BK443.out 5; have hfz32_6 := bkF BK443.out 6) | ((with_reducible refine gate_callee (f := 33) rfl ?_); refine goesL_ (some 41) rfl rfl Try.func33 (by kernel_rfl) rfl #[.agg #[.slice A0_0 l0_0.length c0_0, .slice A0_1 l0_1.length c0_1, .slice A0_2 l0_2.length c0_2, .int .i64 a0_3, .int .i64 a0_4, .int .i64 a0_5], .agg #[.int .i64 a1_0, .int .i64 a1_1], .int .i64 a1_4, .agg #[.int .i64 a1_2, .int .i64 a1_3]] rfl (by (try simp only [List.map_toArray, List.map_cons, List.map_nil]); first | done | rfl | (simp only [List.length_drop, List.length_take]; rfl)) ?_; (with_reducible refine (hopmeshref05_At.calls k _ _ l0_0 _ _ l0_1 _ _ l0_2 a0_3 a0_4 a0_5 a1_0 a1_1 a1_4 a1_2 a1_3 t448 t449 _ ?side1 ?side2 ?side3 ?side4 ?side5 ?side6 A8.out).mono ?_); (case side1 => repeat (first | exact (Kd.C_below HR0_0.out HB.out) | (with_reducible refine Kd.C_alloc ?_ _) | (with_reducible refine Kd.C_drewN ?_ _) | (with_reducible refine Kd.C_drew ?_))); (case side2 => exact HC0_0.out); (case side3 => repeat (first | exact (Kd.C_below HR0_1.out HB.out) | (with_reducible refine Kd.C_alloc ?_ _) | (with_reducible refine Kd.C_drewN ?_ _) | (with_reducible refine Kd.C_drew ?_))); (case side4 => exact HC0_1.out); (case side5 => repeat (first | exact (Kd.C_below HR0_2.out HB.out) | (with_reducible refine Kd.C_alloc ?_ _) | (with_reducible refine Kd.C_drewN ?_ _) | (with_reducible refine Kd.C_drew ?_))); (case side6 => exact HC0_2.out); rintro e w33 ⟨rfl, hb⟩; refine ⟨_, rfl, ?_⟩; have n0_ := Aside0.mk (bkB (g := gb442) (o := .cells #[.slice A0_0 l0_0.length c0_0, .slice A0_1 l0_1.length c0_1, .slice A0_2 l0_2.length c0_2, .int .i64 a0_3, .int .i64 a0_4, .int .i64 a0_5] 26 (0, 0)) (by (with_reducible repeat (first | refine bkN ?_ _ | refine bkD ?_ | refine bkA ?_ _)); exact BK442.out) hb); have n1_ := Aside0.mk (bkB (g := gb443) (o := .cells #[.int .i64 a1_0, .int .i64 a1_1, .int .i64 a1_2, .int .i64 a1_3, .int .i64 a1_4, .int .i64 a1_5, .int .i64 a1_6] 56 (0, 0)) (by (with_reducible repeat (first | refine bkN ?_ _ | refine bkD ?_ | refine bkA ?_ _)); exact BK443.out) hb); have n2_ := Aside0.mk (below_step (by repeat (first | (with_reducible first | exact HB.out | apply blA | apply blN | apply blD | refine blS ?_ GE442.out | refine blS ?_ GE443.out) | exact HB.out)) hb); clear BK442; clear BK443; clear HB; have BK442 := n0_; have BK443 := n1_; have HB := n2_; clear n0_ n1_ n2_; (try clear hb); (try clear hb2); (try clear hk); (try clear hi); have hcz34_0 : w33.cell? ⟨gb442, 0, none⟩ = some (.slice A0_0 l0_0.length c0_0) := (bkC BK442.out 0).trans rfl; have hcz34_1 : w33.cell? ⟨gb442, 1, none⟩ = some (.slice A0_1 l0_1.length c0_1) := (bkC BK442.out 1).trans rfl; have hcz34_2 : w33.cell? ⟨gb442, 2, none⟩ = some (.slice A0_2 l0_2.length c0_2) := (bkC BK442.out 2).trans rfl; have hcz34_3 : w33.cell? ⟨gb442, 3, none⟩ = some (.int .i64 a0_3) := (bkC BK442.out 3).trans rfl; have hcz34_4 : w33.cell? ⟨gb442, 4, none⟩ = some (.int .i64 a0_4) := (bkC BK442.out 4).trans rfl; have hcz34_5 : w33.cell? ⟨gb442, 5, none⟩ = some (.int .i64 a0_5) := (bkC BK442.out 5).trans rfl; have hfz34_0 := bkF BK442.out 0; have hfz34_1 := bkF BK442.out 1; have hfz34_2 := bkF BK442.out 2; have hfz34_3 := bkF BK442.out 3; have hfz34_4 := bkF BK442.out 4; have hfz34_5 := bkF BK442.out 5; have hcz35_0 : w33.cell? ⟨gb443, 0, none⟩ = some (.int .i64 a1_0) := (bkC BK443.out 0).trans rfl; have hcz35_1 : w33.cell? ⟨gb443, 1, none⟩ = some (.int .i64 a1_1) := (bkC BK443.out 1).trans rfl; have hcz35_2 : w33.cell? ⟨gb443, 2, none⟩ = some (.int .i64 a1_2) := (bkC BK443.out 2).trans rfl; have hcz35_3 : w33.cell? ⟨gb443, 3, none⟩ = some (.int .i64 a1_3) := (bkC BK443.out 3).trans rfl; have hcz35_4 : w33.cell? ⟨gb443, 4, none⟩ = some (.int .i64 a1_4) := (bkC BK443.out 4).trans rfl; have hcz35_5 : w33.cell? ⟨gb443, 5, none⟩ = some (.int .i64 a1_5) := (bkC BK443.out 5).trans rfl; have hcz35_6 : w33.cell? ⟨gb443, 6, none⟩ = some (.int .i64 a1_6) := (bkC BK443.out 6).trans rfl; have hfz35_0 := bkF BK443.out 0; have hfz35_1 := bkF BK443.out 1; have hfz35_2 := bkF BK443.out 2; have hfz35_3 := bkF BK443.out 3; have hfz35_4 := bkF BK443.out 4; have hfz35_5 := bkF BK443.out 5; have hfz35_6 := bkF BK443.out 6) | ((with_reducible refine gate_callee (f := 22) rfl ?_); refine goesL_ (some 50) rfl rfl Try.func22 (by kernel_rfl) rfl #[.agg #[.slice A0_0 l0_0.length c0_0, .slice A0_1 l0_1.length c0_1, .slice A0_2 l0_2.length c0_2, .int .i64 a0_3, .int .i64 a0_4, .int .i64 a0_5], .int .i64 a1_5, .int .i64 a1_6] rfl (by (try simp only [List.map_toArray, List.map_cons, List.map_nil]); first | done | rfl | (simp only [List.length_drop, List.length_take]; rfl)) ?_; (with_reducible refine (geometry_Between.calls _ _ l0_0 _ _ l0_1 _ _ l0_2 a0_3 a0_4 a0_5 a1_5 a1_6 t450 t451 _ ?side1 ?side2 ?side3 ?side4 ?side5 ?side6 A9.out).mono ?_); (case side1 => repeat (first | exact (Kd.C_below HR0_0.out HB.out) | (with_reducible refine Kd.C_alloc ?_ _) | (with_reducible refine Kd.C_drewN ?_ _) | (with_reducible refine Kd.C_drew ?_))); (case side2 => exact HC0_0.out); (case side3 => repeat (first | exact (Kd.C_below HR0_1.out HB.out) | (with_reducible refine Kd.C_alloc ?_ _) | (with_reducible refine Kd.C_drewN ?_ _) | (with_reducible refine Kd.C_drew ?_))); (case side4 => exact HC0_1.out); (case side5 => repeat (first | exact (Kd.C_below HR0_2.out HB.out) | (with_reducible refine Kd.C_alloc ?_ _) | (with_reducible refine Kd.C_drewN ?_ _) | (with_reducible refine Kd.C_drew ?_))); (case side6 => exact HC0_2.out); rintro e w36 ⟨rfl, hb⟩; refine ⟨_, rfl, ?_⟩; have n0_ := Aside0.mk (bkB (g := gb442) (o := .cells #[.slice A0_0 l0_0.length c0_0, .slice A0_1 l0_1.length c0_1, .slice A0_2 l0_2.length c0_2, .int .i64 a0_3, .int .i64 a0_4, .int .i64 a0_5] 26 (0, 0)) (by (with_reducible repeat (first | refine bkN ?_ _ | refine bkD ?_ | refine bkA ?_ _)); exact BK442.out) hb); have n1_ := Aside0.mk (bkB (g := gb443) (o := .cells #[.int .i64 a1_0, .int .i64 a1_1, .int .i64 a1_2, .int .i64 a1_3, .int .i64 a1_4, .int .i64 a1_5, .int .i64 a1_6] 56 (0, 0)) (by (with_reducible repeat (first | refine bkN ?_ _ | refine bkD ?_ | refine bkA ?_ _)); exact BK443.out) hb); have n2_ := Aside0.mk (below_step (by repeat (first | (with_reducible first | exact HB.out | apply blA | apply blN | apply blD | refine blS ?_ GE442.out | refine blS ?_ GE443.out) | exact HB.out)) hb); clear BK442; clear BK443; clear HB; have BK442 := n0_; have BK443 := n1_; have HB := n2_; clear n0_ n1_ n2_; (try clear hb); (try clear hb2); (try clear hk); (try clear hi); have hcz37_0 : w36.cell? ⟨gb442, 0, none⟩ = some (.slice A0_0 l0_0.length c0_0) := (bkC BK442.out 0).trans rfl; have hcz37_1 : w36.cell? ⟨gb442, 1, none⟩ = some (.slice A0_1 l0_1.length c0_1) := (bkC BK442.out 1).trans rfl; have hcz37_2 : w36.cell? ⟨gb442, 2, none⟩ = some (.slice A0_2 l0_2.length c0_2) := (bkC BK442.out 2).trans rfl; have hcz37_3 : w36.cell? ⟨gb442, 3, none⟩ = some (.int .i64 a0_3) := (bkC BK442.out 3).trans rfl; have hcz37_4 : w36.cell? ⟨gb442, 4, none⟩ = some (.int .i64 a0_4) := (bkC BK442.out 4).trans rfl; have hcz37_5 : w36.cell? ⟨gb442, 5, none⟩ = some (.int .i64 a0_5) := (bkC BK442.out 5).trans rfl; have hfz37_0 := bkF BK442.out 0; have hfz37_1 := bkF BK442.out 1; have hfz37_2 := bkF BK442.out 2; have hfz37_3 := bkF BK442.out 3; have hfz37_4 := bkF BK442.out 4; have hfz37_5 := bkF BK442.out 5; have hcz38_0 : w36.cell? ⟨gb443, 0, none⟩ = some (.int .i64 a1_0) := (bkC BK443.out 0).trans rfl; have hcz38_1 : w36.cell? ⟨gb443, 1, none⟩ = some (.int .i64 a1_1) := (bkC BK443.out 1).trans rfl; have hcz38_2 : w36.cell? ⟨gb443, 2, none⟩ = some (.int .i64 a1_2) := (bkC BK443.out 2).trans rfl; have hcz38_3 : w36.cell? ⟨gb443, 3, none⟩ = some (.int .i64 a1_3) := (bkC BK443.out 3).trans rfl; have hcz38_4 : w36.cell? ⟨gb443, 4, none⟩ = some (.int .i64 a1_4) := (bkC BK443.out 4).trans rfl; have hcz38_5 : w36.cell? ⟨gb443, 5, none⟩ = some (.int .i64 a1_5) := (bkC BK443.out 5).trans rfl; have hcz38_6 : w36.cell? ⟨gb443, 6, none⟩ = some (.int .i64 a1_6) := (bkC BK443.out 6).trans rfl; have hfz38_0 := bkF BK443.out 0; have hfz38_1 := bkF BK443.out 1; have hfz38_2 := bkF BK443.out 2; have hfz38_3 := bkF BK443.out 3; have hfz38_4 := bkF BK443.out 4; have hfz38_5 := bkF BK443.out 5; have hfz38_6 := bkF BK443.out 6) | ((with_reducible refine gate_callee (f := 34) rfl ?_); refine goesL_ (some 59) rfl rfl Try.func34 (by kernel_rfl) rfl #[.agg #[.slice A0_0 l0_0.length c0_0, .slice A0_1 l0_1.length c0_1, .slice A0_2 l0_2.length c0_2, .int .i64 a0_3, .int .i64 a0_4, .int .i64 a0_5], .int .i64 a1_5, .int .i64 a1_6] rfl (by (try simp only [List.map_toArray, List.map_cons, List.map_nil]); first | done | rfl | (simp only [List.length_drop, List.length_take]; rfl)) ?_; (with_reducible refine (hopmeshref05_Between.calls k _ _ l0_0 _ _ l0_1 _ _ l0_2 a0_3 a0_4 a0_5 a1_5 a1_6 t452 t453 _ ?side1 ?side2 ?side3 ?side4 ?side5 ?side6 A10.out).mono ?_); (case side1 => repeat (first | exact (Kd.C_below HR0_0.out HB.out) | (with_reducible refine Kd.C_alloc ?_ _) | (with_reducible refine Kd.C_drewN ?_ _) | (with_reducible refine Kd.C_drew ?_))); (case side2 => exact HC0_0.out); (case side3 => repeat (first | exact (Kd.C_below HR0_1.out HB.out) | (with_reducible refine Kd.C_alloc ?_ _) | (with_reducible refine Kd.C_drewN ?_ _) | (with_reducible refine Kd.C_drew ?_))); (case side4 => exact HC0_1.out); (case side5 => repeat (first | exact (Kd.C_below HR0_2.out HB.out) | (with_reducible refine Kd.C_alloc ?_ _) | (with_reducible refine Kd.C_drewN ?_ _) | (with_reducible refine Kd.C_drew ?_))); (case side6 => exact HC0_2.out); rintro e w39 ⟨rfl, hb⟩; refine ⟨_, rfl, ?_⟩; have n0_ := Aside0.mk (bkB (g := gb442) (o := .cells #[.slice A0_0 l0_0.length c0_0, .slice A0_1 l0_1.length c0_1, .slice A0_2 l0_2.length c0_2, .int .i64 a0_3, .int .i64 a0_4, .int .i64 a0_5] 26 (0, 0)) (by (with_reducible repeat (first | refine bkN ?_ _ | refine bkD ?_ | refine bkA ?_ _)); exact BK442.out) hb); have n1_ := Aside0.mk (bkB (g := gb443) (o := .cells #[.int .i64 a1_0, .int .i64 a1_1, .int .i64 a1_2, .int .i64 a1_3, .int .i64 a1_4, .int .i64 a1_5, .int .i64 a1_6] 56 (0, 0)) (by (with_reducible repeat (first | refine bkN ?_ _ | refine bkD ?_ | refine bkA ?_ _)); exact BK443.out) hb); have n2_ := Aside0.mk (below_step (by repeat (first | (with_reducible first | exact HB.out | apply blA | apply blN | apply blD | refine blS ?_ GE442.out | refine blS ?_ GE443.out) | exact HB.out)) hb); clear BK442; clear BK443; clear HB; have BK442 := n0_; have BK443 := n1_; have HB := n2_; clear n0_ n1_ n2_; (try clear hb); (try clear hb2); (try clear hk); (try clear hi); have hcz40_0 : w39.cell? ⟨gb442, 0, none⟩ = some (.slice A0_0 l0_0.length c0_0) := (bkC BK442.out 0).trans rfl; have hcz40_1 : w39.cell? ⟨gb442, 1, none⟩ = some (.slice A0_1 l0_1.length c0_1) := (bkC BK442.out 1).trans rfl; have hcz40_2 : w39.cell? ⟨gb442, 2, none⟩ = some (.slice A0_2 l0_2.length c0_2) := (bkC BK442.out 2).trans rfl; have hcz40_3 : w39.cell? ⟨gb442, 3, none⟩ = some (.int .i64 a0_3) := (bkC BK442.out 3).trans rfl; have hcz40_4 : w39.cell? ⟨gb442, 4, none⟩ = some (.int .i64 a0_4) := (bkC BK442.out 4).trans rfl; have hcz40_5 : w39.cell? ⟨gb442, 5, none⟩ = some (.int .i64 a0_5) := (bkC BK442.out 5).trans rfl; have hfz40_0 := bkF BK442.out 0; have hfz40_1 := bkF BK442.out 1; have hfz40_2 := bkF BK442.out 2; have hfz40_3 := bkF BK442.out 3; have hfz40_4 := bkF BK442.out 4; have hfz40_5 := bkF BK442.out 5) | ((with_reducible refine gate_callee (f := 18) rfl ?_); refine goesL_ (some 64) rfl rfl Try.func18 (by kernel_rfl) rfl #[.agg #[.slice A0_0 l0_0.length c0_0, .slice A0_1 l0_1.length c0_1, .slice A0_2 l0_2.length c0_2, .int .i64 a0_3, .int .i64 a0_4, .int .i64 a0_5]] rfl (by (try simp only [List.map_toArray, List.map_cons, List.map_nil]); first | done | rfl | (simp only [List.length_drop, List.length_take]; rfl)) ?_; (with_reducible refine (geometry_Table.calls k _ _ l0_0 _ _ l0_1 _ _ l0_2 a0_3 a0_4 a0_5 t454 t457 _ ?side1 ?side2 ?side3 ?side4 ?side5 ?side6 A11.out).mono ?_); (case side1 => repeat (first | exact (Kd.C_below HR0_0.out HB.out) | (with_reducible refine Kd.C_alloc ?_ _) | (with_reducible refine Kd.C_drewN ?_ _) | (with_reducible refine Kd.C_drew ?_))); (case side2 => exact HC0_0.out); (case side3 => repeat (first | exact (Kd.C_below HR0_1.out HB.out) | (with_reducible refine Kd.C_alloc ?_ _) | (with_reducible refine Kd.C_drewN ?_ _) | (with_reducible refine Kd.C_drew ?_))); (case side4 => exact HC0_1.out); (case side5 => repeat (first | exact (Kd.C_below HR0_2.out HB.out) | (with_reducible refine Kd.C_alloc ?_ _) | (with_reducible refine Kd.C_drewN ?_ _) | (with_reducible refine Kd.C_drew ?_))); (case side6 => exact HC0_2.out); rintro e w41 ⟨v455, rfl, ho0, hb⟩; refine ⟨_, rfl, ?_⟩; have n0_ := Aside0.mk (Kd.S_lower ho0 (below_size (by repeat (first | (with_reducible first | exact HB.out | apply blA | apply blN | apply blD | refine blS ?_ GE442.out | refine blS ?_ GE443.out) | exact HB.out)))); have n1_ := Aside0.mk (bkB (g := gb442) (o := .cells #[.slice A0_0 l0_0.length c0_0, .slice A0_1 l0_1.length c0_1, .slice A0_2 l0_2.length c0_2, .int .i64 a0_3, .int .i64 a0_4, .int .i64 a0_5] 26 (0, 0)) (by (with_reducible repeat (first | refine bkN ?_ _ | refine bkD ?_ | refine bkA ?_ _)); exact BK442.out) hb); have n2_ := Aside0.mk (bkB (g := gb443) (o := .cells #[.int .i64 a1_0, .int .i64 a1_1, .int .i64 a1_2, .int .i64 a1_3, .int .i64 a1_4, .int .i64 a1_5, .int .i64 a1_6] 56 (0, 0)) (by (with_reducible repeat (first | refine bkN ?_ _ | refine bkD ?_ | refine bkA ?_ _)); exact BK443.out) hb); have n3_ := Aside0.mk (below_step (by repeat (first | (with_reducible first | exact HB.out | apply blA | apply blN | apply blD | refine blS ?_ GE442.out | refine blS ?_ GE443.out) | exact HB.out)) hb); clear BK442; clear BK443; clear HB; have HO456 := n0_; have BK442 := n1_; have BK443 := n2_; have HB := n3_; clear n0_ n1_ n2_ n3_; (try clear hb); (try clear hb2); (try clear hk); (try clear hi); (try clear ho0); have hcz42_0 : w41.cell? ⟨gb442, 0, none⟩ = some (.slice A0_0 l0_0.length c0_0) := (bkC BK442.out 0).trans rfl; have hcz42_1 : w41.cell? ⟨gb442, 1, none⟩ = some (.slice A0_1 l0_1.length c0_1) := (bkC BK442.out 1).trans rfl; have hcz42_2 : w41.cell? ⟨gb442, 2, none⟩ = some (.slice A0_2 l0_2.length c0_2) := (bkC BK442.out 2).trans rfl; have hcz42_3 : w41.cell? ⟨gb442, 3, none⟩ = some (.int .i64 a0_3) := (bkC BK442.out 3).trans rfl; have hcz42_4 : w41.cell? ⟨gb442, 4, none⟩ = some (.int .i64 a0_4) := (bkC BK442.out 4).trans rfl; have hcz42_5 : w41.cell? ⟨gb442, 5, none⟩ = some (.int .i64 a0_5) := (bkC BK442.out 5).trans rfl; have hfz42_0 := bkF BK442.out 0; have hfz42_1 := bkF BK442.out 1; have hfz42_2 := bkF BK442.out 2; have hfz42_3 := bkF BK442.out 3; have hfz42_4 := bkF BK442.out 4; have hfz42_5 := bkF BK442.out 5) | ((with_reducible refine gate_callee (f := 35) rfl ?_); refine goesL_ (some 69) rfl rfl Try.func35 (by kernel_rfl) rfl #[.agg #[.slice A0_0 l0_0.length c0_0, .slice A0_1 l0_1.length c0_1, .slice A0_2 l0_2.length c0_2, .int .i64 a0_3, .int .i64 a0_4, .int .i64 a0_5]] rfl (by (try simp only [List.map_toArray, List.map_cons, List.map_nil]); first | done | rfl | (simp only [List.length_drop, List.length_take]; rfl)) ?_; (with_reducible refine (hopmeshref05_Table.calls k _ _ l0_0 _ _ l0_1 _ _ l0_2 a0_3 a0_4 a0_5 t458 t461 _ ?side1 ?side2 ?side3 ?side4 ?side5 ?side6 A12.out).mono ?_); (case side1 => repeat (first | exact (Kd.C_below HR0_0.out HB.out) | (with_reducible refine Kd.C_alloc ?_ _) | (with_reducible refine Kd.C_drewN ?_ _) | (with_reducible refine Kd.C_drew ?_))); (case side2 => exact HC0_0.out); (case side3 => repeat (first | exact (Kd.C_below HR0_1.out HB.out) | (with_reducible refine Kd.C_alloc ?_ _) | (with_reducible refine Kd.C_drewN ?_ _) | (with_reducible refine Kd.C_drew ?_))); (case side4 => exact HC0_1.out); (case side5 => repeat (first | exact (Kd.C_below HR0_2.out HB.out) | (with_reducible refine Kd.C_alloc ?_ _) | (with_reducible refine Kd.C_drewN ?_ _) | (with_reducible refine Kd.C_drew ?_))); (case side6 => exact HC0_2.out); rintro e w43 ⟨v459, rfl, ho0, hb⟩; refine ⟨_, rfl, ?_⟩; have n0_ := Aside0.mk (Kd.S_elder' (by (with_reducible repeat (first | apply Kd.S_alloc | apply Kd.S_drewN | apply Kd.S_drew)); exact HO456.out) (Kd.S_base ho0) hb); have n1_ := Aside0.mk (Kd.S_lower (Kd.S_new' ho0 (Kd.S_lt (by (with_reducible repeat (first | apply Kd.S_alloc | apply Kd.S_drewN | apply Kd.S_drew)); exact HO456.out))) (below_size (by repeat (first | (with_reducible first | exact HB.out | apply blA | apply blN | apply blD | refine blS ?_ GE442.out | refine blS ?_ GE443.out) | exact HB.out)))); have n2_ := Aside0.mk (bkB (g := gb442) (o := .cells #[.slice A0_0 l0_0.length c0_0, .slice A0_1 l0_1.length c0_1, .slice A0_2 l0_2.length c0_2, .int .i64 a0_3, .int .i64 a0_4, .int .i64 a0_5] 26 (0, 0)) (by (with_reducible repeat (first | refine bkN ?_ _ | refine bkD ?_ | refine bkA ?_ _)); exact BK442.out) hb); have n3_ := Aside0.mk (bkB (g := gb443) (o := .cells #[.int .i64 a1_0, .int .i64 a1_1, .int .i64 a1_2, .int .i64 a1_3, .int .i64 a1_4, .int .i64 a1_5, .int .i64 a1_6] 56 (0, 0)) (by (with_reducible repeat (first | refine bkN ?_ _ | refine bkD ?_ | refine bkA ?_ _)); exact BK443.out) hb); have n4_ := Aside0.mk (below_step (by repeat (first | (with_reducible first | exact HB.out | apply blA | apply blN | apply blD | refine blS ?_ GE442.out | refine blS ?_ GE443.out) | exact HB.out)) hb); clear HO456; clear BK442; clear BK443; clear HB; have HO456 := n0_; have HO460 := n1_; have BK442 := n2_; have BK443 := n3_; have HB := n4_; clear n0_ n1_ n2_ n3_ n4_; (try clear hb); (try clear hb2); (try clear hk); (try clear hi); (try clear ho0)))
 have n0_ := Aside0.mk (Kd.S_drew HO456.out)
 have n1_ := Aside0.mk (Kd.S_drew HO460.out)
 have n2_ := Aside0.mk (bkD BK442.out)
 have n3_ := Aside0.mk (bkD BK443.out)
 have n4_ := Aside0.mk (blD HB.out)
 clear HO456
 clear HO460
 clear BK442
 clear BK443
 clear HB
 have HO456 := n0_
 have HO460 := n1_
 have BK442 := n2_
 have BK443 := n3_
 have HB := n4_
 clear n0_ n1_ n2_ n3_ n4_
 refine start_ (n := 36) (S := fun w' => w'.cell? ⟨gb442, 0, none⟩ = some (.slice A0_0 l0_0.length c0_0) ∧ w'.cell? ⟨gb442, 1, none⟩ = some (.slice A0_1 l0_1.length c0_1) ∧ w'.cell? ⟨gb442, 2, none⟩ = some (.slice A0_2 l0_2.length c0_2) ∧ w'.cell? ⟨gb442, 3, none⟩ = some (.int .i64 a0_3) ∧ w'.cell? ⟨gb442, 4, none⟩ = some (.int .i64 a0_4) ∧ w'.cell? ⟨gb442, 5, none⟩ = some (.int .i64 a0_5)) (ds := []) #[false, false, false, false, false, false, false, false, false, false, false, false, false, false, false, false, false, false, false, false, false, false, false, false, false, false, false, false, false, false, false, false, false, false, false, false] (by kernel_rfl) rfl rfl ⟨(bkC BK442.out 0).trans rfl, (bkC BK442.out 1).trans rfl, (bkC BK442.out 2).trans rfl, (bkC BK442.out 3).trans rfl, (bkC BK442.out 4).trans rfl, (bkC BK442.out 5).trans rfl⟩ (fun hHeld => ?_); refine with_tabW hopmeshlaw05_GeometryPowers.tab11 hopmeshlaw05_GeometryPowers.bits11 (fun HT_ HW_ => ?_)
 generalize w43.drew = w44 at HO456 HO460 BK442 BK443 HB hHeld ⊢
 refine take_ (i := 0) (N := some 72) (v := ?_) (a' := ?_) #[true, false, false, false, false, false, false, false, false, false, false, false, false, false, false, false, false, false, false, false, false, false, false, false, false, false, false, false, false, false, false, false, false, false, false, false] rfl rfl (take_ofW HT_.out HW_.out (by kernel_rfl)) (fun _ _ _ h => h) (Or.inl ⟨by rfl, ?_⟩) hHeld ?_ ?_
 rotate_left
 ·rintro w' ⟨s0, s1, s2, s3, s4, s5⟩
  go_simp
  with_reducible rfl
 rotate_left
 ·simp only [Act.put, List.setIfInBounds_toArray, List.set_cons_zero, List.set_cons_succ, i64_w, i32_w]
  rfl
 refine take_ (i := 2) (N := some 74) (v := ?_) (a' := ?_) #[true, false, true, false, false, false, false, false, false, false, false, false, false, false, false, false, false, false, false, false, false, false, false, false, false, false, false, false, false, false, false, false, false, false, false, false] rfl rfl (take_ofW HT_.out HW_.out (by kernel_rfl)) (fun _ _ _ h => h) (Or.inl ⟨by rfl, ?_⟩) hHeld ?_ ?_
 rotate_left
 ·rintro w' ⟨s0, s1, s2, s3, s4, s5⟩
  go_simp
  with_reducible rfl
 rotate_left
 ·simp only [Act.put, List.setIfInBounds_toArray, List.set_cons_zero, List.set_cons_succ, i64_w, i32_w]
  rfl
 refine one_ (i := 1) (N := some 73) #[true, true, true, false, false, false, false, false, false, false, false, false, false, false, false, false, false, false, false, false, false, false, false, false, false, false, false, false, false, false, false, false, false, false, false, false] rfl rfl (one_of HT_.out (by kernel_rfl)) (by decide) (fun K hK => ?_)
 refine goes_ Try.func19 (by kernel_rfl) rfl #[.agg #[.slice A0_0 l0_0.length c0_0, .slice A0_1 l0_1.length c0_1, .slice A0_2 l0_2.length c0_2, .int .i64 a0_3, .int .i64 a0_4, .int .i64 a0_5]] (by rfl) rfl rfl (by (try simp only [List.map_toArray, List.map_cons, List.map_nil]); first | done | rfl | (simp only [List.length_drop, List.length_take]; rfl)) ?_
 with_reducible refine (geometry_Check.calls _ _ l0_0 _ _ l0_1 _ _ l0_2 a0_3 a0_4 a0_5 t462 _ ?side1 ?side2 ?side3 ?side4 ?side5 ?side6 A13.out).mono ?_
 (case side1 => repeat (first | exact (Kd.C_below HR0_0.out HB.out) | (with_reducible refine Kd.C_alloc ?_ _) | (with_reducible refine Kd.C_drewN ?_ _) | (with_reducible refine Kd.C_drew ?_)))
 (case side2 => exact HC0_0.out)
 (case side3 => repeat (first | exact (Kd.C_below HR0_1.out HB.out) | (with_reducible refine Kd.C_alloc ?_ _) | (with_reducible refine Kd.C_drewN ?_ _) | (with_reducible refine Kd.C_drew ?_)))
 (case side4 => exact HC0_1.out)
 (case side5 => repeat (first | exact (Kd.C_below HR0_2.out HB.out) | (with_reducible refine Kd.C_alloc ?_ _) | (with_reducible refine Kd.C_drewN ?_ _) | (with_reducible refine Kd.C_drew ?_)))
 (case side6 => exact HC0_2.out)
 rintro e w45 ⟨rfl, hb⟩
 refine ⟨_, rfl, ?_⟩
 have n0_ := Aside0.mk (Kd.S_below (by (with_reducible repeat (first | apply Kd.S_alloc | apply Kd.S_drewN | apply Kd.S_drew)); exact HO456.out) hb)
 have n1_ := Aside0.mk (Kd.S_below (by (with_reducible repeat (first | apply Kd.S_alloc | apply Kd.S_drewN | apply Kd.S_drew)); exact HO460.out) hb)
 have n2_ := Aside0.mk (bkB (g := gb442) (o := .cells #[.slice A0_0 l0_0.length c0_0, .slice A0_1 l0_1.length c0_1, .slice A0_2 l0_2.length c0_2, .int .i64 a0_3, .int .i64 a0_4, .int .i64 a0_5] 26 (0, 0)) (by (with_reducible repeat (first | refine bkN ?_ _ | refine bkD ?_ | refine bkA ?_ _)); exact BK442.out) hb)
 have n3_ := Aside0.mk (bkB (g := gb443) (o := .cells #[.int .i64 a1_0, .int .i64 a1_1, .int .i64 a1_2, .int .i64 a1_3, .int .i64 a1_4, .int .i64 a1_5, .int .i64 a1_6] 56 (0, 0)) (by (with_reducible repeat (first | refine bkN ?_ _ | refine bkD ?_ | refine bkA ?_ _)); exact BK443.out) hb)
 have n4_ := Aside0.mk (below_step (by repeat (first | (with_reducible first | exact HB.out | apply blA | apply blN | apply blD | refine blS ?_ GE442.out | refine blS ?_ GE443.out) | exact HB.out)) hb)
 clear HO456
 clear HO460
 clear BK442
 clear BK443
 clear HB
 have HO456 := n0_
 have HO460 := n1_
 have BK442 := n2_
 have BK443 := n3_
 have HB := n4_
 clear n0_ n1_ n2_ n3_ n4_
 (try clear hb)
 (try clear hb2)
 (try clear hk)
 (try clear hi)
 refine hK.out _ _ ⟨(bkC BK442.out 0).trans rfl, (bkC BK442.out 1).trans rfl, (bkC BK442.out 2).trans rfl, (bkC BK442.out 3).trans rfl, (bkC BK442.out 4).trans rfl, (bkC BK442.out 5).trans rfl⟩ (fun hHeld => ?_)
 clear hK K
 refine norm_ (a' := ?_) ?_ ?_
 rotate_left
 ·show Act.put _ (some 73) _ = _
  simp only [Act.put, List.setIfInBounds_toArray, List.set_cons_zero, List.set_cons_succ, i64_w, i32_w]
  rfl
 refine one_ (i := 3) (N := some 75) #[true, true, true, true, false, false, false, false, false, false, false, false, false, false, false, false, false, false, false, false, false, false, false, false, false, false, false, false, false, false, false, false, false, false, false, false] rfl rfl (one_of HT_.out (by kernel_rfl)) (by decide) (fun K hK => ?_)
 refine goes_ Try.func36 (by kernel_rfl) rfl #[.agg #[.slice A0_0 l0_0.length c0_0, .slice A0_1 l0_1.length c0_1, .slice A0_2 l0_2.length c0_2, .int .i64 a0_3, .int .i64 a0_4, .int .i64 a0_5]] (by rfl) rfl rfl (by (try simp only [List.map_toArray, List.map_cons, List.map_nil]); first | done | rfl | (simp only [List.length_drop, List.length_take]; rfl)) ?_
 with_reducible refine (hopmeshref05_Check.calls k _ _ l0_0 _ _ l0_1 _ _ l0_2 a0_3 a0_4 a0_5 t463 _ ?side1 ?side2 ?side3 ?side4 ?side5 ?side6 A14.out).mono ?_
 (case side1 => repeat (first | exact (Kd.C_below HR0_0.out HB.out) | (with_reducible refine Kd.C_alloc ?_ _) | (with_reducible refine Kd.C_drewN ?_ _) | (with_reducible refine Kd.C_drew ?_)))
 (case side2 => exact HC0_0.out)
 (case side3 => repeat (first | exact (Kd.C_below HR0_1.out HB.out) | (with_reducible refine Kd.C_alloc ?_ _) | (with_reducible refine Kd.C_drewN ?_ _) | (with_reducible refine Kd.C_drew ?_)))
 (case side4 => exact HC0_1.out)
 (case side5 => repeat (first | exact (Kd.C_below HR0_2.out HB.out) | (with_reducible refine Kd.C_alloc ?_ _) | (with_reducible refine Kd.C_drewN ?_ _) | (with_reducible refine Kd.C_drew ?_)))
 (case side6 => exact HC0_2.out)
 rintro e w46 ⟨rfl, hb⟩
 refine ⟨_, rfl, ?_⟩
 have n0_ := Aside0.mk (Kd.S_below (by (with_reducible repeat (first | apply Kd.S_alloc | apply Kd.S_drewN | apply Kd.S_drew)); exact HO456.out) hb)
 have n1_ := Aside0.mk (Kd.S_below (by (with_reducible repeat (first | apply Kd.S_alloc | apply Kd.S_drewN | apply Kd.S_drew)); exact HO460.out) hb)
 have n2_ := Aside0.mk (bkB (g := gb442) (o := .cells #[.slice A0_0 l0_0.length c0_0, .slice A0_1 l0_1.length c0_1, .slice A0_2 l0_2.length c0_2, .int .i64 a0_3, .int .i64 a0_4, .int .i64 a0_5] 26 (0, 0)) (by (with_reducible repeat (first | refine bkN ?_ _ | refine bkD ?_ | refine bkA ?_ _)); exact BK442.out) hb)
 have n3_ := Aside0.mk (bkB (g := gb443) (o := .cells #[.int .i64 a1_0, .int .i64 a1_1, .int .i64 a1_2, .int .i64 a1_3, .int .i64 a1_4, .int .i64 a1_5, .int .i64 a1_6] 56 (0, 0)) (by (with_reducible repeat (first | refine bkN ?_ _ | refine bkD ?_ | refine bkA ?_ _)); exact BK443.out) hb)
 have n4_ := Aside0.mk (below_step (by repeat (first | (with_reducible first | exact HB.out | apply blA | apply blN | apply blD | refine blS ?_ GE442.out | refine blS ?_ GE443.out) | exact HB.out)) hb)
 clear HO456
 clear HO460
 clear BK442
 clear BK443
 clear HB
 have HO456 := n0_
 have HO460 := n1_
 have BK442 := n2_
 have BK443 := n3_
 have HB := n4_
 clear n0_ n1_ n2_ n3_ n4_
 (try clear hb)
 (try clear hb2)
 (try clear hk)
 (try clear hi)
 obtain ⟨Ao47, co47, eo47⟩ := Kd.S_slice HO456.out
 (first | subst eo47 | (injection eo47 with f1_ f2_ f3_; have f4_ := f1_.symm; have f5_ := f3_.symm; clear f1_ f2_ f3_; subst f4_; subst f5_))
 obtain ⟨Ao48, co48, eo48⟩ := Kd.S_slice HO460.out
 (first | subst eo48 | (injection eo48 with f1_ f2_ f3_; have f4_ := f1_.symm; have f5_ := f3_.symm; clear f1_ f2_ f3_; subst f4_; subst f5_))
 refine hK.out _ _ ⟨(bkC BK442.out 0).trans rfl, (bkC BK442.out 1).trans rfl, (bkC BK442.out 2).trans rfl, (bkC BK442.out 3).trans rfl, (bkC BK442.out 4).trans rfl, (bkC BK442.out 5).trans rfl⟩ (fun hHeld => ?_)
 clear hK K
 refine norm_ (a' := ?_) ?_ ?_
 rotate_left
 ·show Act.put _ (some 75) _ = _
  simp only [Act.put, List.setIfInBounds_toArray, List.set_cons_zero, List.set_cons_succ, i64_w, i32_w]
  rfl
 refine pure_ (i := 4) (N := some 76) (v := ?_) (a' := ?_) #[true, true, true, true, true, false, false, false, false, false, false, false, false, false, false, false, false, false, false, false, false, false, false, false, false, false, false, false, false, false, false, false, false, false, false, false] rfl rfl (any_of HT_.out (by kernel_rfl)) (fun _ _ _ h => h) (Or.inl ⟨by rfl, ?_⟩) ?_ ?_
 rotate_left
 ·intro w'
  go_simp
  with_reducible rfl
 rotate_left
 ·simp only [Act.put, List.setIfInBounds_toArray, List.set_cons_zero, List.set_cons_succ, i64_w, i32_w]
  rfl
 refine pure_ (i := 5) (N := some 77) (v := ?_) (a' := ?_) #[true, true, true, true, true, true, false, false, false, false, false, false, false, false, false, false, false, false, false, false, false, false, false, false, false, false, false, false, false, false, false, false, false, false, false, false] rfl rfl (any_of HT_.out (by kernel_rfl)) (fun _ _ _ h => h) (Or.inl ⟨by rfl, ?_⟩) ?_ ?_
 rotate_left
 ·intro w'
  go_simp
  with_reducible rfl
 rotate_left
 ·simp only [Act.put, List.setIfInBounds_toArray, List.set_cons_zero, List.set_cons_succ, i64_w, i32_w]
  rfl
 refine pure_ (i := 6) (N := some 78) (v := ?_) (a' := ?_) #[true, true, true, true, true, true, true, false, false, false, false, false, false, false, false, false, false, false, false, false, false, false, false, false, false, false, false, false, false, false, false, false, false, false, false, false] rfl rfl (any_of HT_.out (by kernel_rfl)) (fun _ _ _ h => h) (Or.inl ⟨by rfl, ?_⟩) ?_ ?_
 rotate_left
 ·intro w'
  go_simp
  with_reducible rfl
 rotate_left
 ·simp only [Act.put, List.setIfInBounds_toArray, List.set_cons_zero, List.set_cons_succ, i64_w, i32_w]
  rfl
 refine pure_ (i := 7) (N := some 79) (v := ?_) (a' := ?_) #[true, true, true, true, true, true, true, true, false, false, false, false, false, false, false, false, false, false, false, false, false, false, false, false, false, false, false, false, false, false, false, false, false, false, false, false] rfl rfl (any_of HT_.out (by kernel_rfl)) (fun _ _ _ h => h) (Or.inl ⟨by rfl, ?_⟩) ?_ ?_
 rotate_left
 ·intro w'
  go_simp
  with_reducible rfl
 rotate_left
 ·simp only [Act.put, List.setIfInBounds_toArray, List.set_cons_zero, List.set_cons_succ, i64_w, i32_w]
  rfl
 refine pure_ (i := 8) (N := some 80) (v := ?_) (a' := ?_) #[true, true, true, true, true, true, true, true, true, false, false, false, false, false, false, false, false, false, false, false, false, false, false, false, false, false, false, false, false, false, false, false, false, false, false, false] rfl rfl (any_of HT_.out (by kernel_rfl)) (fun _ _ _ h => h) (Or.inl ⟨by rfl, ?_⟩) ?_ ?_
 rotate_left
 ·intro w'
  go_simp
  with_reducible rfl
 rotate_left
 ·simp only [Act.put, List.setIfInBounds_toArray, List.set_cons_zero, List.set_cons_succ, i64_w, i32_w]
  rfl
 refine pure_ (i := 9) (N := some 81) (v := ?_) (a' := ?_) #[true, true, true, true, true, true, true, true, true, true, false, false, false, false, false, false, false, false, false, false, false, false, false, false, false, false, false, false, false, false, false, false, false, false, false, false] rfl rfl (any_of HT_.out (by kernel_rfl)) (fun _ _ _ h => h) (Or.inl ⟨by rfl, ?_⟩) ?_ ?_
 rotate_left
 ·intro w'
  go_simp
  with_reducible rfl
 rotate_left
 ·simp only [Act.put, List.setIfInBounds_toArray, List.set_cons_zero, List.set_cons_succ, i64_w, i32_w]
  rfl
 refine pure_ (i := 10) (N := some 82) (v := ?_) (a' := ?_) #[true, true, true, true, true, true, true, true, true, true, true, false, false, false, false, false, false, false, false, false, false, false, false, false, false, false, false, false, false, false, false, false, false, false, false, false] rfl rfl (any_of HT_.out (by kernel_rfl)) (fun _ _ _ h => h) (Or.inl ⟨by rfl, ?_⟩) ?_ ?_
 rotate_left
 ·intro w'
  go_simp
  with_reducible rfl
 rotate_left
 ·simp only [Act.put, List.setIfInBounds_toArray, List.set_cons_zero, List.set_cons_succ, i64_w, i32_w]
  rfl
 refine pure_ (i := 11) (N := some 83) (v := ?_) (a' := ?_) #[true, true, true, true, true, true, true, true, true, true, true, true, false, false, false, false, false, false, false, false, false, false, false, false, false, false, false, false, false, false, false, false, false, false, false, false] rfl rfl (any_of HT_.out (by kernel_rfl)) (fun _ _ _ h => h) (Or.inl ⟨by rfl, ?_⟩) ?_ ?_
 rotate_left
 ·intro w'
  go_simp
  with_reducible rfl
 rotate_left
 ·simp only [Act.put, List.setIfInBounds_toArray, List.set_cons_zero, List.set_cons_succ, i64_w, i32_w]
  rfl
 refine pure_ (i := 12) (N := some 84) (v := ?_) (a' := ?_) #[true, true, true, true, true, true, true, true, true, true, true, true, true, false, false, false, false, false, false, false, false, false, false, false, false, false, false, false, false, false, false, false, false, false, false, false] rfl rfl (any_of HT_.out (by kernel_rfl)) (fun _ _ _ h => h) (Or.inl ⟨by rfl, ?_⟩) ?_ ?_
 rotate_left
 ·intro w'
  go_simp
  with_reducible rfl
 rotate_left
 ·simp only [Act.put, List.setIfInBounds_toArray, List.set_cons_zero, List.set_cons_succ, i64_w, i32_w]
  rfl
 refine pure_ (i := 13) (N := some 85) (v := ?_) (a' := ?_) #[true, true, true, true, true, true, true, true, true, true, true, true, true, true, false, false, false, false, false, false, false, false, false, false, false, false, false, false, false, false, false, false, false, false, false, false] rfl rfl (any_of HT_.out (by kernel_rfl)) (fun _ _ _ h => h) (Or.inl ⟨by rfl, ?_⟩) ?_ ?_
 rotate_left
 ·intro w'
  go_simp
  with_reducible rfl
 rotate_left
 ·simp only [Act.put, List.setIfInBounds_toArray, List.set_cons_zero, List.set_cons_succ, i64_w, i32_w]
  rfl
 refine pure_ (i := 14) (N := some 86) (v := ?_) (a' := ?_) #[true, true, true, true, true, true, true, true, true, true, true, true, true, true, true, false, false, false, false, false, false, false, false, false, false, false, false, false, false, false, false, false, false, false, false, false] rfl rfl (any_of HT_.out (by kernel_rfl)) (fun _ _ _ h => h) (Or.inl ⟨by rfl, ?_⟩) ?_ ?_
 rotate_left
 ·intro w'
  go_simp
  with_reducible rfl
 rotate_left
 ·simp only [Act.put, List.setIfInBounds_toArray, List.set_cons_zero, List.set_cons_succ, i64_w, i32_w]
  rfl
 refine pure_ (i := 15) (N := some 87) (v := ?_) (a' := ?_) #[true, true, true, true, true, true, true, true, true, true, true, true, true, true, true, true, false, false, false, false, false, false, false, false, false, false, false, false, false, false, false, false, false, false, false, false] rfl rfl (any_of HT_.out (by kernel_rfl)) (fun _ _ _ h => h) (Or.inl ⟨by rfl, ?_⟩) ?_ ?_
 rotate_left
 ·intro w'
  go_simp
  with_reducible rfl
 rotate_left
 ·simp only [Act.put, List.setIfInBounds_toArray, List.set_cons_zero, List.set_cons_succ, i64_w, i32_w]
  rfl
 refine pure_ (i := 16) (N := some 88) (v := ?_) (a' := ?_) #[true, true, true, true, true, true, true, true, true, true, true, true, true, true, true, true, true, false, false, false, false, false, false, false, false, false, false, false, false, false, false, false, false, false, false, false] rfl rfl (any_of HT_.out (by kernel_rfl)) (fun _ _ _ h => h) (Or.inl ⟨by rfl, ?_⟩) ?_ ?_
 rotate_left
 ·intro w'
  go_simp
  with_reducible rfl
 rotate_left
 ·simp only [Act.put, List.setIfInBounds_toArray, List.set_cons_zero, List.set_cons_succ, i64_w, i32_w]
  rfl
 refine pure_ (i := 17) (N := some 89) (v := ?_) (a' := ?_) #[true, true, true, true, true, true, true, true, true, true, true, true, true, true, true, true, true, true, false, false, false, false, false, false, false, false, false, false, false, false, false, false, false, false, false, false] rfl rfl (any_of HT_.out (by kernel_rfl)) (fun _ _ _ h => h) (Or.inl ⟨by rfl, ?_⟩) ?_ ?_
 rotate_left
 ·intro w'
  go_simp
  with_reducible rfl
 rotate_left
 ·simp only [Act.put, List.setIfInBounds_toArray, List.set_cons_zero, List.set_cons_succ, i64_w, i32_w]
  rfl
 refine pure_ (i := 18) (N := some 90) (v := ?_) (a' := ?_) #[true, true, true, true, true, true, true, true, true, true, true, true, true, true, true, true, true, true, true, false, false, false, false, false, false, false, false, false, false, false, false, false, false, false, false, false] rfl rfl (any_of HT_.out (by kernel_rfl)) (fun _ _ _ h => h) (Or.inl ⟨by rfl, ?_⟩) ?_ ?_
 rotate_left
 ·intro w'
  go_simp
  with_reducible rfl
 rotate_left
 ·simp only [Act.put, List.setIfInBounds_toArray, List.set_cons_zero, List.set_cons_succ, i64_w, i32_w]
  rfl
 refine pure_ (i := 19) (N := some 91) (v := ?_) (a' := ?_) #[true, true, true, true, true, true, true, true, true, true, true, true, true, true, true, true, true, true, true, true, false, false, false, false, false, false, false, false, false, false, false, false, false, false, false, false] rfl rfl (any_of HT_.out (by kernel_rfl)) (fun _ _ _ h => h) (Or.inl ⟨by rfl, ?_⟩) ?_ ?_
 rotate_left
 ·intro w'
  go_simp
  with_reducible rfl
 rotate_left
 ·simp only [Act.put, List.setIfInBounds_toArray, List.set_cons_zero, List.set_cons_succ, i64_w, i32_w]
  rfl
 refine pure_ (i := 20) (N := some 92) (v := ?_) (a' := ?_) #[true, true, true, true, true, true, true, true, true, true, true, true, true, true, true, true, true, true, true, true, true, false, false, false, false, false, false, false, false, false, false, false, false, false, false, false] rfl rfl (any_of HT_.out (by kernel_rfl)) (fun _ _ _ h => h) (Or.inl ⟨by rfl, ?_⟩) ?_ ?_
 rotate_left
 ·intro w'
  go_simp
  with_reducible rfl
 rotate_left
 ·simp only [Act.put, List.setIfInBounds_toArray, List.set_cons_zero, List.set_cons_succ, i64_w, i32_w]
  rfl
 refine pure_ (i := 21) (N := some 93) (v := ?_) (a' := ?_) #[true, true, true, true, true, true, true, true, true, true, true, true, true, true, true, true, true, true, true, true, true, true, false, false, false, false, false, false, false, false, false, false, false, false, false, false] rfl rfl (any_of HT_.out (by kernel_rfl)) (fun _ _ _ h => h) (Or.inl ⟨by rfl, ?_⟩) ?_ ?_
 rotate_left
 ·intro w'
  go_simp
  with_reducible rfl
 rotate_left
 ·simp only [Act.put, List.setIfInBounds_toArray, List.set_cons_zero, List.set_cons_succ, i64_w, i32_w]
  rfl
 refine pure_ (i := 22) (N := some 94) (v := ?_) (a' := ?_) #[true, true, true, true, true, true, true, true, true, true, true, true, true, true, true, true, true, true, true, true, true, true, true, false, false, false, false, false, false, false, false, false, false, false, false, false] rfl rfl (any_of HT_.out (by kernel_rfl)) (fun _ _ _ h => h) (Or.inl ⟨by rfl, ?_⟩) ?_ ?_
 rotate_left
 ·intro w'
  go_simp
  with_reducible rfl
 rotate_left
 ·simp only [Act.put, List.setIfInBounds_toArray, List.set_cons_zero, List.set_cons_succ, i64_w, i32_w]
  rfl
 refine pure_ (i := 23) (N := some 95) (v := ?_) (a' := ?_) #[true, true, true, true, true, true, true, true, true, true, true, true, true, true, true, true, true, true, true, true, true, true, true, true, false, false, false, false, false, false, false, false, false, false, false, false] rfl rfl (any_of HT_.out (by kernel_rfl)) (fun _ _ _ h => h) (Or.inl ⟨by rfl, ?_⟩) ?_ ?_
 rotate_left
 ·intro w'
  go_simp
  with_reducible rfl
 rotate_left
 ·simp only [Act.put, List.setIfInBounds_toArray, List.set_cons_zero, List.set_cons_succ, i64_w, i32_w]
  rfl
 refine pure_ (i := 24) (N := some 96) (v := ?_) (a' := ?_) #[true, true, true, true, true, true, true, true, true, true, true, true, true, true, true, true, true, true, true, true, true, true, true, true, true, false, false, false, false, false, false, false, false, false, false, false] rfl rfl (any_of HT_.out (by kernel_rfl)) (fun _ _ _ h => h) (Or.inl ⟨by rfl, ?_⟩) ?_ ?_
 rotate_left
 ·intro w'
  go_simp
  with_reducible rfl
 rotate_left
 ·simp only [Act.put, List.setIfInBounds_toArray, List.set_cons_zero, List.set_cons_succ, i64_w, i32_w]
  rfl
 refine pure_ (i := 25) (N := some 97) (v := ?_) (a' := ?_) #[true, true, true, true, true, true, true, true, true, true, true, true, true, true, true, true, true, true, true, true, true, true, true, true, true, true, false, false, false, false, false, false, false, false, false, false] rfl rfl (any_of HT_.out (by kernel_rfl)) (fun _ _ _ h => h) (Or.inl ⟨by rfl, ?_⟩) ?_ ?_
 rotate_left
 ·intro w'
  go_simp
  with_reducible rfl
 rotate_left
 ·simp only [Act.put, List.setIfInBounds_toArray, List.set_cons_zero, List.set_cons_succ, i64_w, i32_w]
  rfl
 refine pure_ (i := 26) (N := some 98) (v := ?_) (a' := ?_) #[true, true, true, true, true, true, true, true, true, true, true, true, true, true, true, true, true, true, true, true, true, true, true, true, true, true, true, false, false, false, false, false, false, false, false, false] rfl rfl (any_of HT_.out (by kernel_rfl)) (fun _ _ _ h => h) (Or.inl ⟨by rfl, ?_⟩) ?_ ?_
 rotate_left
 ·intro w'
  go_simp
  with_reducible rfl
 rotate_left
 ·simp only [Act.put, List.setIfInBounds_toArray, List.set_cons_zero, List.set_cons_succ, i64_w, i32_w]
  rfl
 refine pure_ (i := 27) (N := some 99) (v := ?_) (a' := ?_) #[true, true, true, true, true, true, true, true, true, true, true, true, true, true, true, true, true, true, true, true, true, true, true, true, true, true, true, true, false, false, false, false, false, false, false, false] rfl rfl (any_of HT_.out (by kernel_rfl)) (fun _ _ _ h => h) (Or.inl ⟨by rfl, ?_⟩) ?_ ?_
 rotate_left
 ·intro w'
  go_simp
  with_reducible rfl
 rotate_left
 ·simp only [Act.put, List.setIfInBounds_toArray, List.set_cons_zero, List.set_cons_succ, i64_w, i32_w]
  rfl
 refine pure_ (i := 28) (N := some 100) (v := ?_) (a' := ?_) #[true, true, true, true, true, true, true, true, true, true, true, true, true, true, true, true, true, true, true, true, true, true, true, true, true, true, true, true, true, false, false, false, false, false, false, false] rfl rfl (any_of HT_.out (by kernel_rfl)) (fun _ _ _ h => h) (Or.inl ⟨by rfl, ?_⟩) ?_ ?_
 rotate_left
 ·intro w'
  go_simp
  with_reducible rfl
 rotate_left
 ·simp only [Act.put, List.setIfInBounds_toArray, List.set_cons_zero, List.set_cons_succ, i64_w, i32_w]
  rfl
 refine pure_ (i := 29) (N := some 101) (v := ?_) (a' := ?_) #[true, true, true, true, true, true, true, true, true, true, true, true, true, true, true, true, true, true, true, true, true, true, true, true, true, true, true, true, true, true, false, false, false, false, false, false] rfl rfl (any_of HT_.out (by kernel_rfl)) (fun _ _ _ h => h) (Or.inl ⟨by rfl, ?_⟩) ?_ ?_
 rotate_left
 ·intro w'
  go_simp
  with_reducible rfl
 rotate_left
 ·simp only [Act.put, List.setIfInBounds_toArray, List.set_cons_zero, List.set_cons_succ, i64_w, i32_w]
  rfl
 refine pure_ (i := 30) (N := some 102) (v := ?_) (a' := ?_) #[true, true, true, true, true, true, true, true, true, true, true, true, true, true, true, true, true, true, true, true, true, true, true, true, true, true, true, true, true, true, true, false, false, false, false, false] rfl rfl (any_of HT_.out (by kernel_rfl)) (fun _ _ _ h => h) (Or.inl ⟨by rfl, ?_⟩) ?_ ?_
 rotate_left
 ·intro w'
  go_simp
  with_reducible rfl
 rotate_left
 ·simp only [Act.put, List.setIfInBounds_toArray, List.set_cons_zero, List.set_cons_succ, i64_w, i32_w]
  rfl
 refine pure_ (i := 31) (N := some 103) (v := ?_) (a' := ?_) #[true, true, true, true, true, true, true, true, true, true, true, true, true, true, true, true, true, true, true, true, true, true, true, true, true, true, true, true, true, true, true, true, false, false, false, false] rfl rfl (any_of HT_.out (by kernel_rfl)) (fun _ _ _ h => h) (Or.inl ⟨by rfl, ?_⟩) ?_ ?_
 rotate_left
 ·intro w'
  go_simp
  with_reducible rfl
 rotate_left
 ·simp only [Act.put, List.setIfInBounds_toArray, List.set_cons_zero, List.set_cons_succ, i64_w, i32_w]
  rfl
 refine pure_ (i := 32) (N := some 104) (v := ?_) (a' := ?_) #[true, true, true, true, true, true, true, true, true, true, true, true, true, true, true, true, true, true, true, true, true, true, true, true, true, true, true, true, true, true, true, true, true, false, false, false] rfl rfl (any_of HT_.out (by kernel_rfl)) (fun _ _ _ h => h) (Or.inl ⟨by rfl, ?_⟩) ?_ ?_
 rotate_left
 ·intro w'
  go_simp
  with_reducible rfl
 rotate_left
 ·simp only [Act.put, List.setIfInBounds_toArray, List.set_cons_zero, List.set_cons_succ, i64_w, i32_w]
  rfl
 refine one_ (i := 33) (N := some 105) #[true, true, true, true, true, true, true, true, true, true, true, true, true, true, true, true, true, true, true, true, true, true, true, true, true, true, true, true, true, true, true, true, true, true, false, false] rfl rfl (one_of HT_.out (by kernel_rfl)) (by decide) (fun K hK => ?_)
 refine goes_ Try.func37 (by kernel_rfl) rfl #[.slice Ao47 t454.length co47, .slice Ao48 t458.length co48, .func (.func 17) #[] #[]] (by rfl) rfl rfl (by (try simp only [List.map_toArray, List.map_cons, List.map_nil]); first | done | rfl | (simp only [List.length_drop, List.length_take]; rfl)) ?_
 with_reducible refine (slices_EqualFunc_int_int_int_int__slices_Equal_int_int.calls _ _ t454 _ _ t458 t464 _ ?side1 ?side2 ?side3 ?side4 A21.out).mono ?_
 (case side1 => repeat (first | exact (Kd.S_reads' HO456.out).2.2 | (with_reducible refine Kd.C_alloc ?_ _) | (with_reducible refine Kd.C_drewN ?_ _) | (with_reducible refine Kd.C_drew ?_)))
 (case side2 => exact (Kd.S_reads' HO456.out).2.1)
 (case side3 => repeat (first | exact (Kd.S_reads' HO460.out).2.2 | (with_reducible refine Kd.C_alloc ?_ _) | (with_reducible refine Kd.C_drewN ?_ _) | (with_reducible refine Kd.C_drew ?_)))
 (case side4 => exact (Kd.S_reads' HO460.out).2.1)
 rintro e w49 ⟨rfl, hb⟩
 refine ⟨_, rfl, ?_⟩
 have n0_ := Aside0.mk (Kd.S_below (by (with_reducible repeat (first | apply Kd.S_alloc | apply Kd.S_drewN | apply Kd.S_drew)); exact HO456.out) hb)
 have n1_ := Aside0.mk (Kd.S_below (by (with_reducible repeat (first | apply Kd.S_alloc | apply Kd.S_drewN | apply Kd.S_drew)); exact HO460.out) hb)
 have n2_ := Aside0.mk (bkB (g := gb442) (o := .cells #[.slice A0_0 l0_0.length c0_0, .slice A0_1 l0_1.length c0_1, .slice A0_2 l0_2.length c0_2, .int .i64 a0_3, .int .i64 a0_4, .int .i64 a0_5] 26 (0, 0)) (by (with_reducible repeat (first | refine bkN ?_ _ | refine bkD ?_ | refine bkA ?_ _)); exact BK442.out) hb)
 have n3_ := Aside0.mk (bkB (g := gb443) (o := .cells #[.int .i64 a1_0, .int .i64 a1_1, .int .i64 a1_2, .int .i64 a1_3, .int .i64 a1_4, .int .i64 a1_5, .int .i64 a1_6] 56 (0, 0)) (by (with_reducible repeat (first | refine bkN ?_ _ | refine bkD ?_ | refine bkA ?_ _)); exact BK443.out) hb)
 have n4_ := Aside0.mk (below_step (by repeat (first | (with_reducible first | exact HB.out | apply blA | apply blN | apply blD | refine blS ?_ GE442.out | refine blS ?_ GE443.out) | exact HB.out)) hb)
 clear HO456
 clear HO460
 clear BK442
 clear BK443
 clear HB
 have HO456 := n0_
 have HO460 := n1_
 have BK442 := n2_
 have BK443 := n3_
 have HB := n4_
 clear n0_ n1_ n2_ n3_ n4_
 (try clear hb)
 (try clear hb2)
 (try clear hk)
 (try clear hi)
 refine hK.out _ _ ⟨(bkC BK442.out 0).trans rfl, (bkC BK442.out 1).trans rfl, (bkC BK442.out 2).trans rfl, (bkC BK442.out 3).trans rfl, (bkC BK442.out 4).trans rfl, (bkC BK442.out 5).trans rfl⟩ (fun hHeld => ?_)
 clear hK K
 refine norm_ (a' := ?_) ?_ ?_
 rotate_left
 ·show Act.put _ (some 105) _ = _
  simp only [Act.put, List.setIfInBounds_toArray, List.set_cons_zero, List.set_cons_succ, i64_w, i32_w]
  rfl
 refine pure_ (i := 34) (N := some 106) (v := ?_) (a' := ?_) #[true, true, true, true, true, true, true, true, true, true, true, true, true, true, true, true, true, true, true, true, true, true, true, true, true, true, true, true, true, true, true, true, true, true, true, false] rfl rfl (any_of HT_.out (by kernel_rfl)) (fun _ _ _ h => h) (Or.inl ⟨by rfl, ?_⟩) ?_ ?_
 rotate_left
 ·intro w'
  go_simp
  with_reducible rfl
 rotate_left
 ·simp only [Act.put, List.setIfInBounds_toArray, List.set_cons_zero, List.set_cons_succ, i64_w, i32_w]
  rfl
 refine pure_ (i := 35) (N := some 4) (v := ?_) (a' := ?_) #[true, true, true, true, true, true, true, true, true, true, true, true, true, true, true, true, true, true, true, true, true, true, true, true, true, true, true, true, true, true, true, true, true, true, true, true] rfl rfl (any_of HT_.out (by kernel_rfl)) (fun _ _ _ h => h) (Or.inl ⟨by rfl, ?_⟩) ?_ ?_
 rotate_left
 ·intro w'
  go_simp
  with_reducible rfl
 rotate_left
 ·simp only [Act.put, List.setIfInBounds_toArray, List.set_cons_zero, List.set_cons_succ, i64_w, i32_w]
  rfl
 refine done_ (done_of HT_.out (by kernel_rfl)) ?_
 try go_wp2
 go_ret
 exact ⟨by first | rfl | (simp [errW_none, errW_some] <;> rfl) | (simp [*, errW_none, errW_some] <;> rfl), by repeat (first | (with_reducible first | exact HB.out | apply blA | apply blN | apply blD | refine blS ?_ GE442.out | refine blS ?_ GE443.out) | exact HB.out)⟩
end Go.Proofs.Ytcdgpnjlaicbcaa.PA
