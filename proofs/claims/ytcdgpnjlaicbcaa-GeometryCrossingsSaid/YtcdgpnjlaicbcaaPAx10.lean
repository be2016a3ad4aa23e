-- Written by a program of this session (mkprint.py: the kit's print, changed) for this claim. Not trusted: Lean checks it.
import Derived.Test.YtcdgpnjlaicbcaaPAx0
import Derived.Test.YtcdgpnjlaicbcaaPAx3
import Derived.Test.YtcdgpnjlaicbcaaPAx6
import Derived.Test.YtcdgpnjlaicbcaaPAx9
import Derived.Test.YtcdgpnjlaicbcaaPAx46
namespace Go.Proofs.Ytcdgpnjlaicbcaa.PA
open Go.RowKit Go.Proofs.YtcdgpnjlaicbcaaW.PrintWords Go.Proofs.YtcdgpnjlaicbcaaW.PrintLast Go.Proofs.YtcdgpnjlaicbcaaW.PrintMore
attribute [local go_sem] max2_int min2_int max_two min_two max_three min_three max_four min_four   -- for this text's walks alone
-- thin
set_option linter.unusedVariables false
set_option linter.unusedSimpArgs false

/-! ### hopmeshlaw05_awake0: function 11 -/
def hopmeshlaw05_awake0.f (k : Nat)  : Option (Bool) := (some (([(⟨0, 50⟩ : S28), (⟨30, 50⟩ : S28)] : List (S28)) : List (S28))).bind fun y141 => ((some (([90000, 90000] : List Int) : List Int)).bind fun y144 => ((geometry_Between.f y141 y144 ([] : List (S47)) 2 1 1000 0 1).bind fun bt148 => ((some (([(⟨(⟨20, 40⟩ : S28), (⟨20, 60⟩ : S28), 250⟩ : S47)] : List (S47)) : List (S47))).bind fun y150 => ((geometry_Between.f y141 y144 y150 4 1 1000 0 1).bind fun bt153 => (if bt148.2 = 0 then (if bt153.2 = 0 then (if bt148.1 = 10000 then (if bt153.1 = 277 then ((geometry_Check.f y141 y144 y150 4 1 1000).bind fun t155 => (if t155 = 0 then (if 0 < (y141.length : Int) then (if 1 < (y141.length : Int) then ((geometry_Square.f ((rd_T28 y141 0).f0) ((rd_T28 y141 0).f1) ((rd_T28 y141 1).f0) ((rd_T28 y141 1).f1)).bind fun t158 => (if t158 = 900 then (if 0 < (y150.length : Int) then ((geometry_Crosses.f k ((rd_T28 y141 0).f0) ((rd_T28 y141 0).f1) ((rd_T28 y141 1).f0) ((rd_T28 y141 1).f1) ((rd_T47 y150 0).f0.f0) ((rd_T47 y150 0).f0.f1) ((rd_T47 y150 0).f1.f0) ((rd_T47 y150 0).f1.f1) ((rd_T47 y150 0).f2)).bind fun t162 => (some t162)) else (none)) else (some false))) else (none)) else (none)) else (some false))) else (some false)) else (some false)) else (some false)) else (some false))))))
theorem hopmeshlaw05_awake0.mono : ∀ k, LeO (hopmeshlaw05_awake0.f k ) (hopmeshlaw05_awake0.f (k + 1) ) := by
 intro  k
 unfold hopmeshlaw05_awake0.f
 repeat' first
  | (with_reducible exact geometry_Crosses.mono _ _ _ _ _ _ _ _ _ _)
  | (with_reducible exact LeO.refl _)
  | (with_reducible exact LeO.none _)
  | (with_reducible refine LeO.ite ?_ ?_)
  | (with_reducible refine LeO.bind ?_ (fun _ => ?_))
  | exact geometry_Crosses.mono _ _ _ _ _ _ _ _ _ _
  | exact LeO.none _
  | refine LeO.ite ?_ ?_
  | refine LeO.bind ?_ (fun _ => ?_)
def hopmeshlaw05_awake0.T6 : Bool × List (List Nat × List Nat) := (true, [([], []), ([0], [0]), ([1], [1]), ([2], [2]), ([3, 2], [2, 3]), ([2, 4], [2, 4]), ([5, 2], [5]), ([6], [6]), ([7, 6], [6, 7]), ([6, 8], [6, 8]), ([9, 6], [9]), ([10], [10]), ([11, 10], [10, 11]), ([10, 12], [10, 12]), ([13, 10], [13]), ([14], [14]), ([15, 14, 14], [14, 15]), ([16, 14], [14, 16]), ([14, 17], [14, 17]), ([18, 16], [18]), ([19], [19]), ([20, 19], [19, 20]), ([21, 19], [19, 21]), ([22, 19], [19, 22]), ([19], [19]), ([24, 19], [19, 24]), ([25, 19], [19, 25]), ([26, 19], [19, 26]), ([23, 27, 19, 19], [19, 23, 27]), ([28, 19], [19, 28]), ([19, 29], [19, 29]), ([30, 28], [30]), ([31], [31]), ([32, 31], [31, 32]), ([33, 31], [31, 33]), ([34, 31], [31, 34]), ([31], [31]), ([36, 31], [31, 36]), ([37, 31], [31, 37]), ([38, 31], [31, 38]), ([31], [31]), ([40, 31], [31, 40]), ([41, 31], [31, 41]), ([42, 31], [31, 42]), ([35, 39, 43, 31, 31], [31, 35, 39, 43]), ([31, 44], [31, 44]), ([45, 44, 0, 1, 2, 3, 4, 5, 6, 7, 8, 9, 10, 11, 12, 13, 14, 15, 16, 17, 18, 19, 20, 21, 22, 23, 24, 25, 26, 27, 28, 29, 30, 31, 32, 33, 34, 35, 36, 37, 38, 39, 40, 41, 42, 43, 44, 45], [45])])
def hopmeshlaw05_awake0.B6 : List Nat := [0, 1, 3, 7, 15, 31, 63, 127, 255, 511, 1023, 2047, 4095, 8191, 16383, 32767, 65535, 131071, 262143, 524287, 1048575, 2097151, 4194303, 8388607, 1048575, 17825791, 51380223, 118489087, 268435455, 536870911, 1073741823, 2147483647, 4294967295, 8589934591, 17179869183, 34359738367, 4294967295, 73014444031, 210453397503, 485331304447, 4294967295, 1103806595071, 3302829850623, 7700876361727, 17592186044415, 35184372088831, 70368744177663]
theorem hopmeshlaw05_awake0.tab6 : rtab .any (opsOf Try.f11 6) = hopmeshlaw05_awake0.T6 := by kernel_rfl
theorem hopmeshlaw05_awake0.bits6 : waitsOk hopmeshlaw05_awake0.T6.2 hopmeshlaw05_awake0.B6 = true := by kernel_rfl
set_option maxHeartbeats 8000000 in
set_option maxRecDepth 100000 in
theorem hopmeshlaw05_awake0.calls (k : Nat)  (r : Bool) (w : World) (h : hopmeshlaw05_awake0.f k  = some r) (hr_ : r = true) :
 Calls Try.prog 11 #[] w fun e w' => e = .returned (.bool r) ∧ Below w.heap.size w w' := by
 have hu28 := Try.underlying28
 have hu26 := Try.underlying26
 have hu47 := Try.underlying47
 have HRT := Aside0.mk hr_
 clear hr_
 have HB := Aside0.mk (Below.refl w.heap.size w)
 have H : ((some (([(⟨0, 50⟩ : S28), (⟨30, 50⟩ : S28)] : List (S28)) : List (S28))).bind fun y141 => ((some (([90000, 90000] : List Int) : List Int)).bind fun y144 => ((geometry_Between.f y141 y144 ([] : List (S47)) 2 1 1000 0 1).bind fun bt148 => ((some (([(⟨(⟨20, 40⟩ : S28), (⟨20, 60⟩ : S28), 250⟩ : S47)] : List (S47)) : List (S47))).bind fun y150 => ((geometry_Between.f y141 y144 y150 4 1 1000 0 1).bind fun bt153 => (if bt148.2 = 0 then (if bt153.2 = 0 then (if bt148.1 = 10000 then (if bt153.1 = 277 then ((geometry_Check.f y141 y144 y150 4 1 1000).bind fun t155 => (if t155 = 0 then (if 0 < (y141.length : Int) then (if 1 < (y141.length : Int) then ((geometry_Square.f ((rd_T28 y141 0).f0) ((rd_T28 y141 0).f1) ((rd_T28 y141 1).f0) ((rd_T28 y141 1).f1)).bind fun t158 => (if t158 = 900 then (if 0 < (y150.length : Int) then ((geometry_Crosses.f k ((rd_T28 y141 0).f0) ((rd_T28 y141 0).f1) ((rd_T28 y141 1).f0) ((rd_T28 y141 1).f1) ((rd_T47 y150 0).f0.f0) ((rd_T47 y150 0).f0.f1) ((rd_T47 y150 0).f1.f0) ((rd_T47 y150 0).f1.f1) ((rd_T47 y150 0).f2)).bind fun t162 => (some t162)) else (none)) else (some false))) else (none)) else (none)) else (some false))) else (some false)) else (some false)) else (some false)) else (some false))))))) = some r := h
 clear h
 obtain ⟨y141, hy141⟩ : ∃ y_ : List (S28), y_ = (([(⟨0, 50⟩ : S28), (⟨30, 50⟩ : S28)] : List (S28))) := ⟨_, rfl⟩
 replace H : ((some (([90000, 90000] : List Int) : List Int)).bind fun y144 => ((geometry_Between.f y141 y144 ([] : List (S47)) 2 1 1000 0 1).bind fun bt148 => ((some (([(⟨(⟨20, 40⟩ : S28), (⟨20, 60⟩ : S28), 250⟩ : S47)] : List (S47)) : List (S47))).bind fun y150 => ((geometry_Between.f y141 y144 y150 4 1 1000 0 1).bind fun bt153 => (if bt148.2 = 0 then (if bt153.2 = 0 then (if bt148.1 = 10000 then (if bt153.1 = 277 then ((geometry_Check.f y141 y144 y150 4 1 1000).bind fun t155 => (if t155 = 0 then (if 0 < (y141.length : Int) then (if 1 < (y141.length : Int) then ((geometry_Square.f ((rd_T28 y141 0).f0) ((rd_T28 y141 0).f1) ((rd_T28 y141 1).f0) ((rd_T28 y141 1).f1)).bind fun t158 => (if t158 = 900 then (if 0 < (y150.length : Int) then ((geometry_Crosses.f k ((rd_T28 y141 0).f0) ((rd_T28 y141 0).f1) ((rd_T28 y141 1).f0) ((rd_T28 y141 1).f1) ((rd_T47 y150 0).f0.f0) ((rd_T47 y150 0).f0.f1) ((rd_T47 y150 0).f1.f0) ((rd_T47 y150 0).f1.f1) ((rd_T47 y150 0).f2)).bind fun t162 => (some t162)) else (none)) else (some false))) else (none)) else (none)) else (some false))) else (some false)) else (some false)) else (some false)) else (some false)))))) = some r := by first | (rw [hy141]; with_reducible exact H) | (have H2_ := (Option.bind_some _ _).symm.trans H; rw [hy141]; with_reducible exact H2_) | (have H2_ := (Option.bind_some _ _).symm.trans H; with_reducible exact H2_) | with_reducible exact H | (rw [hy141]; exact H) | exact H
 have Ny141 := Aside0.mk hy141
 clear hy141
 obtain ⟨y144, hy144⟩ : ∃ y_ : List Int, y_ = (([90000, 90000] : List Int)) := ⟨_, rfl⟩
 replace H : ((geometry_Between.f y141 y144 ([] : List (S47)) 2 1 1000 0 1).bind fun bt148 => ((some (([(⟨(⟨20, 40⟩ : S28), (⟨20, 60⟩ : S28), 250⟩ : S47)] : List (S47)) : List (S47))).bind fun y150 => ((geometry_Between.f y141 y144 y150 4 1 1000 0 1).bind fun bt153 => (if bt148.2 = 0 then (if bt153.2 = 0 then (if bt148.1 = 10000 then (if bt153.1 = 277 then ((geometry_Check.f y141 y144 y150 4 1 1000).bind fun t155 => (if t155 = 0 then (if 0 < (y141.length : Int) then (if 1 < (y141.length : Int) then ((geometry_Square.f ((rd_T28 y141 0).f0) ((rd_T28 y141 0).f1) ((rd_T28 y141 1).f0) ((rd_T28 y141 1).f1)).bind fun t158 => (if t158 = 900 then (if 0 < (y150.length : Int) then ((geometry_Crosses.f k ((rd_T28 y141 0).f0) ((rd_T28 y141 0).f1) ((rd_T28 y141 1).f0) ((rd_T28 y141 1).f1) ((rd_T47 y150 0).f0.f0) ((rd_T47 y150 0).f0.f1) ((rd_T47 y150 0).f1.f0) ((rd_T47 y150 0).f1.f1) ((rd_T47 y150 0).f2)).bind fun t162 => (some t162)) else (none)) else (some false))) else (none)) else (none)) else (some false))) else (some false)) else (some false)) else (some false)) else (some false))))) = some r := by first | (rw [hy144]; with_reducible exact H) | (have H2_ := (Option.bind_some _ _).symm.trans H; rw [hy144]; with_reducible exact H2_) | (have H2_ := (Option.bind_some _ _).symm.trans H; with_reducible exact H2_) | with_reducible exact H | (rw [hy144]; exact H) | exact H
 have Ny144 := Aside0.mk hy144
 clear hy144
 replace H := Option.bind_eq_some_iff.mp H
 obtain ⟨⟨t148, t149⟩, A10, H⟩ := H
 replace H : ((some (([(⟨(⟨20, 40⟩ : S28), (⟨20, 60⟩ : S28), 250⟩ : S47)] : List (S47)) : List (S47))).bind fun y150 => ((geometry_Between.f y141 y144 y150 4 1 1000 0 1).bind fun bt153 => (if t149 = 0 then (if bt153.2 = 0 then (if t148 = 10000 then (if bt153.1 = 277 then ((geometry_Check.f y141 y144 y150 4 1 1000).bind fun t155 => (if t155 = 0 then (if 0 < (y141.length : Int) then (if 1 < (y141.length : Int) then ((geometry_Square.f ((rd_T28 y141 0).f0) ((rd_T28 y141 0).f1) ((rd_T28 y141 1).f0) ((rd_T28 y141 1).f1)).bind fun t158 => (if t158 = 900 then (if 0 < (y150.length : Int) then ((geometry_Crosses.f k ((rd_T28 y141 0).f0) ((rd_T28 y141 0).f1) ((rd_T28 y141 1).f0) ((rd_T28 y141 1).f1) ((rd_T47 y150 0).f0.f0) ((rd_T47 y150 0).f0.f1) ((rd_T47 y150 0).f1.f0) ((rd_T47 y150 0).f1.f1) ((rd_T47 y150 0).f2)).bind fun t162 => (some t162)) else (none)) else (some false))) else (none)) else (none)) else (some false))) else (some false)) else (some false)) else (some false)) else (some false)))) = some r := H
 have A1 := Aside0.mk A10
 clear A10
 obtain ⟨y150, hy150⟩ : ∃ y_ : List (S47), y_ = (([(⟨(⟨20, 40⟩ : S28), (⟨20, 60⟩ : S28), 250⟩ : S47)] : List (S47))) := ⟨_, rfl⟩
 replace H : ((geometry_Between.f y141 y144 y150 4 1 1000 0 1).bind fun bt153 => (if t149 = 0 then (if bt153.2 = 0 then (if t148 = 10000 then (if bt153.1 = 277 then ((geometry_Check.f y141 y144 y150 4 1 1000).bind fun t155 => (if t155 = 0 then (if 0 < (y141.length : Int) then (if 1 < (y141.length : Int) then ((geometry_Square.f ((rd_T28 y141 0).f0) ((rd_T28 y141 0).f1) ((rd_T28 y141 1).f0) ((rd_T28 y141 1).f1)).bind fun t158 => (if t158 = 900 then (if 0 < (y150.length : Int) then ((geometry_Crosses.f k ((rd_T28 y141 0).f0) ((rd_T28 y141 0).f1) ((rd_T28 y141 1).f0) ((rd_T28 y141 1).f1) ((rd_T47 y150 0).f0.f0) ((rd_T47 y150 0).f0.f1) ((rd_T47 y150 0).f1.f0) ((rd_T47 y150 0).f1.f1) ((rd_T47 y150 0).f2)).bind fun t162 => (some t162)) else (none)) else (some false))) else (none)) else (none)) else (some false))) else (some false)) else (some false)) else (some false)) else (some false))) = some r := by first | (rw [hy150]; with_reducible exact H) | (have H2_ := (Option.bind_some _ _).symm.trans H; rw [hy150]; with_reducible exact H2_) | (have H2_ := (Option.bind_some _ _).symm.trans H; with_reducible exact H2_) | with_reducible exact H | (rw [hy150]; exact H) | exact H
 have Ny150 := Aside0.mk hy150
 clear hy150
 replace H := Option.bind_eq_some_iff.mp H
 obtain ⟨⟨t153, t154⟩, A20, H⟩ := H
 replace H : (if t149 = 0 then (if t154 = 0 then (if t148 = 10000 then (if t153 = 277 then ((geometry_Check.f y141 y144 y150 4 1 1000).bind fun t155 => (if t155 = 0 then (if 0 < (y141.length : Int) then (if 1 < (y141.length : Int) then ((geometry_Square.f ((rd_T28 y141 0).f0) ((rd_T28 y141 0).f1) ((rd_T28 y141 1).f0) ((rd_T28 y141 1).f1)).bind fun t158 => (if t158 = 900 then (if 0 < (y150.length : Int) then ((geometry_Crosses.f k ((rd_T28 y141 0).f0) ((rd_T28 y141 0).f1) ((rd_T28 y141 1).f0) ((rd_T28 y141 1).f1) ((rd_T47 y150 0).f0.f0) ((rd_T47 y150 0).f0.f1) ((rd_T47 y150 0).f1.f0) ((rd_T47 y150 0).f1.f1) ((rd_T47 y150 0).f2)).bind fun t162 => (some t162)) else (none)) else (some false))) else (none)) else (none)) else (some false))) else (some false)) else (some false)) else (some false)) else (some false)) = some r := H
 have A2 := Aside0.mk A20
 clear A20
 by_cases c3 : t149 = 0
 rotate_left
 ·rw [if_neg c3] at H
  have c3b0 : (t149 == 0) = false := beq_eq_false_iff_ne.mpr c3
  have c3b1 : (t149 != 0) = true := bne_iff_ne.mpr c3
  exact absurd (H.trans (congrArg some HRT.out)) (by simp)

 rw [if_pos c3] at H
 have c3b0 : (t149 == 0) = true := beq_iff_eq.mpr c3
 have c3b1 : (t149 != 0) = false := bne_eq_false_iff_eq.mpr c3
 clear c3
 by_cases c4 : t154 = 0
 rotate_left
 ·rw [if_neg c4] at H
  have c4b0 : (t154 == 0) = false := beq_eq_false_iff_ne.mpr c4
  have c4b1 : (t154 != 0) = true := bne_iff_ne.mpr c4
  exact absurd (H.trans (congrArg some HRT.out)) (by simp)
 rw [if_pos c4] at H
 have c4b0 : (t154 == 0) = true := beq_iff_eq.mpr c4
 have c4b1 : (t154 != 0) = false := bne_eq_false_iff_eq.mpr c4
 clear c4
 by_cases c5 : t148 = 10000
 rotate_left
 ·rw [if_neg c5] at H
  have c5b0 : (t148 == 10000) = false := beq_eq_false_iff_ne.mpr c5
  have c5b1 : (t148 != 10000) = true := bne_iff_ne.mpr c5
  exact absurd (H.trans (congrArg some HRT.out)) (by simp)
 rw [if_pos c5] at H
 have c5b0 : (t148 == 10000) = true := beq_iff_eq.mpr c5
 have c5b1 : (t148 != 10000) = false := bne_eq_false_iff_eq.mpr c5
 clear c5
 by_cases c6 : t153 = 277
 rotate_left
 ·rw [if_neg c6] at H
  have c6b0 : (t153 == 277) = false := beq_eq_false_iff_ne.mpr c6
  have c6b1 : (t153 != 277) = true := bne_iff_ne.mpr c6
  exact absurd (H.trans (congrArg some HRT.out)) (by simp)
 rw [if_pos c6] at H
 have c6b0 : (t153 == 277) = true := beq_iff_eq.mpr c6
 have c6b1 : (t153 != 277) = false := bne_eq_false_iff_eq.mpr c6
 clear c6
 replace H := Option.bind_eq_some_iff.mp H
 obtain ⟨t155, A70, H⟩ := H
 replace H : (if t155 = 0 then (if 0 < (y141.length : Int) then (if 1 < (y141.length : Int) then ((geometry_Square.f ((rd_T28 y141 0).f0) ((rd_T28 y141 0).f1) ((rd_T28 y141 1).f0) ((rd_T28 y141 1).f1)).bind fun t158 => (if t158 = 900 then (if 0 < (y150.length : Int) then ((geometry_Crosses.f k ((rd_T28 y141 0).f0) ((rd_T28 y141 0).f1) ((rd_T28 y141 1).f0) ((rd_T28 y141 1).f1) ((rd_T47 y150 0).f0.f0) ((rd_T47 y150 0).f0.f1) ((rd_T47 y150 0).f1.f0) ((rd_T47 y150 0).f1.f1) ((rd_T47 y150 0).f2)).bind fun t162 => (some t162)) else (none)) else (some false))) else (none)) else (none)) else (some false)) = some r := H
 have A7 := Aside0.mk A70
 clear A70
 by_cases c8 : t155 = 0
 rotate_left
 ·rw [if_neg c8] at H
  have c8b0 : (t155 == 0) = false := beq_eq_false_iff_ne.mpr c8
  have c8b1 : (t155 != 0) = true := bne_iff_ne.mpr c8
  exact absurd (H.trans (congrArg some HRT.out)) (by simp)
 rw [if_pos c8] at H
 have c8b0 : (t155 == 0) = true := beq_iff_eq.mpr c8
 have c8b1 : (t155 != 0) = false := bne_eq_false_iff_eq.mpr c8
 clear c8
 by_cases c9 : 0 < (y141.length : Int)
 rotate_left
 ·rw [if_neg c9] at H
  exact absurd H (by simp)
 rw [if_pos c9] at H
 have c9b0 : decide (0 < (y141.length : Int)) = true := decide_eq_true c9
 have c9b1 : decide (0 < y141.length) = true := decide_eq_true (by omega)
 clear c9
 by_cases c10 : 1 < (y141.length : Int)
 rotate_left
 ·rw [if_neg c10] at H
  exact absurd H (by simp)
 rw [if_pos c10] at H
 have c10b0 : decide (1 < (y141.length : Int)) = true := decide_eq_true c10
 have c10b1 : decide (1 < y141.length) = true := decide_eq_true (by omega)
 clear c10
 replace H := Option.bind_eq_some_iff.mp H
 obtain ⟨t158, A110, H⟩ := H
 replace H : (if t158 = 900 then (if 0 < (y150.length : Int) then ((geometry_Crosses.f k ((rd_T28 y141 0).f0) ((rd_T28 y141 0).f1) ((rd_T28 y141 1).f0) ((rd_T28 y141 1).f1) ((rd_T47 y150 0).f0.f0) ((rd_T47 y150 0).f0.f1) ((rd_T47 y150 0).f1.f0) ((rd_T47 y150 0).f1.f1) ((rd_T47 y150 0).f2)).bind fun t162 => (some t162)) else (none)) else (some false)) = some r := H
 have A11 := Aside0.mk A110
 clear A110
 by_cases c12 : t158 = 900
 rotate_left
 ·rw [if_neg c12] at H
  have c12b0 : (t158 == 900) = false := beq_eq_false_iff_ne.mpr c12
  have c12b1 : (t158 != 900) = true := bne_iff_ne.mpr c12
  exact absurd (H.trans (congrArg some HRT.out)) (by simp)
 rw [if_pos c12] at H
 have c12b0 : (t158 == 900) = true := beq_iff_eq.mpr c12
 have c12b1 : (t158 != 900) = false := bne_eq_false_iff_eq.mpr c12
 clear c12
 by_cases c13 : 0 < (y150.length : Int)
 rotate_left
 ·rw [if_neg c13] at H
  exact absurd H (by simp)
 rw [if_pos c13] at H
 have c13b0 : decide (0 < (y150.length : Int)) = true := decide_eq_true c13
 have c13b1 : decide (0 < y150.length) = true := decide_eq_true (by omega)
 clear c13
 replace H := Option.bind_eq_some_iff.mp H
 obtain ⟨t162, A140, H⟩ := H
 replace H : (some t162) = some r := H
 have A14 := Aside0.mk A140
 clear A140
 obtain rfl := Option.some.inj H
 go_enter Try.func11, Try.ntmps11
 try go_wp2_with (first | ((with_reducible refine gate_dst (N := 8) rfl ?_); refine Kd.R_lit k28 _ 28 ?hg (N := 8) ?hd (xs := ([(⟨0, 50⟩ : S28), (⟨30, 50⟩ : S28)] : List (S28))) (inner := [.int .i64 0, .int .i64 50, .int .i64 30, .int .i64 50]) (ok := fun _ => True) (okp := fun _ => True) ?hr ?hp (fun _ hk => hk) trivial (Below.refl _ _) (Nat.le_refl _) (by simp) ?_; (case hd => rfl); (case hg => rfl); (case hr => first | (go_simp; done) | (go_simp; rfl)); (case hp => exact (Reps.c2 (show Kd.M k28 _ _ _ (⟨0, 50⟩ : S28) [.int .i64 0, .int .i64 50] from (k28_mkM _ _ _ (⟨0, 50⟩ : S28) )) (Reps.c2 (show Kd.M k28 _ _ _ (⟨30, 50⟩ : S28) [.int .i64 30, .int .i64 50] from (k28_mkM _ _ _ (⟨30, 50⟩ : S28) )) (Reps.none _ _)))); intro v142 w15 ho16 hb hg_ hnew_; clear hg_ hnew_; (first | rw [← Ny141.out] at ho16 | (simp only [Int.reduceToNat] at ho16; rw [← Ny141.out] at ho16)); have n0_ := Aside0.mk (Kd.R_lower ho16 (below_size (by repeat (first | (with_reducible first | exact HB.out | apply blA | apply blN | apply blD) | exact HB.out)))); have n1_ := Aside0.mk (below_step (by repeat (first | (with_reducible first | exact HB.out | apply blA | apply blN | apply blD) | exact HB.out)) hb); clear HB; have HO143 := n0_; have HB := n1_; clear n0_ n1_; clear hb ho16) | ((with_reducible refine gate_dst (N := 9) rfl ?_); refine Kd.R_lit (Kd.int .i64) _ 3 ?hg (N := 9) ?hd (xs := ([90000, 90000] : List Int)) (inner := [.int .i64 90000, .int .i64 90000]) (ok := fun _ => True) (okp := fun _ => True) ?hr ?hp (fun _ hk => hk) trivial (Below.refl _ _) (Nat.le_refl _) (by simp) ?_; (case hd => rfl); (case hg => rfl); (case hr => first | (go_simp; done) | (go_simp; rfl)); (case hp => exact (Reps.one (show Kd.M (Kd.int .i64) _ _ _ 90000 [.int .i64 90000] from rfl) (Reps.one (show Kd.M (Kd.int .i64) _ _ _ 90000 [.int .i64 90000] from rfl) (Reps.none _ _)))); intro v145 w17 ho18 hb hg_ hnew_; clear hg_ hnew_; (first | rw [← Ny144.out] at ho18 | (simp only [Int.reduceToNat] at ho18; rw [← Ny144.out] at ho18)); have n0_ := Aside0.mk (Kd.R_below (by (with_reducible repeat (first | apply Kd.R_alloc | apply Kd.R_drewN | apply Kd.R_drew)); exact HO143.out) hb); have n1_ := Aside0.mk (Kd.R_lower ho18 (below_size (by repeat (first | (with_reducible first | exact HB.out | apply blA | apply blN | apply blD) | exact HB.out)))); have n2_ := Aside0.mk (below_step (by repeat (first | (with_reducible first | exact HB.out | apply blA | apply blN | apply blD) | exact HB.out)) hb); clear HO143; clear HB; have HO143 := n0_; have HO146 := n1_; have HB := n2_; clear n0_ n1_ n2_; clear hb ho18; obtain ⟨Ao19, co19, eo19⟩ := Kd.R_slice HO146.out; subst eo19; obtain ⟨Ao20, co20, eo20⟩ := Kd.R_slice HO143.out; subst eo20) | ((with_reducible refine gate_dst (N := 1) rfl ?_); refine box_event ?hg (N := 1) ?hd (cs := #[.slice none 0 0, .slice none 0 0, .slice none 0 0, .int .i64 0, .int .i64 0, .int .i64 0]) (t := 26) ?hr ?_; (case hd => rfl); (case hg => rfl); (case hr => first | (go_simp; done) | (go_simp; rfl)); intro gb147 hg w21 hbox hb; have n0_ := Aside0.mk (Kd.R_below (by (with_reducible repeat (first | apply Kd.R_alloc | apply Kd.R_drewN | apply Kd.R_drew)); exact HO143.out) hb); have n1_ := Aside0.mk (Kd.R_below (by (with_reducible repeat (first | apply Kd.R_alloc | apply Kd.R_drewN | apply Kd.R_drew)); exact HO146.out) hb); have n2_ := Aside0.mk (below_step (by repeat (first | (with_reducible first | exact HB.out | apply blA | apply blN | apply blD) | exact HB.out)) hb); have n3_ := Aside0.mk (hbox); have n4_ := Aside0.mk ((by rw [hg]; exact (below_size (by repeat (first | (with_reducible first | exact HB.out | apply blA | apply blN | apply blD) | exact HB.out))) : w.heap.size ≤ gb147)); have n5_ := Aside0.mk ((by rw [hg]; exact (below_size (by repeat (first | (with_reducible first | exact HB.out | apply blA | apply blN | apply blD) | exact HB.out))) : w.heap.size ≤ gb147)); clear HO143; clear HO146; clear HB; have HO143 := n0_; have HO146 := n1_; have HB := n2_; have BK147 := n3_; have GW147 := n4_; have GE147 := n5_; clear n0_ n1_ n2_ n3_ n4_ n5_; clear hb hbox hg; have hcz22_0 : w21.cell? ⟨gb147, 0, none⟩ = some (.slice none 0 0) := (bkC BK147.out 0).trans rfl; have hcz22_1 : w21.cell? ⟨gb147, 1, none⟩ = some (.slice none 0 0) := (bkC BK147.out 1).trans rfl; have hcz22_2 : w21.cell? ⟨gb147, 2, none⟩ = some (.slice none 0 0) := (bkC BK147.out 2).trans rfl; have hcz22_3 : w21.cell? ⟨gb147, 3, none⟩ = some (.int .i64 0) := (bkC BK147.out 3).trans rfl; have hcz22_4 : w21.cell? ⟨gb147, 4, none⟩ = some (.int .i64 0) := (bkC BK147.out 4).trans rfl; have hcz22_5 : w21.cell? ⟨gb147, 5, none⟩ = some (.int .i64 0) := (bkC BK147.out 5).trans rfl; have hfz22_0 := bkF BK147.out 0; have hfz22_1 := bkF BK147.out 1; have hfz22_2 := bkF BK147.out 2; have hfz22_3 := bkF BK147.out 3; have hfz22_4 := bkF BK147.out 4; have hfz22_5 := bkF BK147.out 5) | ((with_reducible refine gate_callee (f := 22) rfl ?_); refine goesL_ (some 13) rfl rfl Try.func22 (by kernel_rfl) rfl #[.agg #[.slice Ao20 y141.length co20, .slice Ao19 y144.length co19, .slice none 0 0, .int .i64 2, .int .i64 1, .int .i64 1000], .int .i64 0, .int .i64 1] rfl (by (try simp only [List.map_toArray, List.map_cons, List.map_nil]); first | done | rfl | (simp only [List.length_drop, List.length_take]; rfl)) ?_; (refine (geometry_Between.calls _ _ y141 _ _ y144 _ _ ([] : List (S47)) 2 1 1000 0 1 t148 t149 _ ?side1 ?side2 ?side3 ?side4 ?side5 ?side6 A1.out).mono ?_); (case side1 => refine (Kd.R_reads' (e := 28) (base := w.heap.size) (ok := fun k_ => True) (n := y141.length) (c := co20) ?_).2.2; exact (by (with_reducible repeat (first | apply Kd.R_alloc | apply Kd.R_drewN | apply Kd.R_drew)); exact (Kd.R_mono (Kd.R_far (p := ⟨gb147, 5, none⟩) (Kd.R_far (p := ⟨gb147, 4, none⟩) (Kd.R_far (p := ⟨gb147, 3, none⟩) (Kd.R_far (p := ⟨gb147, 2, none⟩) (Kd.R_far (p := ⟨gb147, 1, none⟩) (Kd.R_far (p := ⟨gb147, 0, none⟩) (Kd.R_types HO143.out BK147.out (by decide)) (fun _ hk => hk.2) (.slice Ao20 y141.length co20)) (fun _ hk => hk.2) (.slice Ao19 y144.length co19)) (fun _ hk => hk.2) (.slice none 0 0)) (fun _ hk => hk.2) (.int .i64 2)) (fun _ hk => hk.2) (.int .i64 1)) (fun _ hk => hk.2) (.int .i64 1000)) (fun _ h_ => h_.1)))); (case side2 => exact (Kd.R_reads' HO143.out).2.1); (case side3 => refine (Kd.R_reads' (e := 3) (base := w.heap.size) (ok := fun k_ => True) (n := y144.length) (c := co19) ?_).2.2; exact (by (with_reducible repeat (first | apply Kd.R_alloc | apply Kd.R_drewN | apply Kd.R_drew)); exact (Kd.R_mono (Kd.R_far (p := ⟨gb147, 5, none⟩) (Kd.R_far (p := ⟨gb147, 4, none⟩) (Kd.R_far (p := ⟨gb147, 3, none⟩) (Kd.R_far (p := ⟨gb147, 2, none⟩) (Kd.R_far (p := ⟨gb147, 1, none⟩) (Kd.R_far (p := ⟨gb147, 0, none⟩) (Kd.R_types HO146.out BK147.out (by decide)) (fun _ hk => hk.2) (.slice Ao20 y141.length co20)) (fun _ hk => hk.2) (.slice Ao19 y144.length co19)) (fun _ hk => hk.2) (.slice none 0 0)) (fun _ hk => hk.2) (.int .i64 2)) (fun _ hk => hk.2) (.int .i64 1)) (fun _ hk => hk.2) (.int .i64 1000)) (fun _ h_ => h_.1)))); (case side4 => exact (Kd.R_reads' HO146.out).2.1); (case side5 => exact Kd.C_nil _ _); (case side6 => exact Nat.le_refl _); rintro e w23 ⟨rfl, hb⟩; refine ⟨_, rfl, ?_⟩; have n0_ := Aside0.mk (Kd.R_below (by (with_reducible repeat (first | apply Kd.R_alloc | apply Kd.R_drewN | apply Kd.R_drew)); exact (Kd.R_mono (Kd.R_far (p := ⟨gb147, 5, none⟩) (Kd.R_far (p := ⟨gb147, 4, none⟩) (Kd.R_far (p := ⟨gb147, 3, none⟩) (Kd.R_far (p := ⟨gb147, 2, none⟩) (Kd.R_far (p := ⟨gb147, 1, none⟩) (Kd.R_far (p := ⟨gb147, 0, none⟩) (Kd.R_types HO143.out BK147.out (by decide)) (fun _ hk => hk.2) (.slice Ao20 y141.length co20)) (fun _ hk => hk.2) (.slice Ao19 y144.length co19)) (fun _ hk => hk.2) (.slice none 0 0)) (fun _ hk => hk.2) (.int .i64 2)) (fun _ hk => hk.2) (.int .i64 1)) (fun _ hk => hk.2) (.int .i64 1000)) (fun _ h_ => h_.1))) hb); have n1_ := Aside0.mk (Kd.R_below (by (with_reducible repeat (first | apply Kd.R_alloc | apply Kd.R_drewN | apply Kd.R_drew)); exact (Kd.R_mono (Kd.R_far (p := ⟨gb147, 5, none⟩) (Kd.R_far (p := ⟨gb147, 4, none⟩) (Kd.R_far (p := ⟨gb147, 3, none⟩) (Kd.R_far (p := ⟨gb147, 2, none⟩) (Kd.R_far (p := ⟨gb147, 1, none⟩) (Kd.R_far (p := ⟨gb147, 0, none⟩) (Kd.R_types HO146.out BK147.out (by decide)) (fun _ hk => hk.2) (.slice Ao20 y141.length co20)) (fun _ hk => hk.2) (.slice Ao19 y144.length co19)) (fun _ hk => hk.2) (.slice none 0 0)) (fun _ hk => hk.2) (.int .i64 2)) (fun _ hk => hk.2) (.int .i64 1)) (fun _ hk => hk.2) (.int .i64 1000)) (fun _ h_ => h_.1))) hb); have n2_ := Aside0.mk (bkB (g := gb147) (o := .cells #[.slice Ao20 y141.length co20, .slice Ao19 y144.length co19, .slice none 0 0, .int .i64 2, .int .i64 1, .int .i64 1000] 26 (0, 0)) (by (with_reducible repeat (first | refine bkN ?_ _ | refine bkD ?_ | refine bkA ?_ _)); refine blk_put (cs := #[.slice Ao20 y141.length co20, .slice Ao19 y144.length co19, .slice none 0 0, .int .i64 2, .int .i64 1, .int .i64 0]) ?_ 5 _ rfl; (with_reducible repeat (first | refine bkN ?_ _ | refine bkD ?_ | refine bkA ?_ _)); refine blk_put (cs := #[.slice Ao20 y141.length co20, .slice Ao19 y144.length co19, .slice none 0 0, .int .i64 2, .int .i64 0, .int .i64 0]) ?_ 4 _ rfl; (with_reducible repeat (first | refine bkN ?_ _ | refine bkD ?_ | refine bkA ?_ _)); refine blk_put (cs := #[.slice Ao20 y141.length co20, .slice Ao19 y144.length co19, .slice none 0 0, .int .i64 0, .int .i64 0, .int .i64 0]) ?_ 3 _ rfl; (with_reducible repeat (first | refine bkN ?_ _ | refine bkD ?_ | refine bkA ?_ _)); refine blk_put (cs := #[.slice Ao20 y141.length co20, .slice Ao19 y144.length co19, .slice none 0 0, .int .i64 0, .int .i64 0, .int .i64 0]) ?_ 2 _ rfl; (with_reducible repeat (first | refine bkN ?_ _ | refine bkD ?_ | refine bkA ?_ _)); refine blk_put (cs := #[.slice Ao20 y141.length co20, .slice none 0 0, .slice none 0 0, .int .i64 0, .int .i64 0, .int .i64 0]) ?_ 1 _ rfl; (with_reducible repeat (first | refine bkN ?_ _ | refine bkD ?_ | refine bkA ?_ _)); refine blk_put (cs := #[.slice none 0 0, .slice none 0 0, .slice none 0 0, .int .i64 0, .int .i64 0, .int .i64 0]) ?_ 0 _ rfl; (with_reducible repeat (first | refine bkN ?_ _ | refine bkD ?_ | refine bkA ?_ _)); exact BK147.out) hb); have n3_ := Aside0.mk (below_step (by repeat (first | (with_reducible first | exact HB.out | apply blA | apply blN | apply blD | refine blS ?_ GE147.out) | exact HB.out)) hb); clear HO143; clear HO146; clear BK147; clear HB; have HO143 := n0_; have HO146 := n1_; have BK147 := n2_; have HB := n3_; clear n0_ n1_ n2_ n3_; (try clear hb); (try clear hb2); (try clear hk); (try clear hi); have hcz24_0 : w23.cell? ⟨gb147, 0, none⟩ = some (.slice Ao20 y141.length co20) := (bkC BK147.out 0).trans rfl; have hcz24_1 : w23.cell? ⟨gb147, 1, none⟩ = some (.slice Ao19 y144.length co19) := (bkC BK147.out 1).trans rfl; have hcz24_2 : w23.cell? ⟨gb147, 2, none⟩ = some (.slice none 0 0) := (bkC BK147.out 2).trans rfl; have hcz24_3 : w23.cell? ⟨gb147, 3, none⟩ = some (.int .i64 2) := (bkC BK147.out 3).trans rfl; have hcz24_4 : w23.cell? ⟨gb147, 4, none⟩ = some (.int .i64 1) := (bkC BK147.out 4).trans rfl; have hcz24_5 : w23.cell? ⟨gb147, 5, none⟩ = some (.int .i64 1000) := (bkC BK147.out 5).trans rfl; have hfz24_0 := bkF BK147.out 0; have hfz24_1 := bkF BK147.out 1; have hfz24_2 := bkF BK147.out 2; have hfz24_3 := bkF BK147.out 3; have hfz24_4 := bkF BK147.out 4; have hfz24_5 := bkF BK147.out 5) | ((with_reducible refine gate_dst (N := 20) rfl ?_); refine Kd.R_lit k47 _ 47 ?hg (N := 20) ?hd (xs := ([(⟨(⟨20, 40⟩ : S28), (⟨20, 60⟩ : S28), 250⟩ : S47)] : List (S47))) (inner := [.int .i64 20, .int .i64 40, .int .i64 20, .int .i64 60, .int .i64 250]) (ok := fun _ => True) (okp := fun _ => True) ?hr ?hp (fun _ hk => hk) trivial (Below.refl _ _) (Nat.le_refl _) (by simp) ?_; (case hd => rfl); (case hg => rfl); (case hr => first | (go_simp; done) | (go_simp; rfl)); (case hp => exact (Reps.c5 (show Kd.M k47 _ _ _ (⟨(⟨20, 40⟩ : S28), (⟨20, 60⟩ : S28), 250⟩ : S47) [.int .i64 20, .int .i64 40, .int .i64 20, .int .i64 60, .int .i64 250] from (k47_mkM _ _ _ (⟨(⟨20, 40⟩ : S28), (⟨20, 60⟩ : S28), 250⟩ : S47) )) (Reps.none _ _))); intro v151 w25 ho26 hb hg_ hnew_; clear hg_ hnew_; (first | rw [← Ny150.out] at ho26 | (simp only [Int.reduceToNat] at ho26; rw [← Ny150.out] at ho26)); have n0_ := Aside0.mk (Kd.R_below (by (with_reducible repeat (first | apply Kd.R_alloc | apply Kd.R_drewN | apply Kd.R_drew)); exact (Kd.R_mono (Kd.R_far (p := ⟨gb147, 3, none⟩) (Kd.R_types HO143.out BK147.out (by decide)) (fun _ hk => hk.2) (.int .i64 4)) (fun _ h_ => h_.1))) hb); have n1_ := Aside0.mk (Kd.R_below (by (with_reducible repeat (first | apply Kd.R_alloc | apply Kd.R_drewN | apply Kd.R_drew)); exact (Kd.R_mono (Kd.R_far (p := ⟨gb147, 3, none⟩) (Kd.R_types HO146.out BK147.out (by decide)) (fun _ hk => hk.2) (.int .i64 4)) (fun _ h_ => h_.1))) hb); have n2_ := Aside0.mk (Kd.R_lower ho26 (below_size (by repeat (first | (with_reducible first | exact HB.out | apply blA | apply blN | apply blD | refine blS ?_ GE147.out) | exact HB.out)))); have n3_ := Aside0.mk (bkB (g := gb147) (o := .cells #[.slice Ao20 y141.length co20, .slice Ao19 y144.length co19, .slice none 0 0, .int .i64 4, .int .i64 1, .int .i64 1000] 26 (0, 0)) (by (with_reducible repeat (first | refine bkN ?_ _ | refine bkD ?_ | refine bkA ?_ _)); refine blk_put (cs := #[.slice Ao20 y141.length co20, .slice Ao19 y144.length co19, .slice none 0 0, .int .i64 2, .int .i64 1, .int .i64 1000]) ?_ 3 _ rfl; (with_reducible repeat (first | refine bkN ?_ _ | refine bkD ?_ | refine bkA ?_ _)); exact BK147.out) hb); have n4_ := Aside0.mk (below_step (by repeat (first | (with_reducible first | exact HB.out | apply blA | apply blN | apply blD | refine blS ?_ GE147.out) | exact HB.out)) hb); clear HO143; clear HO146; clear BK147; clear HB; have HO143 := n0_; have HO146 := n1_; have HO152 := n2_; have BK147 := n3_; have HB := n4_; clear n0_ n1_ n2_ n3_ n4_; clear hb ho26; obtain ⟨Ao27, co27, eo27⟩ := Kd.R_slice HO152.out; subst eo27; have hcz28_0 : w25.cell? ⟨gb147, 0, none⟩ = some (.slice Ao20 y141.length co20) := (bkC BK147.out 0).trans rfl; have hcz28_1 : w25.cell? ⟨gb147, 1, none⟩ = some (.slice Ao19 y144.length co19) := (bkC BK147.out 1).trans rfl; have hcz28_2 : w25.cell? ⟨gb147, 2, none⟩ = some (.slice none 0 0) := (bkC BK147.out 2).trans rfl; have hcz28_3 : w25.cell? ⟨gb147, 3, none⟩ = some (.int .i64 4) := (bkC BK147.out 3).trans rfl; have hcz28_4 : w25.cell? ⟨gb147, 4, none⟩ = some (.int .i64 1) := (bkC BK147.out 4).trans rfl; have hcz28_5 : w25.cell? ⟨gb147, 5, none⟩ = some (.int .i64 1000) := (bkC BK147.out 5).trans rfl; have hfz28_0 := bkF BK147.out 0; have hfz28_1 := bkF BK147.out 1; have hfz28_2 := bkF BK147.out 2; have hfz28_3 := bkF BK147.out 3; have hfz28_4 := bkF BK147.out 4; have hfz28_5 := bkF BK147.out 5) | ((with_reducible refine gate_callee (f := 22) rfl ?_); refine goesL_ (some 24) rfl rfl Try.func22 (by kernel_rfl) rfl #[.agg #[.slice Ao20 y141.length co20, .slice Ao19 y144.length co19, .slice Ao27 y150.length co27, .int .i64 4, .int .i64 1, .int .i64 1000], .int .i64 0, .int .i64 1] rfl (by (try simp only [List.map_toArray, List.map_cons, List.map_nil]); first | done | rfl | (simp only [List.length_drop, List.length_take]; rfl)) ?_; (with_reducible refine (geometry_Between.calls _ _ y141 _ _ y144 _ _ y150 4 1 1000 0 1 t153 t154 _ ?side1 ?side2 ?side3 ?side4 ?side5 ?side6 A2.out).mono ?_); (case side1 => refine (Kd.R_reads' (e := 28) (base := w.heap.size) (ok := fun k_ => True) (n := y141.length) (c := co20) ?_).2.2; exact (by (with_reducible repeat (first | apply Kd.R_alloc | apply Kd.R_drewN | apply Kd.R_drew)); exact (Kd.R_mono (Kd.R_far (p := ⟨gb147, 2, none⟩) (Kd.R_types HO143.out BK147.out (by decide)) (fun _ hk => hk.2) (.slice Ao27 y150.length co27)) (fun _ h_ => h_.1)))); (case side2 => exact (Kd.R_reads' HO143.out).2.1); (case side3 => refine (Kd.R_reads' (e := 3) (base := w.heap.size) (ok := fun k_ => True) (n := y144.length) (c := co19) ?_).2.2; exact (by (with_reducible repeat (first | apply Kd.R_alloc | apply Kd.R_drewN | apply Kd.R_drew)); exact (Kd.R_mono (Kd.R_far (p := ⟨gb147, 2, none⟩) (Kd.R_types HO146.out BK147.out (by decide)) (fun _ hk => hk.2) (.slice Ao27 y150.length co27)) (fun _ h_ => h_.1)))); (case side4 => exact (Kd.R_reads' HO146.out).2.1); (case side5 => refine (Kd.R_reads' (e := 47) (base := w.heap.size) (ok := fun k_ => True) (n := y150.length) (c := co27) ?_).2.2; exact (by (with_reducible repeat (first | apply Kd.R_alloc | apply Kd.R_drewN | apply Kd.R_drew)); exact (Kd.R_mono (Kd.R_far (p := ⟨gb147, 2, none⟩) (Kd.R_types HO152.out BK147.out (by decide)) (fun _ hk => hk.2) (.slice Ao27 y150.length co27)) (fun _ h_ => h_.1)))); (case side6 => exact (Kd.R_reads' HO152.out).2.1); rintro e w29 ⟨rfl, hb⟩; refine ⟨_, rfl, ?_⟩; have n0_ := Aside0.mk (Kd.R_below (by (with_reducible repeat (first | apply Kd.R_alloc | apply Kd.R_drewN | apply Kd.R_drew)); exact (Kd.R_mono (Kd.R_far (p := ⟨gb147, 2, none⟩) (Kd.R_types HO143.out BK147.out (by decide)) (fun _ hk => hk.2) (.slice Ao27 y150.length co27)) (fun _ h_ => h_.1))) hb); have n1_ := Aside0.mk (Kd.R_below (by (with_reducible repeat (first | apply Kd.R_alloc | apply Kd.R_drewN | apply Kd.R_drew)); exact (Kd.R_mono (Kd.R_far (p := ⟨gb147, 2, none⟩) (Kd.R_types HO146.out BK147.out (by decide)) (fun _ hk => hk.2) (.slice Ao27 y150.length co27)) (fun _ h_ => h_.1))) hb); have n2_ := Aside0.mk (Kd.R_below (by (with_reducible repeat (first | apply Kd.R_alloc | apply Kd.R_drewN | apply Kd.R_drew)); exact (Kd.R_mono (Kd.R_far (p := ⟨gb147, 2, none⟩) (Kd.R_types HO152.out BK147.out (by decide)) (fun _ hk => hk.2) (.slice Ao27 y150.length co27)) (fun _ h_ => h_.1))) hb); have n3_ := Aside0.mk (bkB (g := gb147) (o := .cells #[.slice Ao20 y141.length co20, .slice Ao19 y144.length co19, .slice Ao27 y150.length co27, .int .i64 4, .int .i64 1, .int .i64 1000] 26 (0, 0)) (by (with_reducible repeat (first | refine bkN ?_ _ | refine bkD ?_ | refine bkA ?_ _)); refine blk_put (cs := #[.slice Ao20 y141.length co20, .slice Ao19 y144.length co19, .slice none 0 0, .int .i64 4, .int .i64 1, .int .i64 1000]) ?_ 2 _ rfl; (with_reducible repeat (first | refine bkN ?_ _ | refine bkD ?_ | refine bkA ?_ _)); exact BK147.out) hb); have n4_ := Aside0.mk (below_step (by repeat (first | (with_reducible first | exact HB.out | apply blA | apply blN | apply blD | refine blS ?_ GE147.out) | exact HB.out)) hb); clear HO143; clear HO146; clear HO152; clear BK147; clear HB; have HO143 := n0_; have HO146 := n1_; have HO152 := n2_; have BK147 := n3_; have HB := n4_; clear n0_ n1_ n2_ n3_ n4_; (try clear hb); (try clear hb2); (try clear hk); (try clear hi)))
 have n0_ := Aside0.mk (Kd.R_drew HO143.out)
 have n1_ := Aside0.mk (Kd.R_drew HO146.out)
 have n2_ := Aside0.mk (Kd.R_drew HO152.out)
 have n3_ := Aside0.mk (bkD BK147.out)
 have n4_ := Aside0.mk (blD HB.out)
 clear HO143
 clear HO146
 clear HO152
 clear BK147
 clear HB
 have HO143 := n0_
 have HO146 := n1_
 have HO152 := n2_
 have BK147 := n3_
 have HB := n4_
 clear n0_ n1_ n2_ n3_ n4_
 have p156 : 0 ≤ (0 : Int) := (by omega)
 have q156 : 0 < (y141.length : Int) := of_decide_eq_true (by first | (with_reducible assumption) | assumption)
 obtain ⟨ad156, e156, hx156_0, hx156_1⟩ := at_T28 (Kd.R_reads' HO143.out).2.2 0 p156 q156
 cases e156
 have qi156 : (0 < y141.length) = True := eq_true (by omega)
 (try rw [show ((0 : Int)).toNat = 0 from rfl] at hx156_0)
 (try rw [show 0 * 2 = 0 from rfl] at hx156_0)
 (try rw [Addr.add_zero'] at hx156_0)
 (try rw [show ((0 : Int)).toNat = 0 from rfl] at hx156_1)
 (try rw [show 0 * 2 = 0 from rfl] at hx156_1)
 (try rw [Addr.add_zero'] at hx156_1)
 replace p156 := eq_true p156
 replace q156 := eq_true q156
 have p157 : 0 ≤ (1 : Int) := (by omega)
 have q157 : 1 < (y141.length : Int) := of_decide_eq_true (by first | (with_reducible assumption) | assumption)
 obtain ⟨ad157, e157, hx157_0, hx157_1⟩ := at_T28 (Kd.R_reads' HO143.out).2.2 1 p157 q157
 obtain rfl : ad156 = ad157 := (by injection e157)
 (try simp only [show (1 : Int).toNat = 1 from rfl, Nat.reduceMul, Nat.reduceEqDiff, Go.Addr.add, ↓reduceIte] at hx157_0)
 (try simp only [show (1 : Int).toNat = 1 from rfl, Nat.reduceMul, Nat.reduceEqDiff, Go.Addr.add, ↓reduceIte] at hx157_1)
 have qi157 : (1 < y141.length) = True := eq_true (by omega)
 (try rw [show ((1 : Int)).toNat = 1 from rfl] at hx157_0)
 (try rw [show 1 * 2 = 2 from rfl] at hx157_0)
 (try rw [show ((1 : Int)).toNat = 1 from rfl] at hx157_1)
 (try rw [show 1 * 2 = 2 from rfl] at hx157_1)
 replace p157 := eq_true p157
 replace q157 := eq_true q157
 have p159 : 0 ≤ (0 : Int) := (by omega)
 have q159 : 0 < (y141.length : Int) := of_decide_eq_true (by first | (with_reducible assumption) | assumption)
 obtain ⟨ad159, e159, hx159_0, hx159_1⟩ := at_T28 (Kd.R_reads' HO143.out).2.2 0 p159 q159
 obtain rfl : ad156 = ad159 := (by injection e159)
 have qi159 : (0 < y141.length) = True := eq_true (by omega)
 (try rw [show ((0 : Int)).toNat = 0 from rfl] at hx159_0)
 (try rw [show 0 * 2 = 0 from rfl] at hx159_0)
 (try rw [Addr.add_zero'] at hx159_0)
 (try rw [show ((0 : Int)).toNat = 0 from rfl] at hx159_1)
 (try rw [show 0 * 2 = 0 from rfl] at hx159_1)
 (try rw [Addr.add_zero'] at hx159_1)
 replace p159 := eq_true p159
 replace q159 := eq_true q159
 have p160 : 0 ≤ (1 : Int) := (by omega)
 have q160 : 1 < (y141.length : Int) := of_decide_eq_true (by first | (with_reducible assumption) | assumption)
 obtain ⟨ad160, e160, hx160_0, hx160_1⟩ := at_T28 (Kd.R_reads' HO143.out).2.2 1 p160 q160
 obtain rfl : ad156 = ad160 := (by injection e160)
 (try simp only [show (1 : Int).toNat = 1 from rfl, Nat.reduceMul, Nat.reduceEqDiff, Go.Addr.add, ↓reduceIte] at hx160_0)
 (try simp only [show (1 : Int).toNat = 1 from rfl, Nat.reduceMul, Nat.reduceEqDiff, Go.Addr.add, ↓reduceIte] at hx160_1)
 have qi160 : (1 < y141.length) = True := eq_true (by omega)
 (try rw [show ((1 : Int)).toNat = 1 from rfl] at hx160_0)
 (try rw [show 1 * 2 = 2 from rfl] at hx160_0)
 (try rw [show ((1 : Int)).toNat = 1 from rfl] at hx160_1)
 (try rw [show 1 * 2 = 2 from rfl] at hx160_1)
 replace p160 := eq_true p160
 replace q160 := eq_true q160
 have p161 : 0 ≤ (0 : Int) := (by omega)
 have q161 : 0 < (y150.length : Int) := of_decide_eq_true (by first | (with_reducible assumption) | assumption)
 obtain ⟨ad161, e161, hx161_0, hx161_1, hx161_2, hx161_3, hx161_4⟩ := at_T47 (Kd.R_reads' HO152.out).2.2 0 p161 q161
 cases e161
 have qi161 : (0 < y150.length) = True := eq_true (by omega)
 (try rw [show ((0 : Int)).toNat = 0 from rfl] at hx161_0)
 (try rw [show 0 * 5 = 0 from rfl] at hx161_0)
 (try rw [Addr.add_zero'] at hx161_0)
 (try rw [show ((0 : Int)).toNat = 0 from rfl] at hx161_1)
 (try rw [show 0 * 5 = 0 from rfl] at hx161_1)
 (try rw [Addr.add_zero'] at hx161_1)
 (try rw [show ((0 : Int)).toNat = 0 from rfl] at hx161_2)
 (try rw [show 0 * 5 = 0 from rfl] at hx161_2)
 (try rw [Addr.add_zero'] at hx161_2)
 (try rw [show ((0 : Int)).toNat = 0 from rfl] at hx161_3)
 (try rw [show 0 * 5 = 0 from rfl] at hx161_3)
 (try rw [Addr.add_zero'] at hx161_3)
 (try rw [show ((0 : Int)).toNat = 0 from rfl] at hx161_4)
 (try rw [show 0 * 5 = 0 from rfl] at hx161_4)
 (try rw [Addr.add_zero'] at hx161_4)
 replace p161 := eq_true p161
 replace q161 := eq_true q161
 refine start_ (n := 47) (S := fun w' => w'.cell? ⟨gb147, 0, none⟩ = some (.slice (some ad156) y141.length co20) ∧ w'.cell? ⟨gb147, 1, none⟩ = some (.slice Ao19 y144.length co19) ∧ w'.cell? ⟨gb147, 2, none⟩ = some (.slice (some ad161) y150.length co27) ∧ w'.cell? ⟨gb147, 3, none⟩ = some (.int .i64 4) ∧ w'.cell? ⟨gb147, 4, none⟩ = some (.int .i64 1) ∧ w'.cell? ⟨gb147, 5, none⟩ = some (.int .i64 1000) ∧ w'.cell? ad156 = some (.int .i64 ((rd_T28 y141 0).f0)) ∧ w'.cell? ⟨ad156.block, ad156.off + 1, none⟩ = some (.int .i64 ((rd_T28 y141 0).f1)) ∧ w'.cell? ⟨ad156.block, ad156.off + 2, none⟩ = some (.int .i64 ((rd_T28 y141 1).f0)) ∧ w'.cell? ⟨ad156.block, ad156.off + 2 + 1, none⟩ = some (.int .i64 ((rd_T28 y141 1).f1)) ∧ w'.cell? ad156 = some (.int .i64 ((rd_T28 y141 0).f0)) ∧ w'.cell? ⟨ad156.block, ad156.off + 1, none⟩ = some (.int .i64 ((rd_T28 y141 0).f1)) ∧ w'.cell? ⟨ad156.block, ad156.off + 2, none⟩ = some (.int .i64 ((rd_T28 y141 1).f0)) ∧ w'.cell? ⟨ad156.block, ad156.off + 2 + 1, none⟩ = some (.int .i64 ((rd_T28 y141 1).f1)) ∧ w'.cell? ad161 = some (.int .i64 ((rd_T47 y150 0).f0.f0)) ∧ w'.cell? ⟨ad161.block, ad161.off + 1, none⟩ = some (.int .i64 ((rd_T47 y150 0).f0.f1)) ∧ w'.cell? ⟨ad161.block, ad161.off + 2, none⟩ = some (.int .i64 ((rd_T47 y150 0).f1.f0)) ∧ w'.cell? ⟨ad161.block, ad161.off + 3, none⟩ = some (.int .i64 ((rd_T47 y150 0).f1.f1)) ∧ w'.cell? ⟨ad161.block, ad161.off + 4, none⟩ = some (.int .i64 ((rd_T47 y150 0).f2))) (ds := []) #[false, false, false, false, false, false, false, false, false, false, false, false, false, false, false, false, false, false, false, false, false, false, false, false, false, false, false, false, false, false, false, false, false, false, false, false, false, false, false, false, false, false, false, false, false, false, false] (by kernel_rfl) rfl rfl ⟨(bkC BK147.out 0).trans rfl, (bkC BK147.out 1).trans rfl, (bkC BK147.out 2).trans rfl, (bkC BK147.out 3).trans rfl, (bkC BK147.out 4).trans rfl, (bkC BK147.out 5).trans rfl, hx156_0, hx156_1, hx157_0, hx157_1, hx159_0, hx159_1, hx160_0, hx160_1, hx161_0, hx161_1, hx161_2, hx161_3, hx161_4⟩ (fun hHeld => ?_); refine with_tabW hopmeshlaw05_awake0.tab6 hopmeshlaw05_awake0.bits6 (fun HT_ HW_ => ?_)
 generalize w29.drew = w30 at HO143 HO146 HO152 BK147 HB hx156_0 hx156_1 hx157_0 hx157_1 hx159_0 hx159_1 hx160_0 hx160_1 hx161_0 hx161_1 hx161_2 hx161_3 hx161_4 hHeld ⊢
 refine pure_ (i := 0) (N := some 27) (v := ?_) (a' := ?_) #[true, false, false, false, false, false, false, false, false, false, false, false, false, false, false, false, false, false, false, false, false, false, false, false, false, false, false, false, false, false, false, false, false, false, false, false, false, false, false, false, false, false, false, false, false, false, false] rfl rfl (any_of HT_.out (by kernel_rfl)) (fun _ _ _ h => h) (Or.inl ⟨by rfl, ?_⟩) ?_ ?_
 rotate_left
 ·intro w'
  go_simp
  with_reducible rfl
 rotate_left
 ·simp only [Act.put, List.setIfInBounds_toArray, List.set_cons_zero, List.set_cons_succ, i64_w, i32_w]
  rfl
 refine pure_ (i := 1) (N := some 28) (v := ?_) (a' := ?_) #[true, true, false, false, false, false, false, false, false, false, false, false, false, false, false, false, false, false, false, false, false, false, false, false, false, false, false, false, false, false, false, false, false, false, false, false, false, false, false, false, false, false, false, false, false, false, false] rfl rfl (any_of HT_.out (by kernel_rfl)) (fun _ _ _ h => h) (Or.inl ⟨by rfl, ?_⟩) ?_ ?_
 rotate_left
 ·intro w'
  go_simp
  with_reducible rfl
 rotate_left
 ·simp only [Act.put, List.setIfInBounds_toArray, List.set_cons_zero, List.set_cons_succ, i64_w, i32_w]
  rfl
 refine pure_ (i := 2) (N := some 29) (v := ?_) (a' := ?_) #[true, true, true, false, false, false, false, false, false, false, false, false, false, false, false, false, false, false, false, false, false, false, false, false, false, false, false, false, false, false, false, false, false, false, false, false, false, false, false, false, false, false, false, false, false, false, false] rfl rfl (any_of HT_.out (by kernel_rfl)) (fun _ _ _ h => h) (Or.inl ⟨by rfl, ?_⟩) ?_ ?_
 rotate_left
 ·intro w'
  go_simp
  with_reducible rfl
 rotate_left
 ·simp only [Act.put, List.setIfInBounds_toArray, List.set_cons_zero, List.set_cons_succ, i64_w, i32_w]
  rfl
 refine pure_ (i := 3) (N := some 30) (v := ?_) (a' := ?_) #[true, true, true, true, false, false, false, false, false, false, false, false, false, false, false, false, false, false, false, false, false, false, false, false, false, false, false, false, false, false, false, false, false, false, false, false, false, false, false, false, false, false, false, false, false, false, false] rfl rfl (any_of HT_.out (by kernel_rfl)) (fun _ _ _ h => h) (Or.inl ⟨by rfl, ?_⟩) ?_ ?_
 rotate_left
 ·intro w'
  go_simp
  with_reducible rfl
 rotate_left
 ·simp only [Act.put, List.setIfInBounds_toArray, List.set_cons_zero, List.set_cons_succ, i64_w, i32_w]
  rfl
 refine pure_ (i := 4) (N := some 31) (v := ?_) (a' := ?_) #[true, true, true, true, true, false, false, false, false, false, false, false, false, false, false, false, false, false, false, false, false, false, false, false, false, false, false, false, false, false, false, false, false, false, false, false, false, false, false, false, false, false, false, false, false, false, false] rfl rfl (any_of HT_.out (by kernel_rfl)) (fun _ _ _ h => h) (Or.inl ⟨by rfl, ?_⟩) ?_ ?_
 rotate_left
 ·intro w'
  go_simp
  with_reducible rfl
 rotate_left
 ·simp only [Act.put, List.setIfInBounds_toArray, List.set_cons_zero, List.set_cons_succ, i64_w, i32_w]
  rfl
 refine pure_ (i := 5) (N := some 32) (v := ?_) (a' := ?_) #[true, true, true, true, true, true, false, false, false, false, false, false, false, false, false, false, false, false, false, false, false, false, false, false, false, false, false, false, false, false, false, false, false, false, false, false, false, false, false, false, false, false, false, false, false, false, false] rfl rfl (any_of HT_.out (by kernel_rfl)) (fun _ _ _ h => h) (Or.inl ⟨by rfl, ?_⟩) ?_ ?_
 rotate_left
 ·intro w'
  go_simp
  with_reducible rfl
 rotate_left
 ·simp only [Act.put, List.setIfInBounds_toArray, List.set_cons_zero, List.set_cons_succ, i64_w, i32_w]
  rfl
 refine pure_ (i := 6) (N := some 33) (v := ?_) (a' := ?_) #[true, true, true, true, true, true, true, false, false, false, false, false, false, false, false, false, false, false, false, false, false, false, false, false, false, false, false, false, false, false, false, false, false, false, false, false, false, false, false, false, false, false, false, false, false, false, false] rfl rfl (any_of HT_.out (by kernel_rfl)) (fun _ _ _ h => h) (Or.inl ⟨by rfl, ?_⟩) ?_ ?_
 rotate_left
 ·intro w'
  go_simp
  with_reducible rfl
 rotate_left
 ·simp only [Act.put, List.setIfInBounds_toArray, List.set_cons_zero, List.set_cons_succ, i64_w, i32_w]
  rfl
 refine pure_ (i := 7) (N := some 34) (v := ?_) (a' := ?_) #[true, true, true, true, true, true, true, true, false, false, false, false, false, false, false, false, false, false, false, false, false, false, false, false, false, false, false, false, false, false, false, false, false, false, false, false, false, false, false, false, false, false, false, false, false, false, false] rfl rfl (any_of HT_.out (by kernel_rfl)) (fun _ _ _ h => h) (Or.inl ⟨by rfl, ?_⟩) ?_ ?_
 rotate_left
 ·intro w'
  go_simp
  with_reducible rfl
 rotate_left
 ·simp only [Act.put, List.setIfInBounds_toArray, List.set_cons_zero, List.set_cons_succ, i64_w, i32_w]
  rfl
 refine pure_ (i := 8) (N := some 35) (v := ?_) (a' := ?_) #[true, true, true, true, true, true, true, true, true, false, false, false, false, false, false, false, false, false, false, false, false, false, false, false, false, false, false, false, false, false, false, false, false, false, false, false, false, false, false, false, false, false, false, false, false, false, false] rfl rfl (any_of HT_.out (by kernel_rfl)) (fun _ _ _ h => h) (Or.inl ⟨by rfl, ?_⟩) ?_ ?_
 rotate_left
 ·intro w'
  go_simp
  with_reducible rfl
 rotate_left
 ·simp only [Act.put, List.setIfInBounds_toArray, List.set_cons_zero, List.set_cons_succ, i64_w, i32_w]
  rfl
 refine pure_ (i := 9) (N := some 36) (v := ?_) (a' := ?_) #[true, true, true, true, true, true, true, true, true, true, false, false, false, false, false, false, false, false, false, false, false, false, false, false, false, false, false, false, false, false, false, false, false, false, false, false, false, false, false, false, false, false, false, false, false, false, false] rfl rfl (any_of HT_.out (by kernel_rfl)) (fun _ _ _ h => h) (Or.inl ⟨by rfl, ?_⟩) ?_ ?_
 rotate_left
 ·intro w'
  go_simp
  with_reducible rfl
 rotate_left
 ·simp only [Act.put, List.setIfInBounds_toArray, List.set_cons_zero, List.set_cons_succ, i64_w, i32_w]
  rfl
 refine pure_ (i := 10) (N := some 37) (v := ?_) (a' := ?_) #[true, true, true, true, true, true, true, true, true, true, true, false, false, false, false, false, false, false, false, false, false, false, false, false, false, false, false, false, false, false, false, false, false, false, false, false, false, false, false, false, false, false, false, false, false, false, false] rfl rfl (any_of HT_.out (by kernel_rfl)) (fun _ _ _ h => h) (Or.inl ⟨by rfl, ?_⟩) ?_ ?_
 rotate_left
 ·intro w'
  go_simp
  with_reducible rfl
 rotate_left
 ·simp only [Act.put, List.setIfInBounds_toArray, List.set_cons_zero, List.set_cons_succ, i64_w, i32_w]
  rfl
 refine pure_ (i := 11) (N := some 38) (v := ?_) (a' := ?_) #[true, true, true, true, true, true, true, true, true, true, true, true, false, false, false, false, false, false, false, false, false, false, false, false, false, false, false, false, false, false, false, false, false, false, false, false, false, false, false, false, false, false, false, false, false, false, false] rfl rfl (any_of HT_.out (by kernel_rfl)) (fun _ _ _ h => h) (Or.inl ⟨by rfl, ?_⟩) ?_ ?_
 rotate_left
 ·intro w'
  go_simp
  with_reducible rfl
 rotate_left
 ·simp only [Act.put, List.setIfInBounds_toArray, List.set_cons_zero, List.set_cons_succ, i64_w, i32_w]
  rfl
 refine pure_ (i := 12) (N := some 39) (v := ?_) (a' := ?_) #[true, true, true, true, true, true, true, true, true, true, true, true, true, false, false, false, false, false, false, false, false, false, false, false, false, false, false, false, false, false, false, false, false, false, false, false, false, false, false, false, false, false, false, false, false, false, false] rfl rfl (any_of HT_.out (by kernel_rfl)) (fun _ _ _ h => h) (Or.inl ⟨by rfl, ?_⟩) ?_ ?_
 rotate_left
 ·intro w'
  go_simp
  with_reducible rfl
 rotate_left
 ·simp only [Act.put, List.setIfInBounds_toArray, List.set_cons_zero, List.set_cons_succ, i64_w, i32_w]
  rfl
 refine pure_ (i := 13) (N := some 40) (v := ?_) (a' := ?_) #[true, true, true, true, true, true, true, true, true, true, true, true, true, true, false, false, false, false, false, false, false, false, false, false, false, false, false, false, false, false, false, false, false, false, false, false, false, false, false, false, false, false, false, false, false, false, false] rfl rfl (any_of HT_.out (by kernel_rfl)) (fun _ _ _ h => h) (Or.inl ⟨by rfl, ?_⟩) ?_ ?_
 rotate_left
 ·intro w'
  go_simp
  with_reducible rfl
 rotate_left
 ·simp only [Act.put, List.setIfInBounds_toArray, List.set_cons_zero, List.set_cons_succ, i64_w, i32_w]
  rfl
 refine pure_ (i := 14) (N := some 41) (v := ?_) (a' := ?_) #[true, true, true, true, true, true, true, true, true, true, true, true, true, true, true, false, false, false, false, false, false, false, false, false, false, false, false, false, false, false, false, false, false, false, false, false, false, false, false, false, false, false, false, false, false, false, false] rfl rfl (any_of HT_.out (by kernel_rfl)) (fun _ _ _ h => h) (Or.inl ⟨by rfl, ?_⟩) ?_ ?_
 rotate_left
 ·intro w'
  go_simp
  with_reducible rfl
 rotate_left
 ·simp only [Act.put, List.setIfInBounds_toArray, List.set_cons_zero, List.set_cons_succ, i64_w, i32_w]
  rfl
 refine take_ (i := 15) (N := some 42) (v := ?_) (a' := ?_) #[true, true, true, true, true, true, true, true, true, true, true, true, true, true, true, true, false, false, false, false, false, false, false, false, false, false, false, false, false, false, false, false, false, false, false, false, false, false, false, false, false, false, false, false, false, false, false] rfl rfl (take_ofW HT_.out HW_.out (by kernel_rfl)) (fun _ _ _ h => h) (Or.inl ⟨by rfl, ?_⟩) hHeld ?_ ?_
 rotate_left
 ·rintro w' ⟨s0, s1, s2, s3, s4, s5, s6, s7, s8, s9, s10, s11, s12, s13, s14, s15, s16, s17, s18⟩
  go_simp
  with_reducible rfl
 rotate_left
 ·simp only [Act.put, List.setIfInBounds_toArray, List.set_cons_zero, List.set_cons_succ, i64_w, i32_w]
  rfl
 refine one_ (i := 16) (N := some 43) #[true, true, true, true, true, true, true, true, true, true, true, true, true, true, true, true, true, false, false, false, false, false, false, false, false, false, false, false, false, false, false, false, false, false, false, false, false, false, false, false, false, false, false, false, false, false, false] rfl rfl (one_of HT_.out (by kernel_rfl)) (by decide) (fun K hK => ?_)
 refine goes_ Try.func19 (by kernel_rfl) rfl #[.agg #[.slice (some ad156) y141.length co20, .slice Ao19 y144.length co19, .slice (some ad161) y150.length co27, .int .i64 4, .int .i64 1, .int .i64 1000]] (by rfl) rfl rfl (by (try simp only [List.map_toArray, List.map_cons, List.map_nil]); first | done | rfl | (simp only [List.length_drop, List.length_take]; rfl)) ?_
 with_reducible refine (geometry_Check.calls _ _ y141 _ _ y144 _ _ y150 4 1 1000 t155 _ ?side1 ?side2 ?side3 ?side4 ?side5 ?side6 A7.out).mono ?_
 (case side1 => repeat (first | exact (Kd.R_reads' HO143.out).2.2 | (with_reducible refine Kd.C_alloc ?_ _) | (with_reducible refine Kd.C_drewN ?_ _) | (with_reducible refine Kd.C_drew ?_)))
 (case side2 => exact (Kd.R_reads' HO143.out).2.1)
 (case side3 => repeat (first | exact (Kd.R_reads' HO146.out).2.2 | (with_reducible refine Kd.C_alloc ?_ _) | (with_reducible refine Kd.C_drewN ?_ _) | (with_reducible refine Kd.C_drew ?_)))
 (case side4 => exact (Kd.R_reads' HO146.out).2.1)
 (case side5 => repeat (first | exact (Kd.R_reads' HO152.out).2.2 | (with_reducible refine Kd.C_alloc ?_ _) | (with_reducible refine Kd.C_drewN ?_ _) | (with_reducible refine Kd.C_drew ?_)))
 (case side6 => exact (Kd.R_reads' HO152.out).2.1)
 rintro e w31 ⟨rfl, hb⟩
 have HS6_ := (hb.cell (World.block_lt_of_cell? _ _ (hHeld.2.2.2.2.2.2.1))).trans (hHeld.2.2.2.2.2.2.1)
 have HS7_ := (hb.cell (World.block_lt_of_cell? _ _ (hHeld.2.2.2.2.2.2.2.1))).trans (hHeld.2.2.2.2.2.2.2.1)
 have HS8_ := (hb.cell (World.block_lt_of_cell? _ _ (hHeld.2.2.2.2.2.2.2.2.1))).trans (hHeld.2.2.2.2.2.2.2.2.1)
 have HS9_ := (hb.cell (World.block_lt_of_cell? _ _ (hHeld.2.2.2.2.2.2.2.2.2.1))).trans (hHeld.2.2.2.2.2.2.2.2.2.1)
 have HS10_ := (hb.cell (World.block_lt_of_cell? _ _ (hHeld.2.2.2.2.2.2.2.2.2.2.1))).trans (hHeld.2.2.2.2.2.2.2.2.2.2.1)
 have HS11_ := (hb.cell (World.block_lt_of_cell? _ _ (hHeld.2.2.2.2.2.2.2.2.2.2.2.1))).trans (hHeld.2.2.2.2.2.2.2.2.2.2.2.1)
 have HS12_ := (hb.cell (World.block_lt_of_cell? _ _ (hHeld.2.2.2.2.2.2.2.2.2.2.2.2.1))).trans (hHeld.2.2.2.2.2.2.2.2.2.2.2.2.1)
 have HS13_ := (hb.cell (World.block_lt_of_cell? _ _ (hHeld.2.2.2.2.2.2.2.2.2.2.2.2.2.1))).trans (hHeld.2.2.2.2.2.2.2.2.2.2.2.2.2.1)
 have HS14_ := (hb.cell (World.block_lt_of_cell? _ _ (hHeld.2.2.2.2.2.2.2.2.2.2.2.2.2.2.1))).trans (hHeld.2.2.2.2.2.2.2.2.2.2.2.2.2.2.1)
 have HS15_ := (hb.cell (World.block_lt_of_cell? _ _ (hHeld.2.2.2.2.2.2.2.2.2.2.2.2.2.2.2.1))).trans (hHeld.2.2.2.2.2.2.2.2.2.2.2.2.2.2.2.1)
 have HS16_ := (hb.cell (World.block_lt_of_cell? _ _ (hHeld.2.2.2.2.2.2.2.2.2.2.2.2.2.2.2.2.1))).trans (hHeld.2.2.2.2.2.2.2.2.2.2.2.2.2.2.2.2.1)
 have HS17_ := (hb.cell (World.block_lt_of_cell? _ _ (hHeld.2.2.2.2.2.2.2.2.2.2.2.2.2.2.2.2.2.1))).trans (hHeld.2.2.2.2.2.2.2.2.2.2.2.2.2.2.2.2.2.1)
 have HS18_ := (hb.cell (World.block_lt_of_cell? _ _ (hHeld.2.2.2.2.2.2.2.2.2.2.2.2.2.2.2.2.2.2))).trans (hHeld.2.2.2.2.2.2.2.2.2.2.2.2.2.2.2.2.2.2)
 refine ⟨_, rfl, ?_⟩
 have n0_ := Aside0.mk (Kd.R_below (by (with_reducible repeat (first | apply Kd.R_alloc | apply Kd.R_drewN | apply Kd.R_drew)); exact HO143.out) hb)
 have n1_ := Aside0.mk (Kd.R_below (by (with_reducible repeat (first | apply Kd.R_alloc | apply Kd.R_drewN | apply Kd.R_drew)); exact HO146.out) hb)
 have n2_ := Aside0.mk (Kd.R_below (by (with_reducible repeat (first | apply Kd.R_alloc | apply Kd.R_drewN | apply Kd.R_drew)); exact HO152.out) hb)
 have n3_ := Aside0.mk (bkB (g := gb147) (o := .cells #[.slice (some ad156) y141.length co20, .slice Ao19 y144.length co19, .slice (some ad161) y150.length co27, .int .i64 4, .int .i64 1, .int .i64 1000] 26 (0, 0)) (by (with_reducible repeat (first | refine bkN ?_ _ | refine bkD ?_ | refine bkA ?_ _)); exact BK147.out) hb)
 have n4_ := Aside0.mk (below_step (by repeat (first | (with_reducible first | exact HB.out | apply blA | apply blN | apply blD | refine blS ?_ GE147.out) | exact HB.out)) hb)
 clear HO143
 clear HO146
 clear HO152
 clear BK147
 clear HB
 have HO143 := n0_
 have HO146 := n1_
 have HO152 := n2_
 have BK147 := n3_
 have HB := n4_
 clear n0_ n1_ n2_ n3_ n4_
 (try clear hb)
 (try clear hb2)
 (try clear hk)
 (try clear hi)
 refine hK.out _ _ ⟨(bkC BK147.out 0).trans rfl, (bkC BK147.out 1).trans rfl, (bkC BK147.out 2).trans rfl, (bkC BK147.out 3).trans rfl, (bkC BK147.out 4).trans rfl, (bkC BK147.out 5).trans rfl, HS6_, HS7_, HS8_, HS9_, HS10_, HS11_, HS12_, HS13_, HS14_, HS15_, HS16_, HS17_, HS18_⟩ (fun hHeld => ?_)
 clear hK K
 refine norm_ (a' := ?_) ?_ ?_
 rotate_left
 ·show Act.put _ (some 43) _ = _
  simp only [Act.put, List.setIfInBounds_toArray, List.set_cons_zero, List.set_cons_succ, i64_w, i32_w]
  rfl
 refine pure_ (i := 17) (N := some 44) (v := ?_) (a' := ?_) #[true, true, true, true, true, true, true, true, true, true, true, true, true, true, true, true, true, true, false, false, false, false, false, false, false, false, false, false, false, false, false, false, false, false, false, false, false, false, false, false, false, false, false, false, false, false, false] rfl rfl (any_of HT_.out (by kernel_rfl)) (fun _ _ _ h => h) (Or.inl ⟨by rfl, ?_⟩) ?_ ?_
 rotate_left
 ·intro w'
  go_simp
  with_reducible rfl
 rotate_left
 ·simp only [Act.put, List.setIfInBounds_toArray, List.set_cons_zero, List.set_cons_succ, i64_w, i32_w]
  rfl
 refine pure_ (i := 18) (N := some 45) (v := ?_) (a' := ?_) #[true, true, true, true, true, true, true, true, true, true, true, true, true, true, true, true, true, true, true, false, false, false, false, false, false, false, false, false, false, false, false, false, false, false, false, false, false, false, false, false, false, false, false, false, false, false, false] rfl rfl (any_of HT_.out (by kernel_rfl)) (fun _ _ _ h => h) (Or.inl ⟨by rfl, ?_⟩) ?_ ?_
 rotate_left
 ·intro w'
  go_simp
  with_reducible rfl
 rotate_left
 ·simp only [Act.put, List.setIfInBounds_toArray, List.set_cons_zero, List.set_cons_succ, i64_w, i32_w]
  rfl
 refine pure_ (i := 19) (N := some 46) (v := ?_) (a' := ?_) #[true, true, true, true, true, true, true, true, true, true, true, true, true, true, true, true, true, true, true, true, false, false, false, false, false, false, false, false, false, false, false, false, false, false, false, false, false, false, false, false, false, false, false, false, false, false, false] rfl rfl (any_of HT_.out (by kernel_rfl)) (fun _ _ _ h => h) (Or.inl ⟨by rfl, ?_⟩) ?_ ?_
 rotate_left
 ·intro w'
  go_simp
  with_reducible rfl
 rotate_left
 ·simp only [Act.put, List.setIfInBounds_toArray, List.set_cons_zero, List.set_cons_succ, i64_w, i32_w]
  rfl
 refine pure_ (i := 20) (N := some 47) (v := ?_) (a' := ?_) #[true, true, true, true, true, true, true, true, true, true, true, true, true, true, true, true, true, true, true, true, true, false, false, false, false, false, false, false, false, false, false, false, false, false, false, false, false, false, false, false, false, false, false, false, false, false, false] rfl rfl (any_of HT_.out (by kernel_rfl)) (fun _ _ _ h => h) (Or.inl ⟨by rfl, ?_⟩) ?_ ?_
 rotate_left
 ·intro w'
  go_simp
  with_reducible rfl
 rotate_left
 ·simp only [Act.put, List.setIfInBounds_toArray, List.set_cons_zero, List.set_cons_succ, i64_w, i32_w]
  rfl
 refine pure_ (i := 24) (N := some 51) (v := ?_) (a' := ?_) #[true, true, true, true, true, true, true, true, true, true, true, true, true, true, true, true, true, true, true, true, true, false, false, false, true, false, false, false, false, false, false, false, false, false, false, false, false, false, false, false, false, false, false, false, false, false, false] rfl rfl (any_of HT_.out (by kernel_rfl)) (fun _ _ _ h => h) (Or.inl ⟨by rfl, ?_⟩) ?_ ?_
 rotate_left
 ·intro w'
  go_simp
  with_reducible rfl
 rotate_left
 ·simp only [Act.put, List.setIfInBounds_toArray, List.set_cons_zero, List.set_cons_succ, i64_w, i32_w]
  rfl
 refine take_ (i := 21) (N := some 48) (v := ?_) (a' := ?_) #[true, true, true, true, true, true, true, true, true, true, true, true, true, true, true, true, true, true, true, true, true, true, false, false, true, false, false, false, false, false, false, false, false, false, false, false, false, false, false, false, false, false, false, false, false, false, false] rfl rfl (take_ofW HT_.out HW_.out (by kernel_rfl)) (fun _ _ _ h => h) (Or.inl ⟨by rfl, ?_⟩) hHeld ?_ ?_
 rotate_left
 ·rintro w' ⟨s0, s1, s2, s3, s4, s5, s6, s7, s8, s9, s10, s11, s12, s13, s14, s15, s16, s17, s18⟩
  go_simp
  with_reducible rfl
 rotate_left
 ·simp only [Act.put, List.setIfInBounds_toArray, List.set_cons_zero, List.set_cons_succ, i64_w, i32_w]
  rfl
 refine pure_ (i := 22) (N := some 49) (v := ?_) (a' := ?_) #[true, true, true, true, true, true, true, true, true, true, true, true, true, true, true, true, true, true, true, true, true, true, true, false, true, false, false, false, false, false, false, false, false, false, false, false, false, false, false, false, false, false, false, false, false, false, false] rfl rfl (any_of HT_.out (by kernel_rfl)) (fun _ _ _ h => h) (Or.inl ⟨by rfl, ?_⟩) ?_ ?_
 rotate_left
 ·intro w'
  go_simp
  with_reducible rfl
 rotate_left
 ·simp only [Act.put, List.setIfInBounds_toArray, List.set_cons_zero, List.set_cons_succ, i64_w, i32_w]
  rfl
 refine take_ (i := 23) (N := some 50) (v := ?_) (a' := ?_) #[true, true, true, true, true, true, true, true, true, true, true, true, true, true, true, true, true, true, true, true, true, true, true, true, true, false, false, false, false, false, false, false, false, false, false, false, false, false, false, false, false, false, false, false, false, false, false] rfl rfl (take_ofW HT_.out HW_.out (by kernel_rfl)) (fun _ _ _ h => h) (Or.inl ⟨by rfl, ?_⟩) hHeld ?_ ?_
 rotate_left
 ·rintro w' ⟨s0, s1, s2, s3, s4, s5, s6, s7, s8, s9, s10, s11, s12, s13, s14, s15, s16, s17, s18⟩
  go_simp
  with_reducible rfl
 rotate_left
 ·simp only [Act.put, List.setIfInBounds_toArray, List.set_cons_zero, List.set_cons_succ, i64_w, i32_w]
  rfl
 refine take_ (i := 25) (N := some 52) (v := ?_) (a' := ?_) #[true, true, true, true, true, true, true, true, true, true, true, true, true, true, true, true, true, true, true, true, true, true, true, true, true, true, false, false, false, false, false, false, false, false, false, false, false, false, false, false, false, false, false, false, false, false, false] rfl rfl (take_ofW HT_.out HW_.out (by kernel_rfl)) (fun _ _ _ h => h) (Or.inl ⟨by rfl, ?_⟩) hHeld ?_ ?_
 rotate_left
 ·rintro w' ⟨s0, s1, s2, s3, s4, s5, s6, s7, s8, s9, s10, s11, s12, s13, s14, s15, s16, s17, s18⟩
  go_simp
  with_reducible rfl
 rotate_left
 ·simp only [Act.put, List.setIfInBounds_toArray, List.set_cons_zero, List.set_cons_succ, i64_w, i32_w]
  rfl
 refine pure_ (i := 26) (N := some 53) (v := ?_) (a' := ?_) #[true, true, true, true, true, true, true, true, true, true, true, true, true, true, true, true, true, true, true, true, true, true, true, true, true, true, true, false, false, false, false, false, false, false, false, false, false, false, false, false, false, false, false, false, false, false, false] rfl rfl (any_of HT_.out (by kernel_rfl)) (fun _ _ _ h => h) (Or.inl ⟨by rfl, ?_⟩) ?_ ?_
 rotate_left
 ·intro w'
  go_simp
  with_reducible rfl
 rotate_left
 ·simp only [Act.put, List.setIfInBounds_toArray, List.set_cons_zero, List.set_cons_succ, i64_w, i32_w]
  rfl
 refine take_ (i := 27) (N := some 54) (v := ?_) (a' := ?_) #[true, true, true, true, true, true, true, true, true, true, true, true, true, true, true, true, true, true, true, true, true, true, true, true, true, true, true, true, false, false, false, false, false, false, false, false, false, false, false, false, false, false, false, false, false, false, false] rfl rfl (take_ofW HT_.out HW_.out (by kernel_rfl)) (fun _ _ _ h => h) (Or.inl ⟨by rfl, ?_⟩) hHeld ?_ ?_
 rotate_left
 ·rintro w' ⟨s0, s1, s2, s3, s4, s5, s6, s7, s8, s9, s10, s11, s12, s13, s14, s15, s16, s17, s18⟩
  go_simp
  with_reducible rfl
 rotate_left
 ·simp only [Act.put, List.setIfInBounds_toArray, List.set_cons_zero, List.set_cons_succ, i64_w, i32_w]
  rfl
 refine one_ (i := 28) (N := some 55) #[true, true, true, true, true, true, true, true, true, true, true, true, true, true, true, true, true, true, true, true, true, true, true, true, true, true, true, true, true, false, false, false, false, false, false, false, false, false, false, false, false, false, false, false, false, false, false] rfl rfl (one_of HT_.out (by kernel_rfl)) (by decide) (fun K hK => ?_)
 refine goes_ Try.func25 (by kernel_rfl) rfl #[.agg #[.int .i64 ((rd_T28 y141 0).f0), .int .i64 ((rd_T28 y141 0).f1)], .agg #[.int .i64 ((rd_T28 y141 1).f0), .int .i64 ((rd_T28 y141 1).f1)]] (by rfl) rfl rfl (by (try simp only [List.map_toArray, List.map_cons, List.map_nil]); first | done | rfl | (simp only [List.length_drop, List.length_take]; rfl)) ?_
 with_reducible refine (geometry_Square.calls ((rd_T28 y141 0).f0) ((rd_T28 y141 0).f1) ((rd_T28 y141 1).f0) ((rd_T28 y141 1).f1) t158 _ A11.out).mono ?_
 rintro e w32 ⟨rfl, hb⟩
 have HS6_ := (hb.cell (World.block_lt_of_cell? _ _ (hHeld.2.2.2.2.2.2.1))).trans (hHeld.2.2.2.2.2.2.1)
 have HS7_ := (hb.cell (World.block_lt_of_cell? _ _ (hHeld.2.2.2.2.2.2.2.1))).trans (hHeld.2.2.2.2.2.2.2.1)
 have HS8_ := (hb.cell (World.block_lt_of_cell? _ _ (hHeld.2.2.2.2.2.2.2.2.1))).trans (hHeld.2.2.2.2.2.2.2.2.1)
 have HS9_ := (hb.cell (World.block_lt_of_cell? _ _ (hHeld.2.2.2.2.2.2.2.2.2.1))).trans (hHeld.2.2.2.2.2.2.2.2.2.1)
 have HS10_ := (hb.cell (World.block_lt_of_cell? _ _ (hHeld.2.2.2.2.2.2.2.2.2.2.1))).trans (hHeld.2.2.2.2.2.2.2.2.2.2.1)
 have HS11_ := (hb.cell (World.block_lt_of_cell? _ _ (hHeld.2.2.2.2.2.2.2.2.2.2.2.1))).trans (hHeld.2.2.2.2.2.2.2.2.2.2.2.1)
 have HS12_ := (hb.cell (World.block_lt_of_cell? _ _ (hHeld.2.2.2.2.2.2.2.2.2.2.2.2.1))).trans (hHeld.2.2.2.2.2.2.2.2.2.2.2.2.1)
 have HS13_ := (hb.cell (World.block_lt_of_cell? _ _ (hHeld.2.2.2.2.2.2.2.2.2.2.2.2.2.1))).trans (hHeld.2.2.2.2.2.2.2.2.2.2.2.2.2.1)
 have HS14_ := (hb.cell (World.block_lt_of_cell? _ _ (hHeld.2.2.2.2.2.2.2.2.2.2.2.2.2.2.1))).trans (hHeld.2.2.2.2.2.2.2.2.2.2.2.2.2.2.1)
 have HS15_ := (hb.cell (World.block_lt_of_cell? _ _ (hHeld.2.2.2.2.2.2.2.2.2.2.2.2.2.2.2.1))).trans (hHeld.2.2.2.2.2.2.2.2.2.2.2.2.2.2.2.1)
 have HS16_ := (hb.cell (World.block_lt_of_cell? _ _ (hHeld.2.2.2.2.2.2.2.2.2.2.2.2.2.2.2.2.1))).trans (hHeld.2.2.2.2.2.2.2.2.2.2.2.2.2.2.2.2.1)
 have HS17_ := (hb.cell (World.block_lt_of_cell? _ _ (hHeld.2.2.2.2.2.2.2.2.2.2.2.2.2.2.2.2.2.1))).trans (hHeld.2.2.2.2.2.2.2.2.2.2.2.2.2.2.2.2.2.1)
 have HS18_ := (hb.cell (World.block_lt_of_cell? _ _ (hHeld.2.2.2.2.2.2.2.2.2.2.2.2.2.2.2.2.2.2))).trans (hHeld.2.2.2.2.2.2.2.2.2.2.2.2.2.2.2.2.2.2)
 refine ⟨_, rfl, ?_⟩
 have n0_ := Aside0.mk (Kd.R_below (by (with_reducible repeat (first | apply Kd.R_alloc | apply Kd.R_drewN | apply Kd.R_drew)); exact HO143.out) hb)
 have n1_ := Aside0.mk (Kd.R_below (by (with_reducible repeat (first | apply Kd.R_alloc | apply Kd.R_drewN | apply Kd.R_drew)); exact HO146.out) hb)
 have n2_ := Aside0.mk (Kd.R_below (by (with_reducible repeat (first | apply Kd.R_alloc | apply Kd.R_drewN | apply Kd.R_drew)); exact HO152.out) hb)
 have n3_ := Aside0.mk (bkB (g := gb147) (o := .cells #[.slice (some ad156) y141.length co20, .slice Ao19 y144.length co19, .slice (some ad161) y150.length co27, .int .i64 4, .int .i64 1, .int .i64 1000] 26 (0, 0)) (by (with_reducible repeat (first | refine bkN ?_ _ | refine bkD ?_ | refine bkA ?_ _)); exact BK147.out) hb)
 have n4_ := Aside0.mk (below_step (by repeat (first | (with_reducible first | exact HB.out | apply blA | apply blN | apply blD | refine blS ?_ GE147.out) | exact HB.out)) hb)
 clear HO143
 clear HO146
 clear HO152
 clear BK147
 clear HB
 have HO143 := n0_
 have HO146 := n1_
 have HO152 := n2_
 have BK147 := n3_
 have HB := n4_
 clear n0_ n1_ n2_ n3_ n4_
 (try clear hb)
 (try clear hb2)
 (try clear hk)
 (try clear hi)
 refine hK.out _ _ ⟨(bkC BK147.out 0).trans rfl, (bkC BK147.out 1).trans rfl, (bkC BK147.out 2).trans rfl, (bkC BK147.out 3).trans rfl, (bkC BK147.out 4).trans rfl, (bkC BK147.out 5).trans rfl, HS6_, HS7_, HS8_, HS9_, HS10_, HS11_, HS12_, HS13_, HS14_, HS15_, HS16_, HS17_, HS18_⟩ (fun hHeld => ?_)
 clear hK K
 refine norm_ (a' := ?_) ?_ ?_
 rotate_left
 ·show Act.put _ (some 55) _ = _
  simp only [Act.put, List.setIfInBounds_toArray, List.set_cons_zero, List.set_cons_succ, i64_w, i32_w]
  rfl
 refine pure_ (i := 29) (N := some 56) (v := ?_) (a' := ?_) #[true, true, true, true, true, true, true, true, true, true, true, true, true, true, true, true, true, true, true, true, true, true, true, true, true, true, true, true, true, true, false, false, false, false, false, false, false, false, false, false, false, false, false, false, false, false, false] rfl rfl (any_of HT_.out (by kernel_rfl)) (fun _ _ _ h => h) (Or.inl ⟨by rfl, ?_⟩) ?_ ?_
 rotate_left
 ·intro w'
  go_simp
  with_reducible rfl
 rotate_left
 ·simp only [Act.put, List.setIfInBounds_toArray, List.set_cons_zero, List.set_cons_succ, i64_w, i32_w]
  rfl
 refine pure_ (i := 30) (N := some 57) (v := ?_) (a' := ?_) #[true, true, true, true, true, true, true, true, true, true, true, true, true, true, true, true, true, true, true, true, true, true, true, true, true, true, true, true, true, true, true, false, false, false, false, false, false, false, false, false, false, false, false, false, false, false, false] rfl rfl (any_of HT_.out (by kernel_rfl)) (fun _ _ _ h => h) (Or.inl ⟨by rfl, ?_⟩) ?_ ?_
 rotate_left
 ·intro w'
  go_simp
  with_reducible rfl
 rotate_left
 ·simp only [Act.put, List.setIfInBounds_toArray, List.set_cons_zero, List.set_cons_succ, i64_w, i32_w]
  rfl
 refine pure_ (i := 31) (N := some 58) (v := ?_) (a' := ?_) #[true, true, true, true, true, true, true, true, true, true, true, true, true, true, true, true, true, true, true, true, true, true, true, true, true, true, true, true, true, true, true, true, false, false, false, false, false, false, false, false, false, false, false, false, false, false, false] rfl rfl (any_of HT_.out (by kernel_rfl)) (fun _ _ _ h => h) (Or.inl ⟨by rfl, ?_⟩) ?_ ?_
 rotate_left
 ·intro w'
  go_simp
  with_reducible rfl
 rotate_left
 ·simp only [Act.put, List.setIfInBounds_toArray, List.set_cons_zero, List.set_cons_succ, i64_w, i32_w]
  rfl
 refine pure_ (i := 32) (N := some 59) (v := ?_) (a' := ?_) #[true, true, true, true, true, true, true, true, true, true, true, true, true, true, true, true, true, true, true, true, true, true, true, true, true, true, true, true, true, true, true, true, true, false, false, false, false, false, false, false, false, false, false, false, false, false, false] rfl rfl (any_of HT_.out (by kernel_rfl)) (fun _ _ _ h => h) (Or.inl ⟨by rfl, ?_⟩) ?_ ?_
 rotate_left
 ·intro w'
  go_simp
  with_reducible rfl
 rotate_left
 ·simp only [Act.put, List.setIfInBounds_toArray, List.set_cons_zero, List.set_cons_succ, i64_w, i32_w]
  rfl
 refine pure_ (i := 36) (N := some 63) (v := ?_) (a' := ?_) #[true, true, true, true, true, true, true, true, true, true, true, true, true, true, true, true, true, true, true, true, true, true, true, true, true, true, true, true, true, true, true, true, true, false, false, false, true, false, false, false, false, false, false, false, false, false, false] rfl rfl (any_of HT_.out (by kernel_rfl)) (fun _ _ _ h => h) (Or.inl ⟨by rfl, ?_⟩) ?_ ?_
 rotate_left
 ·intro w'
  go_simp
  with_reducible rfl
 rotate_left
 ·simp only [Act.put, List.setIfInBounds_toArray, List.set_cons_zero, List.set_cons_succ, i64_w, i32_w]
  rfl
 refine pure_ (i := 40) (N := some 67) (v := ?_) (a' := ?_) #[true, true, true, true, true, true, true, true, true, true, true, true, true, true, true, true, true, true, true, true, true, true, true, true, true, true, true, true, true, true, true, true, true, false, false, false, true, false, false, false, true, false, false, false, false, false, false] rfl rfl (any_of HT_.out (by kernel_rfl)) (fun _ _ _ h => h) (Or.inl ⟨by rfl, ?_⟩) ?_ ?_
 rotate_left
 ·intro w'
  go_simp
  with_reducible rfl
 rotate_left
 ·simp only [Act.put, List.setIfInBounds_toArray, List.set_cons_zero, List.set_cons_succ, i64_w, i32_w]
  rfl
 refine take_ (i := 33) (N := some 60) (v := ?_) (a' := ?_) #[true, true, true, true, true, true, true, true, true, true, true, true, true, true, true, true, true, true, true, true, true, true, true, true, true, true, true, true, true, true, true, true, true, true, false, false, true, false, false, false, true, false, false, false, false, false, false] rfl rfl (take_ofW HT_.out HW_.out (by kernel_rfl)) (fun _ _ _ h => h) (Or.inl ⟨by rfl, ?_⟩) hHeld ?_ ?_
 rotate_left
 ·rintro w' ⟨s0, s1, s2, s3, s4, s5, s6, s7, s8, s9, s10, s11, s12, s13, s14, s15, s16, s17, s18⟩
  go_simp
  with_reducible rfl
 rotate_left
 ·simp only [Act.put, List.setIfInBounds_toArray, List.set_cons_zero, List.set_cons_succ, i64_w, i32_w]
  rfl
 refine pure_ (i := 34) (N := some 61) (v := ?_) (a' := ?_) #[true, true, true, true, true, true, true, true, true, true, true, true, true, true, true, true, true, true, true, true, true, true, true, true, true, true, true, true, true, true, true, true, true, true, true, false, true, false, false, false, true, false, false, false, false, false, false] rfl rfl (any_of HT_.out (by kernel_rfl)) (fun _ _ _ h => h) (Or.inl ⟨by rfl, ?_⟩) ?_ ?_
 rotate_left
 ·intro w'
  go_simp
  with_reducible rfl
 rotate_left
 ·simp only [Act.put, List.setIfInBounds_toArray, List.set_cons_zero, List.set_cons_succ, i64_w, i32_w]
  rfl
 refine take_ (i := 35) (N := some 62) (v := ?_) (a' := ?_) #[true, true, true, true, true, true, true, true, true, true, true, true, true, true, true, true, true, true, true, true, true, true, true, true, true, true, true, true, true, true, true, true, true, true, true, true, true, false, false, false, true, false, false, false, false, false, false] rfl rfl (take_ofW HT_.out HW_.out (by kernel_rfl)) (fun _ _ _ h => h) (Or.inl ⟨by rfl, ?_⟩) hHeld ?_ ?_
 rotate_left
 ·rintro w' ⟨s0, s1, s2, s3, s4, s5, s6, s7, s8, s9, s10, s11, s12, s13, s14, s15, s16, s17, s18⟩
  go_simp
  with_reducible rfl
 rotate_left
 ·simp only [Act.put, List.setIfInBounds_toArray, List.set_cons_zero, List.set_cons_succ, i64_w, i32_w]
  rfl
 refine take_ (i := 37) (N := some 64) (v := ?_) (a' := ?_) #[true, true, true, true, true, true, true, true, true, true, true, true, true, true, true, true, true, true, true, true, true, true, true, true, true, true, true, true, true, true, true, true, true, true, true, true, true, true, false, false, true, false, false, false, false, false, false] rfl rfl (take_ofW HT_.out HW_.out (by kernel_rfl)) (fun _ _ _ h => h) (Or.inl ⟨by rfl, ?_⟩) hHeld ?_ ?_
 rotate_left
 ·rintro w' ⟨s0, s1, s2, s3, s4, s5, s6, s7, s8, s9, s10, s11, s12, s13, s14, s15, s16, s17, s18⟩
  go_simp
  with_reducible rfl
 rotate_left
 ·simp only [Act.put, List.setIfInBounds_toArray, List.set_cons_zero, List.set_cons_succ, i64_w, i32_w]
  rfl
 refine pure_ (i := 38) (N := some 65) (v := ?_) (a' := ?_) #[true, true, true, true, true, true, true, true, true, true, true, true, true, true, true, true, true, true, true, true, true, true, true, true, true, true, true, true, true, true, true, true, true, true, true, true, true, true, true, false, true, false, false, false, false, false, false] rfl rfl (any_of HT_.out (by kernel_rfl)) (fun _ _ _ h => h) (Or.inl ⟨by rfl, ?_⟩) ?_ ?_
 rotate_left
 ·intro w'
  go_simp
  with_reducible rfl
 rotate_left
 ·simp only [Act.put, List.setIfInBounds_toArray, List.set_cons_zero, List.set_cons_succ, i64_w, i32_w]
  rfl
 refine take_ (i := 39) (N := some 66) (v := ?_) (a' := ?_) #[true, true, true, true, true, true, true, true, true, true, true, true, true, true, true, true, true, true, true, true, true, true, true, true, true, true, true, true, true, true, true, true, true, true, true, true, true, true, true, true, true, false, false, false, false, false, false] rfl rfl (take_ofW HT_.out HW_.out (by kernel_rfl)) (fun _ _ _ h => h) (Or.inl ⟨by rfl, ?_⟩) hHeld ?_ ?_
 rotate_left
 ·rintro w' ⟨s0, s1, s2, s3, s4, s5, s6, s7, s8, s9, s10, s11, s12, s13, s14, s15, s16, s17, s18⟩
  go_simp
  with_reducible rfl
 rotate_left
 ·simp only [Act.put, List.setIfInBounds_toArray, List.set_cons_zero, List.set_cons_succ, i64_w, i32_w]
  rfl
 refine take_ (i := 41) (N := some 68) (v := ?_) (a' := ?_) #[true, true, true, true, true, true, true, true, true, true, true, true, true, true, true, true, true, true, true, true, true, true, true, true, true, true, true, true, true, true, true, true, true, true, true, true, true, true, true, true, true, true, false, false, false, false, false] rfl rfl (take_ofW HT_.out HW_.out (by kernel_rfl)) (fun _ _ _ h => h) (Or.inl ⟨by rfl, ?_⟩) hHeld ?_ ?_
 rotate_left
 ·rintro w' ⟨s0, s1, s2, s3, s4, s5, s6, s7, s8, s9, s10, s11, s12, s13, s14, s15, s16, s17, s18⟩
  go_simp
  with_reducible rfl
 rotate_left
 ·simp only [Act.put, List.setIfInBounds_toArray, List.set_cons_zero, List.set_cons_succ, i64_w, i32_w]
  rfl
 refine pure_ (i := 42) (N := some 69) (v := ?_) (a' := ?_) #[true, true, true, true, true, true, true, true, true, true, true, true, true, true, true, true, true, true, true, true, true, true, true, true, true, true, true, true, true, true, true, true, true, true, true, true, true, true, true, true, true, true, true, false, false, false, false] rfl rfl (any_of HT_.out (by kernel_rfl)) (fun _ _ _ h => h) (Or.inl ⟨by rfl, ?_⟩) ?_ ?_
 rotate_left
 ·intro w'
  go_simp
  with_reducible rfl
 rotate_left
 ·simp only [Act.put, List.setIfInBounds_toArray, List.set_cons_zero, List.set_cons_succ, i64_w, i32_w]
  rfl
 refine take_ (i := 43) (N := some 70) (v := ?_) (a' := ?_) #[true, true, true, true, true, true, true, true, true, true, true, true, true, true, true, true, true, true, true, true, true, true, true, true, true, true, true, true, true, true, true, true, true, true, true, true, true, true, true, true, true, true, true, true, false, false, false] rfl rfl (take_ofW HT_.out HW_.out (by kernel_rfl)) (fun _ _ _ h => h) (Or.inl ⟨by rfl, ?_⟩) hHeld ?_ ?_
 rotate_left
 ·rintro w' ⟨s0, s1, s2, s3, s4, s5, s6, s7, s8, s9, s10, s11, s12, s13, s14, s15, s16, s17, s18⟩
  go_simp
  with_reducible rfl
 rotate_left
 ·simp only [Act.put, List.setIfInBounds_toArray, List.set_cons_zero, List.set_cons_succ, i64_w, i32_w]
  rfl
 refine one_ (i := 44) (N := some 71) #[true, true, true, true, true, true, true, true, true, true, true, true, true, true, true, true, true, true, true, true, true, true, true, true, true, true, true, true, true, true, true, true, true, true, true, true, true, true, true, true, true, true, true, true, true, false, false] rfl rfl (one_of HT_.out (by kernel_rfl)) (by decide) (fun K hK => ?_)
 refine goes_ Try.func27 (by kernel_rfl) rfl #[.agg #[.int .i64 ((rd_T28 y141 0).f0), .int .i64 ((rd_T28 y141 0).f1)], .agg #[.int .i64 ((rd_T28 y141 1).f0), .int .i64 ((rd_T28 y141 1).f1)], .agg #[.int .i64 ((rd_T47 y150 0).f0.f0), .int .i64 ((rd_T47 y150 0).f0.f1), .int .i64 ((rd_T47 y150 0).f1.f0), .int .i64 ((rd_T47 y150 0).f1.f1), .int .i64 ((rd_T47 y150 0).f2)]] (by rfl) rfl rfl (by (try simp only [List.map_toArray, List.map_cons, List.map_nil]); first | done | rfl | (simp only [List.length_drop, List.length_take]; rfl)) ?_
 with_reducible refine (geometry_Crosses.calls k ((rd_T28 y141 0).f0) ((rd_T28 y141 0).f1) ((rd_T28 y141 1).f0) ((rd_T28 y141 1).f1) ((rd_T47 y150 0).f0.f0) ((rd_T47 y150 0).f0.f1) ((rd_T47 y150 0).f1.f0) ((rd_T47 y150 0).f1.f1) ((rd_T47 y150 0).f2) t162 _ A14.out).mono ?_
 rintro e w33 ⟨rfl, hb⟩
 have HS6_ := (hb.cell (World.block_lt_of_cell? _ _ (hHeld.2.2.2.2.2.2.1))).trans (hHeld.2.2.2.2.2.2.1)
 have HS7_ := (hb.cell (World.block_lt_of_cell? _ _ (hHeld.2.2.2.2.2.2.2.1))).trans (hHeld.2.2.2.2.2.2.2.1)
 have HS8_ := (hb.cell (World.block_lt_of_cell? _ _ (hHeld.2.2.2.2.2.2.2.2.1))).trans (hHeld.2.2.2.2.2.2.2.2.1)
 have HS9_ := (hb.cell (World.block_lt_of_cell? _ _ (hHeld.2.2.2.2.2.2.2.2.2.1))).trans (hHeld.2.2.2.2.2.2.2.2.2.1)
 have HS10_ := (hb.cell (World.block_lt_of_cell? _ _ (hHeld.2.2.2.2.2.2.2.2.2.2.1))).trans (hHeld.2.2.2.2.2.2.2.2.2.2.1)
 have HS11_ := (hb.cell (World.block_lt_of_cell? _ _ (hHeld.2.2.2.2.2.2.2.2.2.2.2.1))).trans (hHeld.2.2.2.2.2.2.2.2.2.2.2.1)
 have HS12_ := (hb.cell (World.block_lt_of_cell? _ _ (hHeld.2.2.2.2.2.2.2.2.2.2.2.2.1))).trans (hHeld.2.2.2.2.2.2.2.2.2.2.2.2.1)
 have HS13_ := (hb.cell (World.block_lt_of_cell? _ _ (hHeld.2.2.2.2.2.2.2.2.2.2.2.2.2.1))).trans (hHeld.2.2.2.2.2.2.2.2.2.2.2.2.2.1)
 have HS14_ := (hb.cell (World.block_lt_of_cell? _ _ (hHeld.2.2.2.2.2.2.2.2.2.2.2.2.2.2.1))).trans (hHeld.2.2.2.2.2.2.2.2.2.2.2.2.2.2.1)
 have HS15_ := (hb.cell (World.block_lt_of_cell? _ _ (hHeld.2.2.2.2.2.2.2.2.2.2.2.2.2.2.2.1))).trans (hHeld.2.2.2.2.2.2.2.2.2.2.2.2.2.2.2.1)
 have HS16_ := (hb.cell (World.block_lt_of_cell? _ _ (hHeld.2.2.2.2.2.2.2.2.2.2.2.2.2.2.2.2.1))).trans (hHeld.2.2.2.2.2.2.2.2.2.2.2.2.2.2.2.2.1)
 have HS17_ := (hb.cell (World.block_lt_of_cell? _ _ (hHeld.2.2.2.2.2.2.2.2.2.2.2.2.2.2.2.2.2.1))).trans (hHeld.2.2.2.2.2.2.2.2.2.2.2.2.2.2.2.2.2.1)
 have HS18_ := (hb.cell (World.block_lt_of_cell? _ _ (hHeld.2.2.2.2.2.2.2.2.2.2.2.2.2.2.2.2.2.2))).trans (hHeld.2.2.2.2.2.2.2.2.2.2.2.2.2.2.2.2.2.2)
 refine ⟨_, rfl, ?_⟩
 have n0_ := Aside0.mk (Kd.R_below (by (with_reducible repeat (first | apply Kd.R_alloc | apply Kd.R_drewN | apply Kd.R_drew)); exact HO143.out) hb)
 have n1_ := Aside0.mk (Kd.R_below (by (with_reducible repeat (first | apply Kd.R_alloc | apply Kd.R_drewN | apply Kd.R_drew)); exact HO146.out) hb)
 have n2_ := Aside0.mk (Kd.R_below (by (with_reducible repeat (first | apply Kd.R_alloc | apply Kd.R_drewN | apply Kd.R_drew)); exact HO152.out) hb)
 have n3_ := Aside0.mk (bkB (g := gb147) (o := .cells #[.slice (some ad156) y141.length co20, .slice Ao19 y144.length co19, .slice (some ad161) y150.length co27, .int .i64 4, .int .i64 1, .int .i64 1000] 26 (0, 0)) (by (with_reducible repeat (first | refine bkN ?_ _ | refine bkD ?_ | refine bkA ?_ _)); exact BK147.out) hb)
 have n4_ := Aside0.mk (below_step (by repeat (first | (with_reducible first | exact HB.out | apply blA | apply blN | apply blD | refine blS ?_ GE147.out) | exact HB.out)) hb)
 clear HO143
 clear HO146
 clear HO152
 clear BK147
 clear HB
 have HO143 := n0_
 have HO146 := n1_
 have HO152 := n2_
 have BK147 := n3_
 have HB := n4_
 clear n0_ n1_ n2_ n3_ n4_
 (try clear hb)
 (try clear hb2)
 (try clear hk)
 (try clear hi)
 refine hK.out _ _ ⟨(bkC BK147.out 0).trans rfl, (bkC BK147.out 1).trans rfl, (bkC BK147.out 2).trans rfl, (bkC BK147.out 3).trans rfl, (bkC BK147.out 4).trans rfl, (bkC BK147.out 5).trans rfl, HS6_, HS7_, HS8_, HS9_, HS10_, HS11_, HS12_, HS13_, HS14_, HS15_, HS16_, HS17_, HS18_⟩ (fun hHeld => ?_)
 clear hK K
 refine norm_ (a' := ?_) ?_ ?_
 rotate_left
 ·show Act.put _ (some 71) _ = _
  simp only [Act.put, List.setIfInBounds_toArray, List.set_cons_zero, List.set_cons_succ, i64_w, i32_w]
  rfl
 refine pure_ (i := 45) (N := some 72) (v := ?_) (a' := ?_) #[true, true, true, true, true, true, true, true, true, true, true, true, true, true, true, true, true, true, true, true, true, true, true, true, true, true, true, true, true, true, true, true, true, true, true, true, true, true, true, true, true, true, true, true, true, true, false] rfl rfl (any_of HT_.out (by kernel_rfl)) (fun _ _ _ h => h) (Or.inl ⟨by rfl, ?_⟩) ?_ ?_
 rotate_left
 ·intro w'
  go_simp
  with_reducible rfl
 rotate_left
 ·simp only [Act.put, List.setIfInBounds_toArray, List.set_cons_zero, List.set_cons_succ, i64_w, i32_w]
  rfl
 refine pure_ (i := 46) (N := some 0) (v := ?_) (a' := ?_) #[true, true, true, true, true, true, true, true, true, true, true, true, true, true, true, true, true, true, true, true, true, true, true, true, true, true, true, true, true, true, true, true, true, true, true, true, true, true, true, true, true, true, true, true, true, true, true] rfl rfl (any_of HT_.out (by kernel_rfl)) (fun _ _ _ h => h) (Or.inl ⟨by rfl, ?_⟩) ?_ ?_
 rotate_left
 ·intro w'
  go_simp
  with_reducible rfl
 rotate_left
 ·simp only [Act.put, List.setIfInBounds_toArray, List.set_cons_zero, List.set_cons_succ, i64_w, i32_w]
  rfl
 refine done_ (done_of HT_.out (by kernel_rfl)) ?_
 try go_wp2
 go_ret
 exact ⟨by first | rfl | (simp [errW_none, errW_some] <;> rfl) | (simp [*, errW_none, errW_some] <;> rfl), by repeat (first | (with_reducible first | exact HB.out | apply blA | apply blN | apply blD | refine blS ?_ GE147.out) | exact HB.out)⟩
end Go.Proofs.Ytcdgpnjlaicbcaa.PA
