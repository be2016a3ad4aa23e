-- Written by a program of this session (mkprint.py: the kit's print, changed) for this claim. Not trusted: Lean checks it.
import Derived.Test.YtcdgpnjlaicbcaaPAx0
import Derived.Test.YtcdgpnjlaicbcaaPAx1
import Derived.Test.YtcdgpnjlaicbcaaPAx9
import Derived.Test.YtcdgpnjlaicbcaaPAx11
import Derived.Test.YtcdgpnjlaicbcaaPAx12
import Derived.Test.YtcdgpnjlaicbcaaPAx18
import Derived.Test.YtcdgpnjlaicbcaaPAx27
import Derived.Test.YtcdgpnjlaicbcaaPAx28
import Derived.Test.YtcdgpnjlaicbcaaPAx29
import Derived.Test.YtcdgpnjlaicbcaaPAx30
import Derived.Test.YtcdgpnjlaicbcaaPAx43
namespace Go.Proofs.Ytcdgpnjlaicbcaa.PA
open Go.RowKit Go.Proofs.YtcdgpnjlaicbcaaW.PrintWords Go.Proofs.YtcdgpnjlaicbcaaW.PrintLast Go.Proofs.YtcdgpnjlaicbcaaW.PrintMore
attribute [local go_sem] max2_int min2_int max_two min_two max_three min_three max_four min_four   -- for this text's walks alone
-- thin
set_option linter.unusedVariables false
set_option linter.unusedSimpArgs false

attribute [local go_sem high] eqA28
/-! ### hopmeshlaw05_GeometryTables: function 4 -/
mutual
def hopmeshlaw05_GeometryTables.j0 : Nat → List (List Int) → Bool → List (S28) → List Int → List (S47) → Int → Int → Int → Option (Bool)
 | 0, _, _, _, _, _, _, _, _ => none
 | k + 1, x3, x53, x305000, x305001, x305002, x305003, x305004, x305005 => if x53 = true then (some false) else (hopmeshlaw05_GeometryTables.l0 k x3 (x305000.length : Int) 0 x305000 x305001 x305002 x305003 x305004 x305005)
def hopmeshlaw05_GeometryTables.l0 : Nat → List (List Int) → Int → Int → List (S28) → List Int → List (S47) → Int → Int → Int → Option (Bool)
 | 0, _, _, _, _, _, _, _, _, _ => none
 | k + 1, x3, x56, x57, x305000, x305001, x305002, x305003, x305004, x305005 => if x57 < x56 then ((geometry_Hears.f k x305000 x305001 x305002 x305003 x305004 x305005 x57).bind fun bt312 => (if bt312.2 = 0 then ((slices_IsSorted_int_int.f k bt312.1).bind fun t316 => (if t316 = true then ((slices_Contains_int_int.f k bt312.1 x57).bind fun t317 => (hopmeshlaw05_GeometryTables.j2 k x3 x57 bt312.1 x56 x57 t317 x305000 x305001 x305002 x305003 x305004 x305005)) else (hopmeshlaw05_GeometryTables.j2 k x3 x57 bt312.1 x56 x57 true x305000 x305001 x305002 x305003 x305004 x305005))) else (hopmeshlaw05_GeometryTables.j2 k x3 x57 bt312.1 x56 x57 true x305000 x305001 x305002 x305003 x305004 x305005))) else (some true)
def hopmeshlaw05_GeometryTables.j2 : Nat → List (List Int) → Int → List Int → Int → Int → Bool → List (S28) → List Int → List (S47) → Int → Int → Int → Option (Bool)
 | 0, _, _, _, _, _, _, _, _, _, _, _, _ => none
 | k + 1, x3, x5, x6, x56, x57, x77, x305000, x305001, x305002, x305003, x305004, x305005 => if x77 = true then (some false) else (hopmeshlaw05_GeometryTables.l1 k x3 x5 x6 x56 x57 (x305000.length : Int) 0 x305000 x305001 x305002 x305003 x305004 x305005)
def hopmeshlaw05_GeometryTables.l1 : Nat → List (List Int) → Int → List Int → Int → Int → Int → Int → List (S28) → List Int → List (S47) → Int → Int → Int → Option (Bool)
 | 0, _, _, _, _, _, _, _, _, _, _, _, _, _ => none
 | k + 1, x3, x5, x6, x56, x57, x80, x81, x305000, x305001, x305002, x305003, x305004, x305005 => if x81 < x80 then ((geometry_Between.f x305000 x305001 x305002 x305003 x305004 x305005 x81 x5).bind fun bt318 => (if 0 ≤ x81 then (if x81 < (x305000.length : Int) then (if x81 < (x305001.length : Int) then (if 0 ≤ x5 then (if x5 < (x305000.length : Int) then ((geometry_At.f k x305000 x305001 x305002 x305003 x305004 x305005 ((rd_T28 x305000 x81).f0) ((rd_T28 x305000 x81).f1) (rd x305001 x81) ((rd_T28 x305000 x5).f0) ((rd_T28 x305000 x5).f1)).bind fun bt323 => (if bt318.2 = 0 then (if bt323.2 = 0 then (if x81 < (x3.length : Int) then (if ((rd_L3 x3 x81).length : Int) = (x305000.length : Int) then (if x5 < ((rd_L3 x3 x81).length : Int) then (if (rd (rd_L3 x3 x81) x5) = bt318.1 then (if x81 = x5 then (if bt318.1 = 0 then ((slices_Contains_int_int.f k x6 x81).bind fun t328 => (if (t328 != (decide ((wrap64 (1000 * bt318.1)) ≥ (wrap64 (x305005 * x305004))))) = true then (some false) else (hopmeshlaw05_GeometryTables.l1 k x3 x5 x6 x56 x57 x80 (wrap64 (x81 + 1)) x305000 x305001 x305002 x305003 x305004 x305005))) else (some false)) else (if bt318.1 = bt323.1 then ((slices_Contains_int_int.f k x6 x81).bind fun t329 => (if (t329 != (decide ((wrap64 (1000 * bt318.1)) ≥ (wrap64 (x305005 * x305004))))) = true then (some false) else (hopmeshlaw05_GeometryTables.l1 k x3 x5 x6 x56 x57 x80 (wrap64 (x81 + 1)) x305000 x305001 x305002 x305003 x305004 x305005))) else (some false))) else (some false)) else (none)) else (some false)) else (none)) else (some false)) else (some false))) else (none)) else (none)) else (none)) else (none)) else (none))) else (if 0 ≤ x5 then (if x5 < (x305000.length : Int) then ((geometry_Nearest.f k x305000 x305001 x305002 x305003 x305004 x305005 ((rd_T28 x305000 x5).f0) ((rd_T28 x305000 x5).f1)).bind fun bt331 => (if bt331.2 = 0 then (if bt331.1 < 0 then (some false) else (if bt331.1 > x5 then (some false) else (if 0 ≤ bt331.1 then (if bt331.1 < (x305000.length : Int) then (if (!(((rd_T28 x305000 bt331.1).f0) == ((rd_T28 x305000 x5).f0)) || (!(((rd_T28 x305000 bt331.1).f1) == ((rd_T28 x305000 x5).f1)))) = true then (some false) else (hopmeshlaw05_GeometryTables.l0 k x3 x56 (wrap64 (x57 + 1)) x305000 x305001 x305002 x305003 x305004 x305005)) else (none)) else (none)))) else (some false))) else (none)) else (none))
end
def hopmeshlaw05_GeometryTables.f (k : Nat) (l0_0 : List (S28)) (l0_1 : List Int) (l0_2 : List (S47)) (a0_3 : Int) (a0_4 : Int) (a0_5 : Int) : Option (Bool) := (hopmeshlaw05_awake.f).bind fun t305 => (if t305 = true then ((hopmeshref05_Few.f l0_0 l0_1 l0_2 a0_3 a0_4 a0_5).bind fun t306 => (if t306 = true then ((geometry_Table.f k l0_0 l0_1 l0_2 a0_3 a0_4 a0_5).bind fun bt307 => (if bt307.2 = 0 then (if (bt307.1.length : Int) = (l0_0.length : Int) then (hopmeshlaw05_GeometryTables.j0 k bt307.1 ((l0_1.length : Int) != (l0_0.length : Int)) l0_0 l0_1 l0_2 a0_3 a0_4 a0_5) else (hopmeshlaw05_GeometryTables.j0 k bt307.1 true l0_0 l0_1 l0_2 a0_3 a0_4 a0_5)) else (if bt307.2 = 1 then (if (bt307.1.length : Int) = 0 then ((geometry_Check.f l0_0 l0_1 l0_2 a0_3 a0_4 a0_5).bind fun t311 => (some (t311 == 1))) else (some false)) else (some false)))) else (some true))) else (some false))
theorem hopmeshlaw05_GeometryTables.mono_l : ∀ k, (∀ y0 y1 y2 y3 y4 y5 y6 y7, LeO (hopmeshlaw05_GeometryTables.j0 k y0 y1 y2 y3 y4 y5 y6 y7) (hopmeshlaw05_GeometryTables.j0 (k + 1) y0 y1 y2 y3 y4 y5 y6 y7)) ∧ (∀ y0 y1 y2 y3 y4 y5 y6 y7 y8, LeO (hopmeshlaw05_GeometryTables.l0 k y0 y1 y2 y3 y4 y5 y6 y7 y8) (hopmeshlaw05_GeometryTables.l0 (k + 1) y0 y1 y2 y3 y4 y5 y6 y7 y8)) ∧ (∀ y0 y1 y2 y3 y4 y5 y6 y7 y8 y9 y10 y11, LeO (hopmeshlaw05_GeometryTables.j2 k y0 y1 y2 y3 y4 y5 y6 y7 y8 y9 y10 y11) (hopmeshlaw05_GeometryTables.j2 (k + 1) y0 y1 y2 y3 y4 y5 y6 y7 y8 y9 y10 y11)) ∧ (∀ y0 y1 y2 y3 y4 y5 y6 y7 y8 y9 y10 y11 y12, LeO (hopmeshlaw05_GeometryTables.l1 k y0 y1 y2 y3 y4 y5 y6 y7 y8 y9 y10 y11 y12) (hopmeshlaw05_GeometryTables.l1 (k + 1) y0 y1 y2 y3 y4 y5 y6 y7 y8 y9 y10 y11 y12))
 | 0 => ⟨fun _ _ _ _ _ _ _ _ r h => by simp [hopmeshlaw05_GeometryTables.j0] at h, fun _ _ _ _ _ _ _ _ _ r h => by simp [hopmeshlaw05_GeometryTables.l0] at h, fun _ _ _ _ _ _ _ _ _ _ _ _ r h => by simp [hopmeshlaw05_GeometryTables.j2] at h, fun _ _ _ _ _ _ _ _ _ _ _ _ _ r h => by simp [hopmeshlaw05_GeometryTables.l1] at h⟩
 | k + 1 => by
  obtain ⟨ih0, ih1, ih2, ih3⟩ := hopmeshlaw05_GeometryTables.mono_l k
  refine ⟨?_, ?_, ?_, ?_⟩
  ·intro y0 y1 y2 y3 y4 y5 y6 y7
   unfold hopmeshlaw05_GeometryTables.j0
   repeat' first
   | (with_reducible exact ih0 _ _ _ _ _ _ _ _)
   | (with_reducible exact ih1 _ _ _ _ _ _ _ _ _)
   | (with_reducible exact ih2 _ _ _ _ _ _ _ _ _ _ _ _)
   | (with_reducible exact ih3 _ _ _ _ _ _ _ _ _ _ _ _ _)
   | (with_reducible exact geometry_At.mono _ _ _ _ _ _ _ _ _ _ _ _)
   | (with_reducible exact geometry_Hears.mono _ _ _ _ _ _ _ _)
   | (with_reducible exact geometry_Nearest.mono _ _ _ _ _ _ _ _ _)
   | (with_reducible exact geometry_Table.mono _ _ _ _ _ _ _)
   | (with_reducible exact slices_Contains_int_int.mono _ _ _)
   | (with_reducible exact slices_IsSorted_int_int.mono _ _)
   | (with_reducible exact LeO.refl _)
   | (with_reducible exact LeO.none _)
   | (with_reducible refine LeO.ite ?_ ?_)
   | (with_reducible refine LeO.bind ?_ (fun _ => ?_))
   | exact ih0 _ _ _ _ _ _ _ _
   | exact ih1 _ _ _ _ _ _ _ _ _
   | exact ih2 _ _ _ _ _ _ _ _ _ _ _ _
   | exact ih3 _ _ _ _ _ _ _ _ _ _ _ _ _
   | exact geometry_At.mono _ _ _ _ _ _ _ _ _ _ _ _
   | exact geometry_Hears.mono _ _ _ _ _ _ _ _
   | exact geometry_Nearest.mono _ _ _ _ _ _ _ _ _
   | exact geometry_Table.mono _ _ _ _ _ _ _
   | exact slices_Contains_int_int.mono _ _ _
   | exact slices_IsSorted_int_int.mono _ _
   | exact LeO.none _
   | refine LeO.ite ?_ ?_
   | refine LeO.bind ?_ (fun _ => ?_)
  ·intro y0 y1 y2 y3 y4 y5 y6 y7 y8
   unfold hopmeshlaw05_GeometryTables.l0
   repeat' first
   | (with_reducible exact ih0 _ _ _ _ _ _ _ _)
   | (with_reducible exact ih1 _ _ _ _ _ _ _ _ _)
   | (with_reducible exact ih2 _ _ _ _ _ _ _ _ _ _ _ _)
   | (with_reducible exact ih3 _ _ _ _ _ _ _ _ _ _ _ _ _)
   | (with_reducible exact geometry_At.mono _ _ _ _ _ _ _ _ _ _ _ _)
   | (with_reducible exact geometry_Hears.mono _ _ _ _ _ _ _ _)
   | (with_reducible exact geometry_Nearest.mono _ _ _ _ _ _ _ _ _)
   | (with_reducible exact geometry_Table.mono _ _ _ _ _ _ _)
   | (with_reducible exact slices_Contains_int_int.mono _ _ _)
   | (with_reducible exact slices_IsSorted_int_int.mono _ _)
   | (with_reducible exact LeO.refl _)
   | (with_reducible exact LeO.none _)
   | (with_reducible refine LeO.ite ?_ ?_)
   | (with_reducible refine LeO.bind ?_ (fun _ => ?_))
   | exact ih0 _ _ _ _ _ _ _ _
   | exact ih1 _ _ _ _ _ _ _ _ _
   | exact ih2 _ _ _ _ _ _ _ _ _ _ _ _
   | exact ih3 _ _ _ _ _ _ _ _ _ _ _ _ _
   | exact geometry_At.mono _ _ _ _ _ _ _ _ _ _ _ _
   | exact geometry_Hears.mono _ _ _ _ _ _ _ _
   | exact geometry_Nearest.mono _ _ _ _ _ _ _ _ _
   | exact geometry_Table.mono _ _ _ _ _ _ _
   | exact slices_Contains_int_int.mono _ _ _
   | exact slices_IsSorted_int_int.mono _ _
   | exact LeO.none _
   | refine LeO.ite ?_ ?_
   | refine LeO.bind ?_ (fun _ => ?_)
  ·intro y0 y1 y2 y3 y4 y5 y6 y7 y8 y9 y10 y11
   unfold hopmeshlaw05_GeometryTables.j2
   repeat' first
   | (with_reducible exact ih0 _ _ _ _ _ _ _ _)
   | (with_reducible exact ih1 _ _ _ _ _ _ _ _ _)
   | (with_reducible exact ih2 _ _ _ _ _ _ _ _ _ _ _ _)
   | (with_reducible exact ih3 _ _ _ _ _ _ _ _ _ _ _ _ _)
   | (with_reducible exact geometry_At.mono _ _ _ _ _ _ _ _ _ _ _ _)
   | (with_reducible exact geometry_Hears.mono _ _ _ _ _ _ _ _)
   | (with_reducible exact geometry_Nearest.mono _ _ _ _ _ _ _ _ _)
   | (with_reducible exact geometry_Table.mono _ _ _ _ _ _ _)
   | (with_reducible exact slices_Contains_int_int.mono _ _ _)
   | (with_reducible exact slices_IsSorted_int_int.mono _ _)
   | (with_reducible exact LeO.refl _)
   | (with_reducible exact LeO.none _)
   | (with_reducible refine LeO.ite ?_ ?_)
   | (with_reducible refine LeO.bind ?_ (fun _ => ?_))
   | exact ih0 _ _ _ _ _ _ _ _
   | exact ih1 _ _ _ _ _ _ _ _ _
   | exact ih2 _ _ _ _ _ _ _ _ _ _ _ _
   | exact ih3 _ _ _ _ _ _ _ _ _ _ _ _ _
   | exact geometry_At.mono _ _ _ _ _ _ _ _ _ _ _ _
   | exact geometry_Hears.mono _ _ _ _ _ _ _ _
   | exact geometry_Nearest.mono _ _ _ _ _ _ _ _ _
   | exact geometry_Table.mono _ _ _ _ _ _ _
   | exact slices_Contains_int_int.mono _ _ _
   | exact slices_IsSorted_int_int.mono _ _
   | exact LeO.none _
   | refine LeO.ite ?_ ?_
   | refine LeO.bind ?_ (fun _ => ?_)
  intro y0 y1 y2 y3 y4 y5 y6 y7 y8 y9 y10 y11 y12
  unfold hopmeshlaw05_GeometryTables.l1
  repeat' first
  | (with_reducible exact ih0 _ _ _ _ _ _ _ _)
  | (with_reducible exact ih1 _ _ _ _ _ _ _ _ _)
  | (with_reducible exact ih2 _ _ _ _ _ _ _ _ _ _ _ _)
  | (with_reducible exact ih3 _ _ _ _ _ _ _ _ _ _ _ _ _)
  | (with_reducible exact geometry_At.mono _ _ _ _ _ _ _ _ _ _ _ _)
  | (with_reducible exact geometry_Hears.mono _ _ _ _ _ _ _ _)
  | (with_reducible exact geometry_Nearest.mono _ _ _ _ _ _ _ _ _)
  | (with_reducible exact geometry_Table.mono _ _ _ _ _ _ _)
  | (with_reducible exact slices_Contains_int_int.mono _ _ _)
  | (with_reducible exact slices_IsSorted_int_int.mono _ _)
  | (with_reducible exact LeO.refl _)
  | (with_reducible exact LeO.none _)
  | (with_reducible refine LeO.ite ?_ ?_)
  | (with_reducible refine LeO.bind ?_ (fun _ => ?_))
  | exact ih0 _ _ _ _ _ _ _ _
  | exact ih1 _ _ _ _ _ _ _ _ _
  | exact ih2 _ _ _ _ _ _ _ _ _ _ _ _
  | exact ih3 _ _ _ _ _ _ _ _ _ _ _ _ _
  | exact geometry_At.mono _ _ _ _ _ _ _ _ _ _ _ _
  | exact geometry_Hears.mono _ _ _ _ _ _ _ _
  | exact geometry_Nearest.mono _ _ _ _ _ _ _ _ _
  | exact geometry_Table.mono _ _ _ _ _ _ _
  | exact slices_Contains_int_int.mono _ _ _
  | exact slices_IsSorted_int_int.mono _ _
  | exact LeO.none _
  | refine LeO.ite ?_ ?_
  | refine LeO.bind ?_ (fun _ => ?_)
theorem hopmeshlaw05_GeometryTables.mono : ∀ a0 a1 a2 a3 a4 a5 k, LeO (hopmeshlaw05_GeometryTables.f k a0 a1 a2 a3 a4 a5) (hopmeshlaw05_GeometryTables.f (k + 1) a0 a1 a2 a3 a4 a5) := by
 intro a0 a1 a2 a3 a4 a5 k
 obtain ⟨ih0, ih1, ih2, ih3⟩ := hopmeshlaw05_GeometryTables.mono_l k
 unfold hopmeshlaw05_GeometryTables.f
 repeat' first
  | (with_reducible exact ih0 _ _ _ _ _ _ _ _)
  | (with_reducible exact ih1 _ _ _ _ _ _ _ _ _)
  | (with_reducible exact ih2 _ _ _ _ _ _ _ _ _ _ _ _)
  | (with_reducible exact ih3 _ _ _ _ _ _ _ _ _ _ _ _ _)
  | (with_reducible exact geometry_At.mono _ _ _ _ _ _ _ _ _ _ _ _)
  | (with_reducible exact geometry_Hears.mono _ _ _ _ _ _ _ _)
  | (with_reducible exact geometry_Nearest.mono _ _ _ _ _ _ _ _ _)
  | (with_reducible exact geometry_Table.mono _ _ _ _ _ _ _)
  | (with_reducible exact slices_Contains_int_int.mono _ _ _)
  | (with_reducible exact slices_IsSorted_int_int.mono _ _)
  | (with_reducible exact LeO.refl _)
  | (with_reducible exact LeO.none _)
  | (with_reducible refine LeO.ite ?_ ?_)
  | (with_reducible refine LeO.bind ?_ (fun _ => ?_))
  | exact ih0 _ _ _ _ _ _ _ _
  | exact ih1 _ _ _ _ _ _ _ _ _
  | exact ih2 _ _ _ _ _ _ _ _ _ _ _ _
  | exact ih3 _ _ _ _ _ _ _ _ _ _ _ _ _
  | exact geometry_At.mono _ _ _ _ _ _ _ _ _ _ _ _
  | exact geometry_Hears.mono _ _ _ _ _ _ _ _
  | exact geometry_Nearest.mono _ _ _ _ _ _ _ _ _
  | exact geometry_Table.mono _ _ _ _ _ _ _
  | exact slices_Contains_int_int.mono _ _ _
  | exact slices_IsSorted_int_int.mono _ _
  | exact LeO.none _
  | refine LeO.ite ?_ ?_
  | refine LeO.bind ?_ (fun _ => ?_)
def hopmeshlaw05_GeometryTables.T20 : Bool × List (List Nat × List Nat) := (true, [([], []), ([], []), ([1], [1]), ([], []), ([2, 3], [2, 3]), ([4], [4]), ([], []), ([6], [6]), ([], []), ([7, 8], [7, 8]), ([9], [9]), ([], []), ([11], [11]), ([], []), ([12, 13], [12, 13]), ([14], [14]), ([0, 5, 10, 15], [0, 5, 10, 15]), ([16], [16]), ([17], [17]), ([17], [17]), ([18, 16, 0, 1, 2, 3, 4, 5, 6, 7, 8, 9, 10, 11, 12, 13, 14, 15, 16, 17, 18], [18]), ([19, 20, 0, 1, 2, 3, 4, 5, 6, 7, 8, 9, 10, 11, 12, 13, 14, 15, 16, 17, 18, 19, 20], [19])])
def hopmeshlaw05_GeometryTables.B20 : List Nat := [0, 0, 2, 0, 14, 30, 0, 64, 0, 448, 960, 0, 2048, 0, 14336, 30720, 65535, 131071, 262143, 262143, 524287, 2097151]
theorem hopmeshlaw05_GeometryTables.tab20 : rtab .any (opsOf Try.f4 20) = hopmeshlaw05_GeometryTables.T20 := by kernel_rfl
theorem hopmeshlaw05_GeometryTables.bits20 : waitsOk hopmeshlaw05_GeometryTables.T20.2 hopmeshlaw05_GeometryTables.B20 = true := by kernel_rfl
def hopmeshlaw05_GeometryTables.T21 : Bool × List (List Nat × List Nat) := (true, [([], []), ([0], [0]), ([1], [1]), ([2], [2]), ([3, 2], [2, 3]), ([2, 4], [2, 4]), ([5, 2], [5]), ([6], [6]), ([6], [6]), ([7, 8, 6], [6, 7, 8]), ([9, 6], [6, 9]), ([10, 6], [6, 10]), ([6], [6]), ([12, 6], [6, 12]), ([13, 6], [6, 13]), ([11, 14, 6], [6, 11, 14]), ([6, 15], [6, 15]), ([16, 6], [16]), ([17], [17]), ([17], [17]), ([18, 19, 17], [17, 18, 19]), ([20, 17], [17, 20]), ([17], [17]), ([21, 22, 17], [17, 21, 22]), ([23, 17], [17, 23]), ([17], [17]), ([24, 25, 17], [17, 24, 25]), ([17, 26], [17, 26]), ([27, 17], [27]), ([28], [28]), ([28], [28]), ([29, 30, 28], [28, 29, 30]), ([31, 28, 28], [28, 31]), ([32], [32]), ([32], [32]), ([33, 34, 32], [32, 33, 34]), ([32, 35, 28], [28, 32, 35]), ([28, 36], [28, 36]), ([37, 32], [37]), ([38], [38]), ([38], [38]), ([39, 40, 38], [38, 39, 40]), ([41, 38, 38], [38, 41]), ([42], [42]), ([43, 42], [42, 43]), ([42, 44, 38], [38, 42, 44]), ([38, 45], [38, 45]), ([46, 42], [46]), ([47], [47]), ([47], [47]), ([48, 49, 47, 47], [47, 48, 49]), ([47], [47]), ([51, 47], [47, 51]), ([47], [47]), ([53, 47], [47, 53]), ([47], [47]), ([55, 47], [47, 55]), ([54, 56, 47], [47, 54, 56]), ([52, 57, 47], [47, 52, 57]), ([50, 58, 47], [47, 50, 58]), ([47, 59], [47, 59])])
def hopmeshlaw05_GeometryTables.B21 : List Nat := [0, 1, 3, 7, 15, 31, 63, 127, 127, 511, 1023, 2047, 127, 4223, 12415, 32767, 65535, 131071, 262143, 262143, 1048575, 2097151, 262143, 8388607, 16777215, 262143, 67108863, 134217727, 268435455, 536870911, 536870911, 2147483647, 4294967295, 8589934591, 8589934591, 34359738367, 68719476735, 137438953471, 274877906943, 549755813887, 549755813887, 2199023255551, 4398046511103, 8796093022207, 17592186044415, 35184372088831, 70368744177663, 140737488355327, 281474976710655, 281474976710655, 1125899906842623, 281474976710655, 2533274790395903, 281474976710655, 9288674231451647, 281474976710655, 36310271995674623, 135389463797825535, 286260051314737151, 576460752303423487, 1152921504606846975]
theorem hopmeshlaw05_GeometryTables.tab21 : rtab .any (opsOf Try.f4 21) = hopmeshlaw05_GeometryTables.T21 := by kernel_rfl
theorem hopmeshlaw05_GeometryTables.bits21 : waitsOk hopmeshlaw05_GeometryTables.T21.2 hopmeshlaw05_GeometryTables.B21 = true := by kernel_rfl
def hopmeshlaw05_GeometryTables.T24 : Bool × List (List Nat × List Nat) := (true, [([], []), ([], []), ([1], [1]), ([], []), ([2, 3], [2, 3]), ([4], [4]), ([0, 5], [0, 5]), ([6], [6]), ([7], [7]), ([7], [7]), ([8, 6, 0, 1, 2, 3, 4, 5, 6, 7, 8], [8]), ([9, 10, 0, 1, 2, 3, 4, 5, 6, 7, 8, 9, 10], [9])])
def hopmeshlaw05_GeometryTables.B24 : List Nat := [0, 0, 2, 0, 14, 30, 63, 127, 255, 255, 511, 2047]
theorem hopmeshlaw05_GeometryTables.tab24 : rtab .any (opsOf Try.f4 24) = hopmeshlaw05_GeometryTables.T24 := by kernel_rfl
theorem hopmeshlaw05_GeometryTables.bits24 : waitsOk hopmeshlaw05_GeometryTables.T24.2 hopmeshlaw05_GeometryTables.B24 = true := by kernel_rfl
def hopmeshlaw05_GeometryTables.T25 : Bool × List (List Nat × List Nat) := (true, [([], []), ([0], [0]), ([1], [1]), ([2], [2]), ([3, 2], [2, 3]), ([2, 4], [2, 4]), ([5, 2], [5]), ([6], [6]), ([6], [6]), ([7, 8, 6], [6, 7, 8]), ([6, 9], [6, 9]), ([10, 6], [10]), ([11], [11]), ([12, 11], [11, 12]), ([11], [11]), ([13, 14, 11], [11, 13, 14]), ([15, 11], [11, 15]), ([11], [11]), ([17, 11], [11, 17]), ([11], [11]), ([18, 19, 11], [11, 18, 19]), ([20, 11], [11, 20]), ([16, 21, 11], [11, 16, 21]), ([11, 22], [11, 22])])
def hopmeshlaw05_GeometryTables.B25 : List Nat := [0, 1, 3, 7, 15, 31, 63, 127, 127, 511, 1023, 2047, 4095, 8191, 4095, 32767, 65535, 4095, 135167, 4095, 921599, 1970175, 4194303, 8388607]
theorem hopmeshlaw05_GeometryTables.tab25 : rtab .any (opsOf Try.f4 25) = hopmeshlaw05_GeometryTables.T25 := by kernel_rfl
theorem hopmeshlaw05_GeometryTables.bits25 : waitsOk hopmeshlaw05_GeometryTables.T25.2 hopmeshlaw05_GeometryTables.B25 = true := by kernel_rfl

end Go.Proofs.Ytcdgpnjlaicbcaa.PA
