-- Written by a program of this session (mkprint.py: the kit's print, changed) for this claim. Not trusted: Lean checks it.
import Derived.Test.YtcdgpnjlaicbcaaPAx0
import Derived.Test.YtcdgpnjlaicbcaaPAx6
import Derived.Test.YtcdgpnjlaicbcaaPAx11
import Derived.Test.YtcdgpnjlaicbcaaPAx30
import Derived.Test.YtcdgpnjlaicbcaaPAx43
import Derived.Test.YtcdgpnjlaicbcaaPAx47
namespace Go.Proofs.Ytcdgpnjlaicbcaa.PA
open Go.RowKit Go.Proofs.YtcdgpnjlaicbcaaW.PrintWords Go.Proofs.YtcdgpnjlaicbcaaW.PrintLast Go.Proofs.YtcdgpnjlaicbcaaW.PrintMore
attribute [local go_sem] max2_int min2_int max_two min_two max_three min_three max_four min_four   -- for this text's walks alone
-- thin
set_option linter.unusedVariables false
set_option linter.unusedSimpArgs false

/-! ### hopmeshlaw05_GeometryWalls: function 9 -/
mutual
def hopmeshlaw05_GeometryWalls.j0 : Nat → Bool → List (S28) → List Int → List (S47) → Int → Int → Int → Int → Int → Int → Int → Int → Int → Int → Int → Int → Int → Int → Int → Option (Bool)
 | 0, _, _, _, _, _, _, _, _, _, _, _, _, _, _, _, _, _, _, _ => none
 | k + 1, x22, x398000, x398001, x398002, x398003, x398004, x398005, x399000, x399001, x399002, x399003, x399004, x400000, x400001, x400002, x400003, x400004, x400005, x400006 => if x22 = true then (some true) else ((geometry_At.f k x398000 x398001 x398002 x398003 x398004 x398005 x400000 x400001 x400004 x400002 x400003).bind fun bt402 => (if bt402.2 = 0 then (if bt402.1 < 0 then (hopmeshlaw05_GeometryWalls.j1 k bt402.1 true x398000 x398001 x398002 x398003 x398004 x398005 x399000 x399001 x399002 x399003 x399004 x400000 x400001 x400002 x400003 x400004 x400005 x400006) else (hopmeshlaw05_GeometryWalls.j1 k bt402.1 (decide (bt402.1 > x400004)) x398000 x398001 x398002 x398003 x398004 x398005 x399000 x399001 x399002 x399003 x399004 x400000 x400001 x400002 x400003 x400004 x400005 x400006)) else (some (bt402.1 == 0))))
def hopmeshlaw05_GeometryWalls.j1 : Nat → Int → Bool → List (S28) → List Int → List (S47) → Int → Int → Int → Int → Int → Int → Int → Int → Int → Int → Int → Int → Int → Int → Int → Option (Bool)
 | 0, _, _, _, _, _, _, _, _, _, _, _, _, _, _, _, _, _, _, _, _ => none
 | k + 1, x7, x45, x398000, x398001, x398002, x398003, x398004, x398005, x399000, x399001, x399002, x399003, x399004, x400000, x400001, x400002, x400003, x400004, x400005, x400006 => if x45 = true then (some false) else ((slices_Clone_api_Wall_api_Wall.f x398002).bind fun t405 => ((some (([(⟨(⟨x399000, x399001⟩ : S28), (⟨x399002, x399003⟩ : S28), x399004⟩ : S47)] : List (S47)) : List (S47))).bind fun y408 => (if t405.length + y408.length < 3518437208883 then ((some (t405 ++ y408 : List (S47))).bind fun y411 => ((geometry_At.f k x398000 x398001 y411 x398003 x398004 x398005 x400000 x400001 x400004 x400002 x400003).bind fun bt414 => (if bt414.2 = 0 then ((geometry_Crosses.f k x400000 x400001 x400002 x400003 x399000 x399001 x399002 x399003 x399004).bind fun t417 => (if t417 = true then (if x399004 = 1000 then (some (bt414.1 == x7)) else (some (decide (bt414.1 ≤ x7)))) else (some (bt414.1 == x7)))) else (if bt414.2 = 1 then ((geometry_Check.f x398000 x398001 y411 x398003 x398004 x398005).bind fun t416 => (some (t416 == 1))) else (some false))))) else (none))))
end
def hopmeshlaw05_GeometryWalls.f (k : Nat) (l0_0 : List (S28)) (l0_1 : List Int) (l0_2 : List (S47)) (a0_3 : Int) (a0_4 : Int) (a0_5 : Int) (a1_0 : Int) (a1_1 : Int) (a1_2 : Int) (a1_3 : Int) (a1_4 : Int) (a2_0 : Int) (a2_1 : Int) (a2_2 : Int) (a2_3 : Int) (a2_4 : Int) (a2_5 : Int) (a2_6 : Int) : Option (Bool) := (hopmeshlaw05_awake.f).bind fun t400 => (if t400 = true then ((hopmeshref05_Few.f l0_0 l0_1 l0_2 a0_3 a0_4 a0_5).bind fun t401 => (if t401 = true then (hopmeshlaw05_GeometryWalls.j0 k (decide ((l0_2.length : Int) > 31)) l0_0 l0_1 l0_2 a0_3 a0_4 a0_5 a1_0 a1_1 a1_2 a1_3 a1_4 a2_0 a2_1 a2_2 a2_3 a2_4 a2_5 a2_6) else (hopmeshlaw05_GeometryWalls.j0 k true l0_0 l0_1 l0_2 a0_3 a0_4 a0_5 a1_0 a1_1 a1_2 a1_3 a1_4 a2_0 a2_1 a2_2 a2_3 a2_4 a2_5 a2_6))) else (some false))
theorem hopmeshlaw05_GeometryWalls.mono_l : ∀ k, (∀ y0 y1 y2 y3 y4 y5 y6 y7 y8 y9 y10 y11 y12 y13 y14 y15 y16 y17 y18, LeO (hopmeshlaw05_GeometryWalls.j0 k y0 y1 y2 y3 y4 y5 y6 y7 y8 y9 y10 y11 y12 y13 y14 y15 y16 y17 y18) (hopmeshlaw05_GeometryWalls.j0 (k + 1) y0 y1 y2 y3 y4 y5 y6 y7 y8 y9 y10 y11 y12 y13 y14 y15 y16 y17 y18)) ∧ (∀ y0 y1 y2 y3 y4 y5 y6 y7 y8 y9 y10 y11 y12 y13 y14 y15 y16 y17 y18 y19, LeO (hopmeshlaw05_GeometryWalls.j1 k y0 y1 y2 y3 y4 y5 y6 y7 y8 y9 y10 y11 y12 y13 y14 y15 y16 y17 y18 y19) (hopmeshlaw05_GeometryWalls.j1 (k + 1) y0 y1 y2 y3 y4 y5 y6 y7 y8 y9 y10 y11 y12 y13 y14 y15 y16 y17 y18 y19))
 | 0 => ⟨fun _ _ _ _ _ _ _ _ _ _ _ _ _ _ _ _ _ _ _ r h => by simp [hopmeshlaw05_GeometryWalls.j0] at h, fun _ _ _ _ _ _ _ _ _ _ _ _ _ _ _ _ _ _ _ _ r h => by simp [hopmeshlaw05_GeometryWalls.j1] at h⟩
 | k + 1 => by
  obtain ⟨ih0, ih1⟩ := hopmeshlaw05_GeometryWalls.mono_l k
  refine ⟨?_, ?_⟩
  ·intro y0 y1 y2 y3 y4 y5 y6 y7 y8 y9 y10 y11 y12 y13 y14 y15 y16 y17 y18
   unfold hopmeshlaw05_GeometryWalls.j0
   repeat' first
   | (with_reducible exact ih0 _ _ _ _ _ _ _ _ _ _ _ _ _ _ _ _ _ _ _)
   | (with_reducible exact ih1 _ _ _ _ _ _ _ _ _ _ _ _ _ _ _ _ _ _ _ _)
   | (with_reducible exact geometry_At.mono _ _ _ _ _ _ _ _ _ _ _ _)
   | (with_reducible exact geometry_Crosses.mono _ _ _ _ _ _ _ _ _ _)
   | (with_reducible exact LeO.refl _)
   | (with_reducible exact LeO.none _)
   | (with_reducible refine LeO.ite ?_ ?_)
   | (with_reducible refine LeO.bind ?_ (fun _ => ?_))
   | exact ih0 _ _ _ _ _ _ _ _ _ _ _ _ _ _ _ _ _ _ _
   | exact ih1 _ _ _ _ _ _ _ _ _ _ _ _ _ _ _ _ _ _ _ _
   | exact geometry_At.mono _ _ _ _ _ _ _ _ _ _ _ _
   | exact geometry_Crosses.mono _ _ _ _ _ _ _ _ _ _
   | exact LeO.none _
   | refine LeO.ite ?_ ?_
   | refine LeO.bind ?_ (fun _ => ?_)
  intro y0 y1 y2 y3 y4 y5 y6 y7 y8 y9 y10 y11 y12 y13 y14 y15 y16 y17 y18 y19
  unfold hopmeshlaw05_GeometryWalls.j1
  repeat' first
  | (with_reducible exact ih0 _ _ _ _ _ _ _ _ _ _ _ _ _ _ _ _ _ _ _)
  | (with_reducible exact ih1 _ _ _ _ _ _ _ _ _ _ _ _ _ _ _ _ _ _ _ _)
  | (with_reducible exact geometry_At.mono _ _ _ _ _ _ _ _ _ _ _ _)
  | (with_reducible exact geometry_Crosses.mono _ _ _ _ _ _ _ _ _ _)
  | (with_reducible exact LeO.refl _)
  | (with_reducible exact LeO.none _)
  | (with_reducible refine LeO.ite ?_ ?_)
  | (with_reducible refine LeO.bind ?_ (fun _ => ?_))
  | exact ih0 _ _ _ _ _ _ _ _ _ _ _ _ _ _ _ _ _ _ _
  | exact ih1 _ _ _ _ _ _ _ _ _ _ _ _ _ _ _ _ _ _ _ _
  | exact geometry_At.mono _ _ _ _ _ _ _ _ _ _ _ _
  | exact geometry_Crosses.mono _ _ _ _ _ _ _ _ _ _
  | exact LeO.none _
  | refine LeO.ite ?_ ?_
  | refine LeO.bind ?_ (fun _ => ?_)
theorem hopmeshlaw05_GeometryWalls.mono : ∀ a0 a1 a2 a3 a4 a5 a6 a7 a8 a9 a10 a11 a12 a13 a14 a15 a16 a17 k, LeO (hopmeshlaw05_GeometryWalls.f k a0 a1 a2 a3 a4 a5 a6 a7 a8 a9 a10 a11 a12 a13 a14 a15 a16 a17) (hopmeshlaw05_GeometryWalls.f (k + 1) a0 a1 a2 a3 a4 a5 a6 a7 a8 a9 a10 a11 a12 a13 a14 a15 a16 a17) := by
 intro a0 a1 a2 a3 a4 a5 a6 a7 a8 a9 a10 a11 a12 a13 a14 a15 a16 a17 k
 obtain ⟨ih0, ih1⟩ := hopmeshlaw05_GeometryWalls.mono_l k
 unfold hopmeshlaw05_GeometryWalls.f
 repeat' first
  | (with_reducible exact ih0 _ _ _ _ _ _ _ _ _ _ _ _ _ _ _ _ _ _ _)
  | (with_reducible exact ih1 _ _ _ _ _ _ _ _ _ _ _ _ _ _ _ _ _ _ _ _)
  | (with_reducible exact geometry_At.mono _ _ _ _ _ _ _ _ _ _ _ _)
  | (with_reducible exact geometry_Crosses.mono _ _ _ _ _ _ _ _ _ _)
  | (with_reducible exact LeO.refl _)
  | (with_reducible exact LeO.none _)
  | (with_reducible refine LeO.ite ?_ ?_)
  | (with_reducible refine LeO.bind ?_ (fun _ => ?_))
  | exact ih0 _ _ _ _ _ _ _ _ _ _ _ _ _ _ _ _ _ _ _
  | exact ih1 _ _ _ _ _ _ _ _ _ _ _ _ _ _ _ _ _ _ _ _
  | exact geometry_At.mono _ _ _ _ _ _ _ _ _ _ _ _
  | exact geometry_Crosses.mono _ _ _ _ _ _ _ _ _ _
  | exact LeO.none _
  | refine LeO.ite ?_ ?_
  | refine LeO.bind ?_ (fun _ => ?_)
def hopmeshlaw05_GeometryWalls.T11 : Bool × List (List Nat × List Nat) := (true, [([], []), ([0], [0]), ([1], [1]), ([], []), ([3], [3]), ([2, 4, 2], [2, 4]), ([0, 1, 2, 3, 4, 5], []), ([6, 5, 5, 0, 1, 2, 3, 4, 5], [5, 6])])
def hopmeshlaw05_GeometryWalls.B11 : List Nat := [0, 1, 3, 0, 8, 31, 63, 127]
theorem hopmeshlaw05_GeometryWalls.tab11 : rtab .any (opsOf Try.f9 11) = hopmeshlaw05_GeometryWalls.T11 := by kernel_rfl
theorem hopmeshlaw05_GeometryWalls.bits11 : waitsOk hopmeshlaw05_GeometryWalls.T11.2 hopmeshlaw05_GeometryWalls.B11 = true := by kernel_rfl

end Go.Proofs.Ytcdgpnjlaicbcaa.PA
