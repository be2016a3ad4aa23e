-- Written by a program of this session (mkprint.py: the kit's print, changed) for this claim. Not trusted: Lean checks it.
import Derived.Test.YtcdgpnjlaicbcaaPAx0
import Derived.Test.YtcdgpnjlaicbcaaPAx6
import Derived.Test.YtcdgpnjlaicbcaaPAx11
namespace Go.Proofs.Ytcdgpnjlaicbcaa.PA
open Go.RowKit Go.Proofs.YtcdgpnjlaicbcaaW.PrintWords Go.Proofs.YtcdgpnjlaicbcaaW.PrintLast Go.Proofs.YtcdgpnjlaicbcaaW.PrintMore
attribute [local go_sem] max2_int min2_int max_two min_two max_three min_three max_four min_four   -- for this text's walks alone
-- thin
set_option linter.unusedVariables false
set_option linter.unusedSimpArgs false

/-! ### hopmeshlaw05_GeometryCrossings: function 7 -/
mutual
def hopmeshlaw05_GeometryCrossings.l0 : Nat → List (S28) → Int → Int → Int → Int → Int → Int → Int → Int → Int → Int → Int → Option (Bool)
 | 0, _, _, _, _, _, _, _, _, _, _, _, _ => none
 | k + 1, x21, x22, x23, x416000, x416001, x417000, x417001, x418000, x418001, x418002, x418003, x418004 => if x23 < x22 then (if 0 ≤ x23 then (if x23 < (x21.length : Int) then (if ((rd_T28 x21 x23).f0) < 0 then (some true) else (if ((rd_T28 x21 x23).f0) > 10000 then (some true) else (if ((rd_T28 x21 x23).f1) < 0 then (some true) else (if ((rd_T28 x21 x23).f1) > 10000 then (some true) else (hopmeshlaw05_GeometryCrossings.l0 k x21 x22 (wrap64 (x23 + 1)) x416000 x416001 x417000 x417001 x418000 x418001 x418002 x418003 x418004))))) else (none)) else (none)) else ((geometry_Crosses.f k (wrap64 (2 * x416000)) (wrap64 (2 * x416001)) (wrap64 (2 * x417000)) (wrap64 (2 * x417001)) (wrap64 (x416000 + x417000)) (wrap64 (x416001 + x417001)) x418000 x418001 0).bind fun t427 => (if t427 = true then ((geometry_Crosses.f k (wrap64 (2 * x416000)) (wrap64 (2 * x416001)) (wrap64 (2 * x417000)) (wrap64 (2 * x417001)) x418002 x418003 (wrap64 (x416000 + x417000)) (wrap64 (x416001 + x417001)) 0).bind fun t428 => (if t428 = true then ((geometry_Crosses.f k x416000 x416001 x417000 x417001 x416000 x416001 x418000 x418001 0).bind fun t429 => (if t429 = true then ((geometry_Crosses.f k x416000 x416001 x417000 x417001 x418002 x418003 x417000 x417001 0).bind fun t430 => (hopmeshlaw05_GeometryCrossings.j1 k (!t430) x416000 x416001 x417000 x417001 x418000 x418001 x418002 x418003 x418004)) else (hopmeshlaw05_GeometryCrossings.j1 k true x416000 x416001 x417000 x417001 x418000 x418001 x418002 x418003 x418004))) else (hopmeshlaw05_GeometryCrossings.j1 k true x416000 x416001 x417000 x417001 x418000 x418001 x418002 x418003 x418004))) else (hopmeshlaw05_GeometryCrossings.j1 k true x416000 x416001 x417000 x417001 x418000 x418001 x418002 x418003 x418004)))
def hopmeshlaw05_GeometryCrossings.j1 : Nat → Bool → Int → Int → Int → Int → Int → Int → Int → Int → Int → Option (Bool)
 | 0, _, _, _, _, _, _, _, _, _, _ => none
 | k + 1, x108, x416000, x416001, x417000, x417001, x418000, x418001, x418002, x418003, x418004 => if x108 = true then (some false) else (if (mx x416000 x417000) < (mn x418000 x418002) then ((geometry_Crosses.f k x416000 x416001 x417000 x417001 x418000 x418001 x418002 x418003 x418004).bind fun t431 => (some (!t431))) else (if (mx x418000 x418002) < (mn x416000 x417000) then ((geometry_Crosses.f k x416000 x416001 x417000 x417001 x418000 x418001 x418002 x418003 x418004).bind fun t432 => (some (!t432))) else (if (mx x416001 x417001) < (mn x418001 x418003) then ((geometry_Crosses.f k x416000 x416001 x417000 x417001 x418000 x418001 x418002 x418003 x418004).bind fun t433 => (some (!t433))) else (if ((mx x418001 x418003) < (mn x416001 x417001)) then ((geometry_Crosses.f k x416000 x416001 x417000 x417001 x418000 x418001 x418002 x418003 x418004).bind fun t434 => (some (!t434))) else (some true)))))
end
def hopmeshlaw05_GeometryCrossings.f (k : Nat) (a0_0 : Int) (a0_1 : Int) (a1_0 : Int) (a1_1 : Int) (a2_0 : Int) (a2_1 : Int) (a2_2 : Int) (a2_3 : Int) (a2_4 : Int) : Option (Bool) := (hopmeshlaw05_awake.f).bind fun t418 => (if t418 = true then ((some (([(⟨a0_0, a0_1⟩ : S28), (⟨a1_0, a1_1⟩ : S28), (⟨a2_0, a2_1⟩ : S28), (⟨a2_2, a2_3⟩ : S28)] : List (S28)) : List (S28))).bind fun y419 => (hopmeshlaw05_GeometryCrossings.l0 k y419 (y419.length : Int) 0 a0_0 a0_1 a1_0 a1_1 a2_0 a2_1 a2_2 a2_3 a2_4)) else (some false))
theorem hopmeshlaw05_GeometryCrossings.mono_l : ∀ k, (∀ y0 y1 y2 y3 y4 y5 y6 y7 y8 y9 y10 y11, LeO (hopmeshlaw05_GeometryCrossings.l0 k y0 y1 y2 y3 y4 y5 y6 y7 y8 y9 y10 y11) (hopmeshlaw05_GeometryCrossings.l0 (k + 1) y0 y1 y2 y3 y4 y5 y6 y7 y8 y9 y10 y11)) ∧ (∀ y0 y1 y2 y3 y4 y5 y6 y7 y8 y9, LeO (hopmeshlaw05_GeometryCrossings.j1 k y0 y1 y2 y3 y4 y5 y6 y7 y8 y9) (hopmeshlaw05_GeometryCrossings.j1 (k + 1) y0 y1 y2 y3 y4 y5 y6 y7 y8 y9))
 | 0 => ⟨fun _ _ _ _ _ _ _ _ _ _ _ _ r h => by simp [hopmeshlaw05_GeometryCrossings.l0] at h, fun _ _ _ _ _ _ _ _ _ _ r h => by simp [hopmeshlaw05_GeometryCrossings.j1] at h⟩
 | k + 1 => by
  obtain ⟨ih0, ih1⟩ := hopmeshlaw05_GeometryCrossings.mono_l k
  refine ⟨?_, ?_⟩
  rotate_left
  ·intro y0 y1 y2 y3 y4 y5 y6 y7 y8 y9
   unfold hopmeshlaw05_GeometryCrossings.j1
   repeat' first
   | (with_reducible exact ih0 _ _ _ _ _ _ _ _ _ _ _ _)
   | (with_reducible exact ih1 _ _ _ _ _ _ _ _ _ _)
   | (with_reducible exact geometry_Crosses.mono _ _ _ _ _ _ _ _ _ _)
   | (with_reducible exact LeO.refl _)
   | (with_reducible exact LeO.none _)
   | (with_reducible refine LeO.ite ?_ ?_)
   | (with_reducible refine LeO.bind ?_ (fun _ => ?_))
   | exact ih0 _ _ _ _ _ _ _ _ _ _ _ _
   | exact ih1 _ _ _ _ _ _ _ _ _ _
   | exact geometry_Crosses.mono _ _ _ _ _ _ _ _ _ _
   | exact LeO.none _
   | refine LeO.ite ?_ ?_
   | refine LeO.bind ?_ (fun _ => ?_)
  intro y0 y1 y2 y3 y4 y5 y6 y7 y8 y9 y10 y11
  unfold hopmeshlaw05_GeometryCrossings.l0
  repeat' first
  | (with_reducible exact ih0 _ _ _ _ _ _ _ _ _ _ _ _)
  | (with_reducible exact ih1 _ _ _ _ _ _ _ _ _ _)
  | (with_reducible exact geometry_Crosses.mono _ _ _ _ _ _ _ _ _ _)
  | (with_reducible exact LeO.refl _)
  | (with_reducible exact LeO.none _)
  | (with_reducible refine LeO.ite ?_ ?_)
  | (with_reducible refine LeO.bind ?_ (fun _ => ?_))
  | exact ih0 _ _ _ _ _ _ _ _ _ _ _ _
  | exact ih1 _ _ _ _ _ _ _ _ _ _
  | exact geometry_Crosses.mono _ _ _ _ _ _ _ _ _ _
  | exact LeO.none _
  | refine LeO.ite ?_ ?_
  | refine LeO.bind ?_ (fun _ => ?_)
theorem hopmeshlaw05_GeometryCrossings.mono : ∀ a0 a1 a2 a3 a4 a5 a6 a7 a8 k, LeO (hopmeshlaw05_GeometryCrossings.f k a0 a1 a2 a3 a4 a5 a6 a7 a8) (hopmeshlaw05_GeometryCrossings.f (k + 1) a0 a1 a2 a3 a4 a5 a6 a7 a8) := by
 intro a0 a1 a2 a3 a4 a5 a6 a7 a8 k
 obtain ⟨ih0, ih1⟩ := hopmeshlaw05_GeometryCrossings.mono_l k
 unfold hopmeshlaw05_GeometryCrossings.f
 repeat' first
  | (with_reducible exact ih0 _ _ _ _ _ _ _ _ _ _ _ _)
  | (with_reducible exact ih1 _ _ _ _ _ _ _ _ _ _)
  | (with_reducible exact geometry_Crosses.mono _ _ _ _ _ _ _ _ _ _)
  | (with_reducible exact LeO.refl _)
  | (with_reducible exact LeO.none _)
  | (with_reducible refine LeO.ite ?_ ?_)
  | (with_reducible refine LeO.bind ?_ (fun _ => ?_))
  | exact ih0 _ _ _ _ _ _ _ _ _ _ _ _
  | exact ih1 _ _ _ _ _ _ _ _ _ _
  | exact geometry_Crosses.mono _ _ _ _ _ _ _ _ _ _
  | exact LeO.none _
  | refine LeO.ite ?_ ?_
  | refine LeO.bind ?_ (fun _ => ?_)
def hopmeshlaw05_GeometryCrossings.T9 : Bool × List (List Nat × List Nat) := (true, [([], []), ([0], [0]), ([1], [1]), ([], []), ([3], [3]), ([4], [4]), ([2, 5], [2, 5]), ([], []), ([7], [7]), ([8], [8]), ([], []), ([10], [10]), ([11], [11]), ([9, 12], [9, 12]), ([], []), ([], []), ([14, 6, 0, 1, 2, 3, 4, 5, 6, 14, 15], [6, 14]), ([15, 13, 16, 0, 1, 2, 3, 4, 5, 6, 7, 8, 9, 10, 11, 12, 13, 14, 15, 16], [13, 15])])
def hopmeshlaw05_GeometryCrossings.B9 : List Nat := [0, 1, 3, 0, 8, 24, 63, 0, 128, 384, 0, 1024, 3072, 8064, 0, 0, 49279, 131071]
theorem hopmeshlaw05_GeometryCrossings.tab9 : rtab .any (opsOf Try.f7 9) = hopmeshlaw05_GeometryCrossings.T9 := by kernel_rfl
theorem hopmeshlaw05_GeometryCrossings.bits9 : waitsOk hopmeshlaw05_GeometryCrossings.T9.2 hopmeshlaw05_GeometryCrossings.B9 = true := by kernel_rfl

end Go.Proofs.Ytcdgpnjlaicbcaa.PA
