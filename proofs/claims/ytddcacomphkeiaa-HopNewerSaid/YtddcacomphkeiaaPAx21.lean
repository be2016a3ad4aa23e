-- Written by a program of this session (mkprint.py: the kit's print, changed) for this claim. Not trusted: Lean checks it.
import Derived.Test.YtddcacomphkeiaaPAx0
import Derived.Test.YtddcacomphkeiaaPAx6
import Derived.Test.YtddcacomphkeiaaPAx11
import Derived.Test.YtddcacomphkeiaaPAx30
import Derived.Test.YtddcacomphkeiaaPAx32
import Derived.Test.YtddcacomphkeiaaPAx33
namespace Go.Proofs.Ytddcacomphkeiaa.PA
open Go.RowKit Go.Proofs.YtddcacomphkeiaaW.PrintWords Go.Proofs.YtddcacomphkeiaaW.PrintLast Go.Proofs.YtddcacomphkeiaaW.PrintMore
attribute [local go_sem] max2_int min2_int max_two min_two max_three min_three max_four min_four   -- for this text's walks alone
set_option linter.unusedVariables false
set_option linter.unusedSimpArgs false

/-! ### hopmeshlaw11_HopNewer: function 8 -/
mutual
def hopmeshlaw11_HopNewer.j0 : Nat → Int → Int → Int → Bool → Int → Int → Int → List Int → Option (Bool)
  | 0, _, _, _, _, _, _, _, _ => none
  | k + 1, x1, x7, x8, x35, x310000, x310001, x310002, x310003 => if x35 = true then ((hop_Newer.f x7 x8).bind fun t312 => (if t312 = true then (if (mx (wrap64 (x7 - x8)) (wrap64 (x8 - x7))) = 0 then (if (true != false) = true then (hopmeshlaw11_HopNewer.j1 k x1 true x310000 x310001 x310002 x310003) else ((hop_Newer.f x7 x8).bind fun t313 => (if t313 = true then ((hop_Newer.f x8 x7).bind fun t314 => (hopmeshlaw11_HopNewer.j1 k x1 t314 x310000 x310001 x310002 x310003)) else (hopmeshlaw11_HopNewer.j1 k x1 false x310000 x310001 x310002 x310003)))) else (if (true != ((mx (wrap64 (x7 - x8)) (wrap64 (x8 - x7))) != 128)) = true then (hopmeshlaw11_HopNewer.j1 k x1 true x310000 x310001 x310002 x310003) else ((hop_Newer.f x7 x8).bind fun t315 => (if t315 = true then ((hop_Newer.f x8 x7).bind fun t316 => (hopmeshlaw11_HopNewer.j1 k x1 t316 x310000 x310001 x310002 x310003)) else (hopmeshlaw11_HopNewer.j1 k x1 false x310000 x310001 x310002 x310003))))) else ((hop_Newer.f x8 x7).bind fun t317 => (if (mx (wrap64 (x7 - x8)) (wrap64 (x8 - x7))) = 0 then (if (t317 != false) = true then (hopmeshlaw11_HopNewer.j1 k x1 true x310000 x310001 x310002 x310003) else ((hop_Newer.f x7 x8).bind fun t318 => (if t318 = true then ((hop_Newer.f x8 x7).bind fun t319 => (hopmeshlaw11_HopNewer.j1 k x1 t319 x310000 x310001 x310002 x310003)) else (hopmeshlaw11_HopNewer.j1 k x1 false x310000 x310001 x310002 x310003)))) else (if (t317 != ((mx (wrap64 (x7 - x8)) (wrap64 (x8 - x7))) != 128)) = true then (hopmeshlaw11_HopNewer.j1 k x1 true x310000 x310001 x310002 x310003) else ((hop_Newer.f x7 x8).bind fun t320 => (if t320 = true then ((hop_Newer.f x8 x7).bind fun t321 => (hopmeshlaw11_HopNewer.j1 k x1 t321 x310000 x310001 x310002 x310003)) else (hopmeshlaw11_HopNewer.j1 k x1 false x310000 x310001 x310002 x310003)))))))) else ((hop_Newer.f x7 x8).bind fun t322 => (if t322 = true then (some false) else (hopmeshlaw11_HopNewer.j2 k x1 x310000 x310001 x310002 x310003)))
def hopmeshlaw11_HopNewer.j2 : Nat → Int → Int → Int → Int → List Int → Option (Bool)
  | 0, _, _, _, _, _ => none
  | k + 1, x1, x310000, x310001, x310002, x310003 => (slices_Clone_int_int.f x310003).bind fun t323 => ((hop_Next.f k x310000 x310001 x310002 x310003 x1 t323).bind fun bt326 => (if bt326.2.2.2.2 = 0 then ((hop_Newer.f bt326.1 x310000).bind fun t334 => (if t334 = true then ((hop_Newer.f x310000 bt326.1).bind fun t335 => (if t335 = true then (some false) else ((hop_CheckAll__pair.f k x310000 x310001 x310002 x310003 bt326.1 bt326.2.1 bt326.2.2.1 bt326.2.2.2.1).bind fun t336 => (if t336 = 0 then (some (bt326.2.2.1 == x1)) else (some false))))) else (some false))) else (if bt326.2.2.2.2 = 1 then (some ((bt326.2.2.2.1.length : Int) == 0)) else (some false))))
def hopmeshlaw11_HopNewer.j1 : Nat → Int → Bool → Int → Int → Int → List Int → Option (Bool)
  | 0, _, _, _, _, _, _ => none
  | k + 1, x1, x67, x310000, x310001, x310002, x310003 => if x67 = true then (some false) else (hopmeshlaw11_HopNewer.j2 k x1 x310000 x310001 x310002 x310003)
end
def hopmeshlaw11_HopNewer.f (k : Nat) (a0_0 : Int) (a0_1 : Int) (a0_2 : Int) (l0_3 : List Int) (a1 : Int) (a2_0 : Int) (a2_1 : Int) : Option (Bool) := (hopmeshlaw11_awake.f).bind fun t311 => (if t311 = true then (if (l0_3.length : Int) > 20 then (some true) else (if a2_0 ≥ 0 then (if a2_0 ≤ 255 then (if a2_1 ≥ 0 then (hopmeshlaw11_HopNewer.j0 k a1 a2_0 a2_1 (decide (a2_1 ≤ 255)) a0_0 a0_1 a0_2 l0_3) else (hopmeshlaw11_HopNewer.j0 k a1 a2_0 a2_1 false a0_0 a0_1 a0_2 l0_3)) else (hopmeshlaw11_HopNewer.j0 k a1 a2_0 a2_1 false a0_0 a0_1 a0_2 l0_3)) else (hopmeshlaw11_HopNewer.j0 k a1 a2_0 a2_1 false a0_0 a0_1 a0_2 l0_3))) else (some false))
theorem hopmeshlaw11_HopNewer.mono_l : ∀ k, (∀ y0 y1 y2 y3 y4 y5 y6 y7, LeO (hopmeshlaw11_HopNewer.j0 k y0 y1 y2 y3 y4 y5 y6 y7) (hopmeshlaw11_HopNewer.j0 (k + 1) y0 y1 y2 y3 y4 y5 y6 y7)) ∧ (∀ y0 y1 y2 y3 y4, LeO (hopmeshlaw11_HopNewer.j2 k y0 y1 y2 y3 y4) (hopmeshlaw11_HopNewer.j2 (k + 1) y0 y1 y2 y3 y4)) ∧ (∀ y0 y1 y2 y3 y4 y5, LeO (hopmeshlaw11_HopNewer.j1 k y0 y1 y2 y3 y4 y5) (hopmeshlaw11_HopNewer.j1 (k + 1) y0 y1 y2 y3 y4 y5))
  | 0 => ⟨fun _ _ _ _ _ _ _ _ r h => by simp [hopmeshlaw11_HopNewer.j0] at h, fun _ _ _ _ _ r h => by simp [hopmeshlaw11_HopNewer.j2] at h, fun _ _ _ _ _ _ r h => by simp [hopmeshlaw11_HopNewer.j1] at h⟩
  | k + 1 => by
    obtain ⟨ih0, ih1, ih2⟩ := hopmeshlaw11_HopNewer.mono_l k
    refine ⟨?_, ?_, ?_⟩
    · intro y0 y1 y2 y3 y4 y5 y6 y7
      unfold hopmeshlaw11_HopNewer.j0
      repeat' first
      | (with_reducible exact ih0 _ _ _ _ _ _ _ _)
      | (with_reducible exact ih1 _ _ _ _ _)
      | (with_reducible exact ih2 _ _ _ _ _ _)
      | (with_reducible exact hop_CheckAll__pair.mono _ _ _ _ _ _ _ _ _)
      | (with_reducible exact hop_Next.mono _ _ _ _ _ _ _)
      | (with_reducible exact LeO.refl _)
      | (with_reducible exact LeO.none _)
      | (with_reducible refine LeO.ite ?_ ?_)
      | (with_reducible refine LeO.bind ?_ (fun _ => ?_))
      | exact ih0 _ _ _ _ _ _ _ _
      | exact ih1 _ _ _ _ _
      | exact ih2 _ _ _ _ _ _
      | exact hop_CheckAll__pair.mono _ _ _ _ _ _ _ _ _
      | exact hop_Next.mono _ _ _ _ _ _ _
      | exact LeO.none _
      | refine LeO.ite ?_ ?_
      | refine LeO.bind ?_ (fun _ => ?_)
    · intro y0 y1 y2 y3 y4
      unfold hopmeshlaw11_HopNewer.j2
      repeat' first
      | (with_reducible exact ih0 _ _ _ _ _ _ _ _)
      | (with_reducible exact ih1 _ _ _ _ _)
      | (with_reducible exact ih2 _ _ _ _ _ _)
      | (with_reducible exact hop_CheckAll__pair.mono _ _ _ _ _ _ _ _ _)
      | (with_reducible exact hop_Next.mono _ _ _ _ _ _ _)
      | (with_reducible exact LeO.refl _)
      | (with_reducible exact LeO.none _)
      | (with_reducible refine LeO.ite ?_ ?_)
      | (with_reducible refine LeO.bind ?_ (fun _ => ?_))
      | exact ih0 _ _ _ _ _ _ _ _
      | exact ih1 _ _ _ _ _
      | exact ih2 _ _ _ _ _ _
      | exact hop_CheckAll__pair.mono _ _ _ _ _ _ _ _ _
      | exact hop_Next.mono _ _ _ _ _ _ _
      | exact LeO.none _
      | refine LeO.ite ?_ ?_
      | refine LeO.bind ?_ (fun _ => ?_)
    · intro y0 y1 y2 y3 y4 y5
      unfold hopmeshlaw11_HopNewer.j1
      repeat' first
      | (with_reducible exact ih0 _ _ _ _ _ _ _ _)
      | (with_reducible exact ih1 _ _ _ _ _)
      | (with_reducible exact ih2 _ _ _ _ _ _)
      | (with_reducible exact hop_CheckAll__pair.mono _ _ _ _ _ _ _ _ _)
      | (with_reducible exact hop_Next.mono _ _ _ _ _ _ _)
      | (with_reducible exact LeO.refl _)
      | (with_reducible exact LeO.none _)
      | (with_reducible refine LeO.ite ?_ ?_)
      | (with_reducible refine LeO.bind ?_ (fun _ => ?_))
      | exact ih0 _ _ _ _ _ _ _ _
      | exact ih1 _ _ _ _ _
      | exact ih2 _ _ _ _ _ _
      | exact hop_CheckAll__pair.mono _ _ _ _ _ _ _ _ _
      | exact hop_Next.mono _ _ _ _ _ _ _
      | exact LeO.none _
      | refine LeO.ite ?_ ?_
      | refine LeO.bind ?_ (fun _ => ?_)
theorem hopmeshlaw11_HopNewer.mono : ∀ a0 a1 a2 a3 a4 a5 a6 k, LeO (hopmeshlaw11_HopNewer.f k a0 a1 a2 a3 a4 a5 a6) (hopmeshlaw11_HopNewer.f (k + 1) a0 a1 a2 a3 a4 a5 a6) := by
  intro a0 a1 a2 a3 a4 a5 a6 k
  obtain ⟨ih0, ih1, ih2⟩ := hopmeshlaw11_HopNewer.mono_l k
  unfold hopmeshlaw11_HopNewer.f
  repeat' first
      | (with_reducible exact ih0 _ _ _ _ _ _ _ _)
      | (with_reducible exact ih1 _ _ _ _ _)
      | (with_reducible exact ih2 _ _ _ _ _ _)
      | (with_reducible exact hop_CheckAll__pair.mono _ _ _ _ _ _ _ _ _)
      | (with_reducible exact hop_Next.mono _ _ _ _ _ _ _)
      | (with_reducible exact LeO.refl _)
      | (with_reducible exact LeO.none _)
      | (with_reducible refine LeO.ite ?_ ?_)
      | (with_reducible refine LeO.bind ?_ (fun _ => ?_))
      | exact ih0 _ _ _ _ _ _ _ _
      | exact ih1 _ _ _ _ _
      | exact ih2 _ _ _ _ _ _
      | exact hop_CheckAll__pair.mono _ _ _ _ _ _ _ _ _
      | exact hop_Next.mono _ _ _ _ _ _ _
      | exact LeO.none _
      | refine LeO.ite ?_ ?_
      | refine LeO.bind ?_ (fun _ => ?_)
def hopmeshlaw11_HopNewer.T12 : Bool × List (List Nat × List Nat) := (true, [([], []), ([], []), ([], []), ([2], [2]), ([3], [3]), ([0, 1, 4, 4], [0, 1, 4]), ([5], [5]), ([6], [6]), ([6], [6]), ([], []), ([9, 7, 5, 0, 1, 2, 3, 4, 5, 6, 7, 9], [7, 9]), ([8, 10, 0, 1, 2, 3, 4, 5, 6, 7, 8, 9, 10], [8])])
def hopmeshlaw11_HopNewer.B12 : List Nat := [0, 0, 0, 4, 12, 31, 63, 127, 127, 0, 767, 2047]
theorem hopmeshlaw11_HopNewer.tab12 : rtab .any (opsOf Try.f8 12) = hopmeshlaw11_HopNewer.T12 := by kernel_rfl
theorem hopmeshlaw11_HopNewer.bits12 : waitsOk hopmeshlaw11_HopNewer.T12.2 hopmeshlaw11_HopNewer.B12 = true := by kernel_rfl

end Go.Proofs.Ytddcacomphkeiaa.PA
