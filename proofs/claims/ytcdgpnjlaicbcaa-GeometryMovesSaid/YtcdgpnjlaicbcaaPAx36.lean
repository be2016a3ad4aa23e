-- Written by a program of this session (mkprint.py: the kit's print, changed) for this claim. Not trusted: Lean checks it.
import Derived.Test.YtcdgpnjlaicbcaaPAx0
import Derived.Test.YtcdgpnjlaicbcaaPAx1
import Derived.Test.YtcdgpnjlaicbcaaPAx3
import Derived.Test.YtcdgpnjlaicbcaaPAx6
import Derived.Test.YtcdgpnjlaicbcaaPAx11
import Derived.Test.YtcdgpnjlaicbcaaPAx35
import Derived.Test.YtcdgpnjlaicbcaaPAx50
import Derived.Test.YtcdgpnjlaicbcaaPAx51
namespace Go.Proofs.Ytcdgpnjlaicbcaa.PA
open Go.RowKit Go.Proofs.YtcdgpnjlaicbcaaW.PrintWords Go.Proofs.YtcdgpnjlaicbcaaW.PrintLast Go.Proofs.YtcdgpnjlaicbcaaW.PrintMore
attribute [local go_sem] max2_int min2_int max_two min_two max_three min_three max_four min_four   -- for this text's walks alone
-- thin
set_option linter.unusedVariables false
set_option linter.unusedSimpArgs false

attribute [local go_sem high] eqA28
/-! ### hopmeshlaw05_GeometryMoves: function 6 -/
def hopmeshlaw05_GeometryMoves.l0 : Nat → List (S28) → Int → Int → Int → Int → Int → Int → Int → Int → Int → Int → Int → Int → Int → Option (Bool)
 | 0, _, _, _, _, _, _, _, _, _, _, _, _, _, _ => none
 | k + 1, x29, x30, x31, x352000, x352001, x352002, x352003, x352004, x353000, x353001, x355000, x355001, x356000, x356001 => if x31 < x30 then (if 0 ≤ x31 then (if x31 < (x29.length : Int) then (if ((rd_T28 x29 x31).f0) < 0 then (some true) else (if ((rd_T28 x29 x31).f0) > 10000 then (some true) else (if ((rd_T28 x29 x31).f1) < 0 then (some true) else (if ((rd_T28 x29 x31).f1) > 10000 then (some true) else (hopmeshlaw05_GeometryMoves.l0 k x29 x30 (wrap64 (x31 + 1)) x352000 x352001 x352002 x352003 x352004 x353000 x353001 x355000 x355001 x356000 x356001))))) else (none)) else (none)) else ((geometry_Crosses.f k x355000 x355001 x356000 x356001 x352000 x352001 x352002 x352003 x352004).bind fun t361 => ((geometry_Square.f x355000 x355001 x356000 x356001).bind fun t362 => (if t362 < 0 then (some false) else (if ((t362 == 0) != (x355000 == x356000 && (x355001 == x356001))) = true then (some false) else ((geometry_Square.f x356000 x356001 x355000 x355001).bind fun t363 => (if t363 = t362 then ((hopmeshlaw05_GeometryMoves_1.f x355000 x355001 x353000 x353001).bind fun bt364 => ((hopmeshlaw05_GeometryMoves_1.f x356000 x356001 x353000 x353001).bind fun bt366 => ((geometry_Square.f bt364.1 bt364.2 bt366.1 bt366.2).bind fun t368 => (if t368 = t362 then ((hopmeshlaw05_GeometryMoves_2.f x355000 x355001).bind fun bt369 => ((hopmeshlaw05_GeometryMoves_2.f x356000 x356001).bind fun bt371 => ((geometry_Square.f bt369.1 bt369.2 bt371.1 bt371.2).bind fun t373 => (if t373 = t362 then ((geometry_Crosses.f k x356000 x356001 x355000 x355001 x352000 x352001 x352002 x352003 x352004).bind fun t374 => (if (t374 == t361) = true then ((hopmeshlaw05_GeometryMoves_3.f x352002 x352003 x352000 x352001 x352000 x352001 x352002 x352003 x352004).bind fun bt375 => ((geometry_Crosses.f k x355000 x355001 x356000 x356001 bt375.1 bt375.2.1 bt375.2.2.1 bt375.2.2.2.1 bt375.2.2.2.2).bind fun t380 => (if (t380 == t361) = true then ((hopmeshlaw05_GeometryMoves_3.f x355000 x355001 x356000 x356001 x352000 x352001 x352002 x352003 x352004).bind fun bt381 => ((geometry_Crosses.f k x352000 x352001 x352002 x352003 bt381.1 bt381.2.1 bt381.2.2.1 bt381.2.2.2.1 bt381.2.2.2.2).bind fun t386 => (if (t386 == t361) = true then ((hopmeshlaw05_GeometryMoves_1.f x355000 x355001 x353000 x353001).bind fun bt387 => ((hopmeshlaw05_GeometryMoves_1.f x356000 x356001 x353000 x353001).bind fun bt389 => ((hopmeshlaw05_GeometryMoves_1.f x352000 x352001 x353000 x353001).bind fun bt391 => ((hopmeshlaw05_GeometryMoves_1.f x352002 x352003 x353000 x353001).bind fun bt393 => ((hopmeshlaw05_GeometryMoves_3.f bt391.1 bt391.2 bt393.1 bt393.2 x352000 x352001 x352002 x352003 x352004).bind fun bt395 => ((geometry_Crosses.f k bt387.1 bt387.2 bt389.1 bt389.2 bt395.1 bt395.2.1 bt395.2.2.1 bt395.2.2.2.1 bt395.2.2.2.2).bind fun t400 => (if (t400 == t361) = true then ((hopmeshlaw05_GeometryMoves_2.f x355000 x355001).bind fun bt401 => ((hopmeshlaw05_GeometryMoves_2.f x356000 x356001).bind fun bt403 => ((hopmeshlaw05_GeometryMoves_2.f x352000 x352001).bind fun bt405 => ((hopmeshlaw05_GeometryMoves_2.f x352002 x352003).bind fun bt407 => ((hopmeshlaw05_GeometryMoves_3.f bt405.1 bt405.2 bt407.1 bt407.2 x352000 x352001 x352002 x352003 x352004).bind fun bt409 => ((geometry_Crosses.f k bt401.1 bt401.2 bt403.1 bt403.2 bt409.1 bt409.2.1 bt409.2.2.1 bt409.2.2.2.1 bt409.2.2.2.2).bind fun t414 => (some (t414 == t361)))))))) else (some false)))))))) else (some false)))) else (some false)))) else (some false))) else (some false))))) else (some false))))) else (some false)))))))
def hopmeshlaw05_GeometryMoves.f (k : Nat) (a0_0 : Int) (a0_1 : Int) (a0_2 : Int) (a0_3 : Int) (a1_0 : Int) (a1_1 : Int) (a1_2 : Int) (a1_3 : Int) (a1_4 : Int) (a2_0 : Int) (a2_1 : Int) : Option (Bool) := (hopmeshlaw05_awake.f).bind fun t353 => (if t353 = true then ((some (([(⟨a0_0, a0_1⟩ : S28), (⟨a0_2, a0_3⟩ : S28), (⟨a1_0, a1_1⟩ : S28), (⟨a1_2, a1_3⟩ : S28), (⟨a2_0, a2_1⟩ : S28)] : List (S28)) : List (S28))).bind fun y356 => (hopmeshlaw05_GeometryMoves.l0 k y356 (y356.length : Int) 0 a1_0 a1_1 a1_2 a1_3 a1_4 a2_0 a2_1 a0_0 a0_1 a0_2 a0_3)) else (some false))
theorem hopmeshlaw05_GeometryMoves.mono_l : ∀ k, (∀ y0 y1 y2 y3 y4 y5 y6 y7 y8 y9 y10 y11 y12 y13, LeO (hopmeshlaw05_GeometryMoves.l0 k y0 y1 y2 y3 y4 y5 y6 y7 y8 y9 y10 y11 y12 y13) (hopmeshlaw05_GeometryMoves.l0 (k + 1) y0 y1 y2 y3 y4 y5 y6 y7 y8 y9 y10 y11 y12 y13))
 | 0 => fun _ _ _ _ _ _ _ _ _ _ _ _ _ _ r h => by simp [hopmeshlaw05_GeometryMoves.l0] at h
 | k + 1 => by
  have ih0 := hopmeshlaw05_GeometryMoves.mono_l k
  ·intro y0 y1 y2 y3 y4 y5 y6 y7 y8 y9 y10 y11 y12 y13
   unfold hopmeshlaw05_GeometryMoves.l0
   repeat' first
   | (with_reducible exact ih0 _ _ _ _ _ _ _ _ _ _ _ _ _ _)
   | (with_reducible exact geometry_Crosses.mono _ _ _ _ _ _ _ _ _ _)
   | (with_reducible exact LeO.refl _)
   | (with_reducible exact LeO.none _)
   | (with_reducible refine LeO.ite ?_ ?_)
   | (with_reducible refine LeO.bind ?_ (fun _ => ?_))
   | exact ih0 _ _ _ _ _ _ _ _ _ _ _ _ _ _
   | exact geometry_Crosses.mono _ _ _ _ _ _ _ _ _ _
   | exact LeO.none _
   | refine LeO.ite ?_ ?_
   | refine LeO.bind ?_ (fun _ => ?_)
theorem hopmeshlaw05_GeometryMoves.mono : ∀ a0 a1 a2 a3 a4 a5 a6 a7 a8 a9 a10 k, LeO (hopmeshlaw05_GeometryMoves.f k a0 a1 a2 a3 a4 a5 a6 a7 a8 a9 a10) (hopmeshlaw05_GeometryMoves.f (k + 1) a0 a1 a2 a3 a4 a5 a6 a7 a8 a9 a10) := by
 intro a0 a1 a2 a3 a4 a5 a6 a7 a8 a9 a10 k
 have ih0 := hopmeshlaw05_GeometryMoves.mono_l k
 unfold hopmeshlaw05_GeometryMoves.f
 repeat' first
  | (with_reducible exact ih0 _ _ _ _ _ _ _ _ _ _ _ _ _ _)
  | (with_reducible exact geometry_Crosses.mono _ _ _ _ _ _ _ _ _ _)
  | (with_reducible exact LeO.refl _)
  | (with_reducible exact LeO.none _)
  | (with_reducible refine LeO.ite ?_ ?_)
  | (with_reducible refine LeO.bind ?_ (fun _ => ?_))
  | exact ih0 _ _ _ _ _ _ _ _ _ _ _ _ _ _
  | exact geometry_Crosses.mono _ _ _ _ _ _ _ _ _ _
  | exact LeO.none _
  | refine LeO.ite ?_ ?_
  | refine LeO.bind ?_ (fun _ => ?_)
def hopmeshlaw05_GeometryMoves.T3 : Bool × List (List Nat × List Nat) := (true, [([], []), ([0], [0]), ([], []), ([2], [2]), ([], []), ([], []), ([4, 1, 0, 1, 4, 5], [1, 4]), ([5, 3, 6, 0, 1, 2, 3, 4, 5, 6], [3, 5])])
def hopmeshlaw05_GeometryMoves.B3 : List Nat := [0, 1, 0, 4, 0, 0, 51, 127]
theorem hopmeshlaw05_GeometryMoves.tab3 : rtab .any (opsOf Try.f6 3) = hopmeshlaw05_GeometryMoves.T3 := by kernel_rfl
theorem hopmeshlaw05_GeometryMoves.bits3 : waitsOk hopmeshlaw05_GeometryMoves.T3.2 hopmeshlaw05_GeometryMoves.B3 = true := by kernel_rfl
def hopmeshlaw05_GeometryMoves.T10 : Bool × List (List Nat × List Nat) := (true, [([], []), ([], []), ([], []), ([0, 1, 2], [0, 1, 2]), ([], []), ([], []), ([4, 5, 3], [4, 5]), ([3, 6, 0, 1, 2, 3], [3]), ([6, 7, 0, 1, 2, 3, 4, 5, 6, 7], [6])])
def hopmeshlaw05_GeometryMoves.B10 : List Nat := [0, 0, 0, 7, 0, 0, 63, 127, 255]
theorem hopmeshlaw05_GeometryMoves.tab10 : rtab .any (opsOf Try.f6 10) = hopmeshlaw05_GeometryMoves.T10 := by kernel_rfl
theorem hopmeshlaw05_GeometryMoves.bits10 : waitsOk hopmeshlaw05_GeometryMoves.T10.2 hopmeshlaw05_GeometryMoves.B10 = true := by kernel_rfl
def hopmeshlaw05_GeometryMoves.T14 : Bool × List (List Nat × List Nat) := (true, [([], []), ([0], [0]), ([1], [1]), ([2], [2]), ([3, 2], [2, 3]), ([2], [2]), ([2], [2]), ([5, 6, 2], [2, 5, 6]), ([4, 7, 2], [2, 4, 7]), ([2, 8], [2, 8]), ([9, 2], [9]), ([10], [10]), ([10], [10]), ([11, 12, 10, 10], [10, 11, 12]), ([10], [10]), ([13, 14, 10], [10, 13, 14]), ([10, 15], [10, 15]), ([16, 13], [16]), ([17], [17]), ([17], [17]), ([18, 19, 17, 17], [17, 18, 19]), ([17], [17]), ([17], [17]), ([21, 22, 20, 17], [17, 21, 22]), ([20, 23, 23, 17], [17, 20, 23]), ([17], [17]), ([24, 25, 17], [17, 24, 25]), ([17, 26], [17, 26]), ([27, 24], [27]), ([28], [28]), ([28], [28]), ([29, 30, 28, 28], [28, 29, 30]), ([28], [28]), ([28], [28]), ([32, 33, 31, 28], [28, 32, 33]), ([31, 34, 34, 28], [28, 31, 34]), ([28], [28]), ([35, 36, 28], [28, 35, 36]), ([28, 37], [28, 37])])
def hopmeshlaw05_GeometryMoves.B14 : List Nat := [0, 1, 3, 7, 15, 7, 7, 103, 255, 511, 1023, 2047, 2047, 8191, 2047, 32767, 65535, 131071, 262143, 262143, 1048575, 262143, 262143, 8388607, 16777215, 262143, 67108863, 134217727, 268435455, 536870911, 536870911, 2147483647, 536870911, 536870911, 17179869183, 34359738367, 536870911, 137438953471, 274877906943]
theorem hopmeshlaw05_GeometryMoves.tab14 : rtab .any (opsOf Try.f6 14) = hopmeshlaw05_GeometryMoves.T14 := by kernel_rfl
theorem hopmeshlaw05_GeometryMoves.bits14 : waitsOk hopmeshlaw05_GeometryMoves.T14.2 hopmeshlaw05_GeometryMoves.B14 = true := by kernel_rfl
def hopmeshlaw05_GeometryMoves.T16 : Bool × List (List Nat × List Nat) := (true, [([], []), ([], []), ([], []), ([0, 1, 2], [0, 1, 2]), ([], []), ([3, 4], [3, 4]), ([5, 3], [5]), ([6], [6]), ([6], [6]), ([6], [6]), ([6], [6]), ([10, 6], [6, 10]), ([6], [6]), ([12, 6], [6, 12]), ([9, 11, 13, 6, 6], [6, 9, 11, 13]), ([7, 8, 14, 14, 6], [6, 7, 8, 14]), ([6], [6]), ([15, 16, 6], [6, 15, 16]), ([6, 17], [6, 17]), ([18, 15], [18]), ([19], [19]), ([20, 19], [19, 20]), ([19], [19]), ([22, 19], [19, 22]), ([19], [19]), ([19], [19]), ([19], [19]), ([24, 25, 26, 19, 19], [19, 24, 25, 26]), ([21, 23, 27, 27, 19], [19, 21, 23, 27]), ([19], [19]), ([28, 29, 19], [19, 28, 29]), ([19, 30], [19, 30]), ([31, 28], [31]), ([32], [32]), ([32], [32]), ([33, 34, 32, 32], [32, 33, 34]), ([32], [32]), ([32], [32]), ([36, 37, 35, 32], [32, 36, 37]), ([32], [32]), ([32], [32]), ([32], [32]), ([41, 32], [32, 41]), ([40, 42, 38, 32], [32, 40, 42]), ([32], [32]), ([32], [32]), ([45, 32], [32, 45]), ([44, 46, 43, 32], [32, 44, 46]), ([39, 43, 47, 47, 32], [32, 39, 43, 47]), ([35, 38, 48, 48, 32], [32, 35, 38, 48]), ([32], [32]), ([49, 50, 32], [32, 49, 50]), ([32, 51], [32, 51]), ([52, 49], [52]), ([53], [53]), ([53], [53]), ([54, 55, 53, 53], [53, 54, 55]), ([53], [53]), ([53], [53]), ([57, 58, 56, 53], [53, 57, 58]), ([53], [53]), ([53], [53]), ([53], [53]), ([62, 53], [53, 62]), ([61, 63, 59, 53], [53, 61, 63]), ([53], [53]), ([53], [53]), ([66, 53], [53, 66]), ([65, 67, 64, 53], [53, 65, 67]), ([60, 64, 68, 68, 53], [53, 60, 64, 68]), ([56, 59, 69, 69, 53], [53, 56, 59, 69]), ([53], [53]), ([70, 71, 53], [53, 70, 71]), ([53, 72], [53, 72]), ([73, 70, 0, 1, 2, 3, 4, 5, 6, 7, 8, 9, 10, 11, 12, 13, 14, 15, 16, 17, 18, 19, 20, 21, 22, 23, 24, 25, 26, 27, 28, 29, 30, 31, 32, 33, 34, 35, 36, 37, 38, 39, 40, 41, 42, 43, 44, 45, 46, 47, 48, 49, 50, 51, 52, 53, 54, 55, 56, 57, 58, 59, 60, 61, 62, 63, 64, 65, 66, 67, 68, 69, 70, 71, 72, 73], [73])])
def hopmeshlaw05_GeometryMoves.B16 : List Nat := [0, 0, 0, 7, 0, 31, 63, 127, 127, 127, 127, 1151, 127, 4223, 15999, 32767, 127, 131071, 262143, 524287, 1048575, 2097151, 1048575, 5242879, 1048575, 1048575, 1048575, 118489087, 268435455, 1048575, 1073741823, 2147483647, 4294967295, 8589934591, 8589934591, 34359738367, 8589934591, 8589934591, 274877906943, 8589934591, 8589934591, 8589934591, 2207613190143, 8246337208319, 8589934591, 8589934591, 35192962023423, 140187732541439, 281474976710655, 562949953421311, 8589934591, 2251799813685247, 4503599627370495, 9007199254740991, 18014398509481983, 18014398509481983, 72057594037927935, 18014398509481983, 18014398509481983, 576460752303423487, 18014398509481983, 18014398509481983, 18014398509481983, 4629700416936869887, 17293822569102704639, 18014398509481983, 18014398509481983, 73804990693347688447, 293994983674745978879, 590295810358705651711, 1180591620717411303423, 18014398509481983, 4722366482869645213695, 9444732965739290427391, 18889465931478580854783]
theorem hopmeshlaw05_GeometryMoves.tab16 : rtab .any (opsOf Try.f6 16) = hopmeshlaw05_GeometryMoves.T16 := by kernel_rfl
theorem hopmeshlaw05_GeometryMoves.bits16 : waitsOk hopmeshlaw05_GeometryMoves.T16.2 hopmeshlaw05_GeometryMoves.B16 = true := by kernel_rfl

end Go.Proofs.Ytcdgpnjlaicbcaa.PA
