-- Written by a program of this session (mkprint.py: the kit's print, changed) for this claim. Not trusted: Lean checks it.
import Derived.Test.YtddcacomphkeiaaPAx0
import Derived.Test.YtddcacomphkeiaaPAx6
import Derived.Test.YtddcacomphkeiaaPAx20
import Derived.Test.YtddcacomphkeiaaPAx31
import Derived.Test.YtddcacomphkeiaaPAx32
import Derived.Test.YtddcacomphkeiaaPAx33
import Derived.Test.YtddcacomphkeiaaPAx34
namespace Go.Proofs.Ytddcacomphkeiaa.PA
open Go.RowKit Go.Proofs.YtddcacomphkeiaaW.PrintWords Go.Proofs.YtddcacomphkeiaaW.PrintLast Go.Proofs.YtddcacomphkeiaaW.PrintMore
attribute [local go_sem] max2_int min2_int max_two min_two max_three min_three max_four min_four   -- for this text's walks alone
set_option linter.unusedVariables false
set_option linter.unusedSimpArgs false

/-! ### hopmeshlaw11_HopCovers: function 10 -/
mutual
def hopmeshlaw11_HopCovers.j0 : Nat → List (S24) → Int → Int → Bool → Int → Int → Int → List Int → Option (Bool)
  | 0, _, _, _, _, _, _, _, _ => none
  | k + 1, x0, x1, x6, x8, x388000, x388001, x388002, x388003 => if x8 = true then (if x6 = 0 then (if x1 < x388001 then (hopmeshlaw11_HopCovers.j1 k x0 true x388000 x388001 x388002 x388003) else (hopmeshlaw11_HopCovers.j1 k x0 (decide (x1 ≥ x388002)) x388000 x388001 x388002 x388003)) else (hopmeshlaw11_HopCovers.j1 k x0 true x388000 x388001 x388002 x388003)) else (if x6 = 7 then (some ((x388003.length : Int) == 0)) else (some false))
def hopmeshlaw11_HopCovers.j1 : Nat → List (S24) → Bool → Int → Int → Int → List Int → Option (Bool)
  | 0, _, _, _, _, _, _ => none
  | k + 1, x0, x78, x388000, x388001, x388002, x388003 => if x78 = true then (some false) else ((slices_ContainsFunc_api_HopList_api_HopList__hopmeshlaw11_HopCovers_1.f x0 x388000 x388001 x388002 x388003).bind fun t394 => (some t394))
end
def hopmeshlaw11_HopCovers.f (k : Nat) (l0 : List (S24)) (a1 : Int) : Option (Bool) := (hopmeshlaw11_awake.f).bind fun t375 => (if t375 = true then ((hopmeshlaw11_few.f l0).bind fun t376 => (if t376 = true then ((hopmeshlaw11_cp.f l0).bind fun t377 => ((hop_InForce.f k t377 a1).bind fun bt380 => ((hopmeshlaw11_cp.f l0).bind fun t388 => ((hop_CheckAll.f k t388).bind fun t391 => (if t391 = 0 then (if (l0.length : Int) = 0 then (some false) else (if 0 < (l0.length : Int) then (if a1 ≥ ((rd_T24 l0 0).f1) then (if 0 ≤ (wrap64 ((l0.length : Int) - 1)) then (if (wrap64 ((l0.length : Int) - 1)) < (l0.length : Int) then (hopmeshlaw11_HopCovers.j0 k l0 a1 bt380.2.2.2.2 (decide (a1 < ((rd_T24 l0 (wrap64 ((l0.length : Int) - 1))).f2))) bt380.1 bt380.2.1 bt380.2.2.1 bt380.2.2.2.1) else (none)) else (none)) else (hopmeshlaw11_HopCovers.j0 k l0 a1 bt380.2.2.2.2 false bt380.1 bt380.2.1 bt380.2.2.1 bt380.2.2.2.1)) else (none))) else (if bt380.2.2.2.2 = t391 then (some ((bt380.2.2.2.1.length : Int) == 0)) else (some false))))))) else (some true))) else (some false))
theorem hopmeshlaw11_HopCovers.mono_l : ∀ k, (∀ y0 y1 y2 y3 y4 y5 y6 y7, LeO (hopmeshlaw11_HopCovers.j0 k y0 y1 y2 y3 y4 y5 y6 y7) (hopmeshlaw11_HopCovers.j0 (k + 1) y0 y1 y2 y3 y4 y5 y6 y7)) ∧ (∀ y0 y1 y2 y3 y4 y5, LeO (hopmeshlaw11_HopCovers.j1 k y0 y1 y2 y3 y4 y5) (hopmeshlaw11_HopCovers.j1 (k + 1) y0 y1 y2 y3 y4 y5))
  | 0 => ⟨fun _ _ _ _ _ _ _ _ r h => by simp [hopmeshlaw11_HopCovers.j0] at h, fun _ _ _ _ _ _ r h => by simp [hopmeshlaw11_HopCovers.j1] at h⟩
  | k + 1 => by
    obtain ⟨ih0, ih1⟩ := hopmeshlaw11_HopCovers.mono_l k
    refine ⟨?_, ?_⟩
    · intro y0 y1 y2 y3 y4 y5 y6 y7
      unfold hopmeshlaw11_HopCovers.j0
      repeat' first
      | (with_reducible exact ih0 _ _ _ _ _ _ _ _)
      | (with_reducible exact ih1 _ _ _ _ _ _)
      | (with_reducible exact hop_CheckAll.mono _ _)
      | (with_reducible exact hop_InForce.mono _ _ _)
      | (with_reducible exact LeO.refl _)
      | (with_reducible exact LeO.none _)
      | (with_reducible refine LeO.ite ?_ ?_)
      | (with_reducible refine LeO.bind ?_ (fun _ => ?_))
      | exact ih0 _ _ _ _ _ _ _ _
      | exact ih1 _ _ _ _ _ _
      | exact hop_CheckAll.mono _ _
      | exact hop_InForce.mono _ _ _
      | exact LeO.none _
      | refine LeO.ite ?_ ?_
      | refine LeO.bind ?_ (fun _ => ?_)
    · intro y0 y1 y2 y3 y4 y5
      unfold hopmeshlaw11_HopCovers.j1
      repeat' first
      | (with_reducible exact ih0 _ _ _ _ _ _ _ _)
      | (with_reducible exact ih1 _ _ _ _ _ _)
      | (with_reducible exact hop_CheckAll.mono _ _)
      | (with_reducible exact hop_InForce.mono _ _ _)
      | (with_reducible exact LeO.refl _)
      | (with_reducible exact LeO.none _)
      | (with_reducible refine LeO.ite ?_ ?_)
      | (with_reducible refine LeO.bind ?_ (fun _ => ?_))
      | exact ih0 _ _ _ _ _ _ _ _
      | exact ih1 _ _ _ _ _ _
      | exact hop_CheckAll.mono _ _
      | exact hop_InForce.mono _ _ _
      | exact LeO.none _
      | refine LeO.ite ?_ ?_
      | refine LeO.bind ?_ (fun _ => ?_)
theorem hopmeshlaw11_HopCovers.mono : ∀ a0 a1 k, LeO (hopmeshlaw11_HopCovers.f k a0 a1) (hopmeshlaw11_HopCovers.f (k + 1) a0 a1) := by
  intro a0 a1 k
  obtain ⟨ih0, ih1⟩ := hopmeshlaw11_HopCovers.mono_l k
  unfold hopmeshlaw11_HopCovers.f
  repeat' first
      | (with_reducible exact ih0 _ _ _ _ _ _ _ _)
      | (with_reducible exact ih1 _ _ _ _ _ _)
      | (with_reducible exact hop_CheckAll.mono _ _)
      | (with_reducible exact hop_InForce.mono _ _ _)
      | (with_reducible exact LeO.refl _)
      | (with_reducible exact LeO.none _)
      | (with_reducible refine LeO.ite ?_ ?_)
      | (with_reducible refine LeO.bind ?_ (fun _ => ?_))
      | exact ih0 _ _ _ _ _ _ _ _
      | exact ih1 _ _ _ _ _ _
      | exact hop_CheckAll.mono _ _
      | exact hop_InForce.mono _ _ _
      | exact LeO.none _
      | refine LeO.ite ?_ ?_
      | refine LeO.bind ?_ (fun _ => ?_)
set_option maxHeartbeats 8000000 in
set_option maxRecDepth 100000 in
theorem hopmeshlaw11_HopCovers.calls (k : Nat) (A0 : Option Addr) (c0 : Nat) (l0 : List (S24)) (a1 : Int) (r : Bool) (w : World) (hr0 : Kd.C k24 w A0 l0.length l0) (hc0 : l0.length ≤ c0) (h : hopmeshlaw11_HopCovers.f k l0 a1 = some r) (hr_ : r = true) :
    Calls Try.prog 10 #[.slice A0 l0.length c0, .int .i64 a1] w fun e w' => e = .returned (.bool r) ∧ Below w.heap.size w w' := by
  have hu24 := Try.underlying24
  have HRT := Aside0.mk hr_
  clear hr_
  have HR0 := Aside0.mk hr0
  have HC0 := Aside0.mk hc0
  clear hr0 hc0
  have HB := Aside0.mk (Below.refl w.heap.size w)
  have H : ((hopmeshlaw11_awake.f).bind fun t375 => (if t375 = true then ((hopmeshlaw11_few.f l0).bind fun t376 => (if t376 = true then ((hopmeshlaw11_cp.f l0).bind fun t377 => ((hop_InForce.f k t377 a1).bind fun bt380 => ((hopmeshlaw11_cp.f l0).bind fun t388 => ((hop_CheckAll.f k t388).bind fun t391 => (if t391 = 0 then (if (l0.length : Int) = 0 then (some false) else (if 0 < (l0.length : Int) then (if a1 ≥ ((rd_T24 l0 0).f1) then (if 0 ≤ (wrap64 ((l0.length : Int) - 1)) then (if (wrap64 ((l0.length : Int) - 1)) < (l0.length : Int) then (hopmeshlaw11_HopCovers.j0 k l0 a1 bt380.2.2.2.2 (decide (a1 < ((rd_T24 l0 (wrap64 ((l0.length : Int) - 1))).f2))) bt380.1 bt380.2.1 bt380.2.2.1 bt380.2.2.2.1) else (none)) else (none)) else (hopmeshlaw11_HopCovers.j0 k l0 a1 bt380.2.2.2.2 false bt380.1 bt380.2.1 bt380.2.2.1 bt380.2.2.2.1)) else (none))) else (if bt380.2.2.2.2 = t391 then (some ((bt380.2.2.2.1.length : Int) == 0)) else (some false))))))) else (some true))) else (some false))) = some r := h
  clear h
  replace H := Option.bind_eq_some_iff.mp H
  obtain ⟨t375, A30, H⟩ := H
  replace H : (if t375 = true then ((hopmeshlaw11_few.f l0).bind fun t376 => (if t376 = true then ((hopmeshlaw11_cp.f l0).bind fun t377 => ((hop_InForce.f k t377 a1).bind fun bt380 => ((hopmeshlaw11_cp.f l0).bind fun t388 => ((hop_CheckAll.f k t388).bind fun t391 => (if t391 = 0 then (if (l0.length : Int) = 0 then (some false) else (if 0 < (l0.length : Int) then (if a1 ≥ ((rd_T24 l0 0).f1) then (if 0 ≤ (wrap64 ((l0.length : Int) - 1)) then (if (wrap64 ((l0.length : Int) - 1)) < (l0.length : Int) then (hopmeshlaw11_HopCovers.j0 k l0 a1 bt380.2.2.2.2 (decide (a1 < ((rd_T24 l0 (wrap64 ((l0.length : Int) - 1))).f2))) bt380.1 bt380.2.1 bt380.2.2.1 bt380.2.2.2.1) else (none)) else (none)) else (hopmeshlaw11_HopCovers.j0 k l0 a1 bt380.2.2.2.2 false bt380.1 bt380.2.1 bt380.2.2.1 bt380.2.2.2.1)) else (none))) else (if bt380.2.2.2.2 = t391 then (some ((bt380.2.2.2.1.length : Int) == 0)) else (some false))))))) else (some true))) else (some false)) = some r := H
  have A3 := Aside0.mk A30
  clear A30
  by_cases c4 : t375 = true
  · subst c4
    have H1 : ((hopmeshlaw11_few.f l0).bind fun t376 => (if t376 = true then ((hopmeshlaw11_cp.f l0).bind fun t377 => ((hop_InForce.f k t377 a1).bind fun bt380 => ((hopmeshlaw11_cp.f l0).bind fun t388 => ((hop_CheckAll.f k t388).bind fun t391 => (if t391 = 0 then (if (l0.length : Int) = 0 then (some false) else (if 0 < (l0.length : Int) then (if a1 ≥ ((rd_T24 l0 0).f1) then (if 0 ≤ (wrap64 ((l0.length : Int) - 1)) then (if (wrap64 ((l0.length : Int) - 1)) < (l0.length : Int) then (hopmeshlaw11_HopCovers.j0 k l0 a1 bt380.2.2.2.2 (decide (a1 < ((rd_T24 l0 (wrap64 ((l0.length : Int) - 1))).f2))) bt380.1 bt380.2.1 bt380.2.2.1 bt380.2.2.2.1) else (none)) else (none)) else (hopmeshlaw11_HopCovers.j0 k l0 a1 bt380.2.2.2.2 false bt380.1 bt380.2.1 bt380.2.2.1 bt380.2.2.2.1)) else (none))) else (if bt380.2.2.2.2 = t391 then (some ((bt380.2.2.2.1.length : Int) == 0)) else (some false))))))) else (some true))) = some r := by rw [if_pos rfl] at H; exact H
    clear H
    have H := H1
    clear H1
    replace H := Option.bind_eq_some_iff.mp H
    obtain ⟨t376, A50, H⟩ := H
    replace H : (if t376 = true then ((hopmeshlaw11_cp.f l0).bind fun t377 => ((hop_InForce.f k t377 a1).bind fun bt380 => ((hopmeshlaw11_cp.f l0).bind fun t388 => ((hop_CheckAll.f k t388).bind fun t391 => (if t391 = 0 then (if (l0.length : Int) = 0 then (some false) else (if 0 < (l0.length : Int) then (if a1 ≥ ((rd_T24 l0 0).f1) then (if 0 ≤ (wrap64 ((l0.length : Int) - 1)) then (if (wrap64 ((l0.length : Int) - 1)) < (l0.length : Int) then (hopmeshlaw11_HopCovers.j0 k l0 a1 bt380.2.2.2.2 (decide (a1 < ((rd_T24 l0 (wrap64 ((l0.length : Int) - 1))).f2))) bt380.1 bt380.2.1 bt380.2.2.1 bt380.2.2.2.1) else (none)) else (none)) else (hopmeshlaw11_HopCovers.j0 k l0 a1 bt380.2.2.2.2 false bt380.1 bt380.2.1 bt380.2.2.1 bt380.2.2.2.1)) else (none))) else (if bt380.2.2.2.2 = t391 then (some ((bt380.2.2.2.1.length : Int) == 0)) else (some false))))))) else (some true)) = some r := H
    have A5 := Aside0.mk A50
    clear A50
    by_cases c6 : t376 = true
    · subst c6
      have H1 : ((hopmeshlaw11_cp.f l0).bind fun t377 => ((hop_InForce.f k t377 a1).bind fun bt380 => ((hopmeshlaw11_cp.f l0).bind fun t388 => ((hop_CheckAll.f k t388).bind fun t391 => (if t391 = 0 then (if (l0.length : Int) = 0 then (some false) else (if 0 < (l0.length : Int) then (if a1 ≥ ((rd_T24 l0 0).f1) then (if 0 ≤ (wrap64 ((l0.length : Int) - 1)) then (if (wrap64 ((l0.length : Int) - 1)) < (l0.length : Int) then (hopmeshlaw11_HopCovers.j0 k l0 a1 bt380.2.2.2.2 (decide (a1 < ((rd_T24 l0 (wrap64 ((l0.length : Int) - 1))).f2))) bt380.1 bt380.2.1 bt380.2.2.1 bt380.2.2.2.1) else (none)) else (none)) else (hopmeshlaw11_HopCovers.j0 k l0 a1 bt380.2.2.2.2 false bt380.1 bt380.2.1 bt380.2.2.1 bt380.2.2.2.1)) else (none))) else (if bt380.2.2.2.2 = t391 then (some ((bt380.2.2.2.1.length : Int) == 0)) else (some false))))))) = some r := by rw [if_pos rfl] at H; exact H
      clear H
      have H := H1
      clear H1
      replace H := Option.bind_eq_some_iff.mp H
      obtain ⟨t377, A70, H⟩ := H
      replace H : ((hop_InForce.f k t377 a1).bind fun bt380 => ((hopmeshlaw11_cp.f l0).bind fun t388 => ((hop_CheckAll.f k t388).bind fun t391 => (if t391 = 0 then (if (l0.length : Int) = 0 then (some false) else (if 0 < (l0.length : Int) then (if a1 ≥ ((rd_T24 l0 0).f1) then (if 0 ≤ (wrap64 ((l0.length : Int) - 1)) then (if (wrap64 ((l0.length : Int) - 1)) < (l0.length : Int) then (hopmeshlaw11_HopCovers.j0 k l0 a1 bt380.2.2.2.2 (decide (a1 < ((rd_T24 l0 (wrap64 ((l0.length : Int) - 1))).f2))) bt380.1 bt380.2.1 bt380.2.2.1 bt380.2.2.2.1) else (none)) else (none)) else (hopmeshlaw11_HopCovers.j0 k l0 a1 bt380.2.2.2.2 false bt380.1 bt380.2.1 bt380.2.2.1 bt380.2.2.2.1)) else (none))) else (if bt380.2.2.2.2 = t391 then (some ((bt380.2.2.2.1.length : Int) == 0)) else (some false)))))) = some r := H
      have A7 := Aside0.mk A70
      clear A70
      replace H := Option.bind_eq_some_iff.mp H
      obtain ⟨⟨t380, t381, t382, t383, t386⟩, A80, H⟩ := H
      replace H : ((hopmeshlaw11_cp.f l0).bind fun t388 => ((hop_CheckAll.f k t388).bind fun t391 => (if t391 = 0 then (if (l0.length : Int) = 0 then (some false) else (if 0 < (l0.length : Int) then (if a1 ≥ ((rd_T24 l0 0).f1) then (if 0 ≤ (wrap64 ((l0.length : Int) - 1)) then (if (wrap64 ((l0.length : Int) - 1)) < (l0.length : Int) then (hopmeshlaw11_HopCovers.j0 k l0 a1 t386 (decide (a1 < ((rd_T24 l0 (wrap64 ((l0.length : Int) - 1))).f2))) t380 t381 t382 t383) else (none)) else (none)) else (hopmeshlaw11_HopCovers.j0 k l0 a1 t386 false t380 t381 t382 t383)) else (none))) else (if t386 = t391 then (some ((t383.length : Int) == 0)) else (some false))))) = some r := H
      have A8 := Aside0.mk A80
      clear A80
      replace H := Option.bind_eq_some_iff.mp H
      obtain ⟨t388, A90, H⟩ := H
      replace H : ((hop_CheckAll.f k t388).bind fun t391 => (if t391 = 0 then (if (l0.length : Int) = 0 then (some false) else (if 0 < (l0.length : Int) then (if a1 ≥ ((rd_T24 l0 0).f1) then (if 0 ≤ (wrap64 ((l0.length : Int) - 1)) then (if (wrap64 ((l0.length : Int) - 1)) < (l0.length : Int) then (hopmeshlaw11_HopCovers.j0 k l0 a1 t386 (decide (a1 < ((rd_T24 l0 (wrap64 ((l0.length : Int) - 1))).f2))) t380 t381 t382 t383) else (none)) else (none)) else (hopmeshlaw11_HopCovers.j0 k l0 a1 t386 false t380 t381 t382 t383)) else (none))) else (if t386 = t391 then (some ((t383.length : Int) == 0)) else (some false)))) = some r := H
      have A9 := Aside0.mk A90
      clear A90
      replace H := Option.bind_eq_some_iff.mp H
      obtain ⟨t391, A100, H⟩ := H
      replace H : (if t391 = 0 then (if (l0.length : Int) = 0 then (some false) else (if 0 < (l0.length : Int) then (if a1 ≥ ((rd_T24 l0 0).f1) then (if 0 ≤ (wrap64 ((l0.length : Int) - 1)) then (if (wrap64 ((l0.length : Int) - 1)) < (l0.length : Int) then (hopmeshlaw11_HopCovers.j0 k l0 a1 t386 (decide (a1 < ((rd_T24 l0 (wrap64 ((l0.length : Int) - 1))).f2))) t380 t381 t382 t383) else (none)) else (none)) else (hopmeshlaw11_HopCovers.j0 k l0 a1 t386 false t380 t381 t382 t383)) else (none))) else (if t386 = t391 then (some ((t383.length : Int) == 0)) else (some false))) = some r := H
      have A10 := Aside0.mk A100
      clear A100
      by_cases c11 : t391 = 0
      · rw [if_pos c11] at H
        have c11b0 : (t391 == 0) = true := beq_iff_eq.mpr c11
        have c11b1 : (t391 != 0) = false := bne_eq_false_iff_eq.mpr c11
        clear c11
        by_cases c12 : (l0.length : Int) = 0
        · rw [if_pos c12] at H
          have c12b0 : ((l0.length : Int) == 0) = true := beq_iff_eq.mpr c12
          have c12b1 : ((l0.length : Int) != 0) = false := bne_eq_false_iff_eq.mpr c12
          clear c12
          exact absurd (H.trans (congrArg some HRT.out)) (by simp)
        · rw [if_neg c12] at H
          have c12b0 : ((l0.length : Int) == 0) = false := beq_eq_false_iff_ne.mpr c12
          have c12b1 : ((l0.length : Int) != 0) = true := bne_iff_ne.mpr c12
          have c12b2 : ¬ (l0 = []) := fun h_ => c12 (by rw [h_]; rfl)
          have HC13 := Aside0.mk H
          clear H
          go_enter Try.func10, Try.ntmps10
          go_upto_region 11 with (first | ((with_reducible refine gate_callee (f := 11) rfl ?_); refine goesL_ (some 9) rfl rfl Try.func11 (by kernel_rfl) rfl #[] rfl (by (try simp only [List.map_toArray, List.map_cons, List.map_nil]); first | done | rfl | (simp only [List.length_drop, List.length_take]; rfl)) ?_; (with_reducible refine (hopmeshlaw11_awake.calls  true _ A3.out).mono ?_); rintro e w14 ⟨rfl, hb⟩; refine ⟨_, rfl, ?_⟩; have n0_ := Aside0.mk (below_step (by repeat (first | (with_reducible first | exact HB.out | apply below_alloc | apply pw_below_drewN | apply below_drew1) | exact HB.out)) hb); clear HB; have HB := n0_; clear n0_; (try clear hb); (try clear hb2); (try clear hk); (try clear hi)) | ((with_reducible refine gate_callee (f := 28) rfl ?_); refine goesL_ (some 12) rfl rfl Try.func28 (by kernel_rfl) rfl #[.slice A0 l0.length c0] rfl (by (try simp only [List.map_toArray, List.map_cons, List.map_nil]); first | done | rfl | (simp only [List.length_drop, List.length_take]; rfl)) ?_; (with_reducible refine (hopmeshlaw11_few.calls _ _ l0 true _ ?side1 ?side2 A5.out).mono ?_); (case side1 => repeat (first | exact (Kd.C_below HR0.out HB.out) | (with_reducible refine Kd.C_alloc ?_ _) | (with_reducible refine Kd.C_drewN ?_ _) | (with_reducible refine Kd.C_drew ?_))); (case side2 => exact HC0.out); rintro e w15 ⟨rfl, hb⟩; refine ⟨_, rfl, ?_⟩; have n0_ := Aside0.mk (below_step (by repeat (first | (with_reducible first | exact HB.out | apply below_alloc | apply pw_below_drewN | apply below_drew1) | exact HB.out)) hb); clear HB; have HB := n0_; clear n0_; (try clear hb); (try clear hb2); (try clear hk); (try clear hi)) | ((with_reducible refine gate_callee (f := 30) rfl ?_); refine goesL_ (some 16) rfl rfl Try.func30 (by kernel_rfl) rfl #[.slice A0 l0.length c0] rfl (by (try simp only [List.map_toArray, List.map_cons, List.map_nil]); first | done | rfl | (simp only [List.length_drop, List.length_take]; rfl)) ?_; (with_reducible refine (hopmeshlaw11_cp.calls _ _ l0 t377 _ ?side1 ?side2 A7.out).mono ?_); (case side1 => repeat (first | exact (Kd.C_below HR0.out HB.out) | (with_reducible refine Kd.C_alloc ?_ _) | (with_reducible refine Kd.C_drewN ?_ _) | (with_reducible refine Kd.C_drew ?_))); (case side2 => exact HC0.out); rintro e w16 ⟨v378, rfl, ho0, hb⟩; refine ⟨_, rfl, ?_⟩; have n0_ := Aside0.mk (Kd.S_lower ho0 (below_size (by repeat (first | (with_reducible first | exact HB.out | apply below_alloc | apply pw_below_drewN | apply below_drew1) | exact HB.out)))); have n1_ := Aside0.mk (below_step (by repeat (first | (with_reducible first | exact HB.out | apply below_alloc | apply pw_below_drewN | apply below_drew1) | exact HB.out)) hb); clear HB; have HO379 := n0_; have HB := n1_; clear n0_ n1_; (try clear hb); (try clear hb2); (try clear hk); (try clear hi); (try clear ho0); obtain ⟨Ao17, co17, eo17⟩ := Kd.S_slice HO379.out; subst eo17) | ((with_reducible refine gate_callee (f := 29) rfl ?_); refine goesL_ (some 18) rfl rfl Try.func29 (by kernel_rfl) rfl #[.slice Ao17 t377.length co17, .int .i64 a1] rfl (by (try simp only [List.map_toArray, List.map_cons, List.map_nil]); first | done | rfl | (simp only [List.length_drop, List.length_take]; rfl)) ?_; (with_reducible refine (hop_InForce.calls k _ _ t377 a1 t380 t381 t382 t383 t386 _ ?side1 ?side2 A8.out).mono ?_); (case side1 => repeat (first | exact (Kd.S_reads' HO379.out).2.2 | (with_reducible refine Kd.C_alloc ?_ _) | (with_reducible refine Kd.C_drewN ?_ _) | (with_reducible refine Kd.C_drew ?_))); (case side2 => exact (Kd.S_reads' HO379.out).2.1); rintro e w18 ⟨v384, rfl, ho0, hb⟩; refine ⟨_, rfl, ?_⟩; have n0_ := Aside0.mk (Kd.S_elder' (by (with_reducible repeat (first | apply Kd.S_alloc | apply Kd.S_drewN | apply Kd.S_drew)); exact HO379.out) (Kd.R_base ho0) hb); have n1_ := Aside0.mk (Kd.R_lower ho0 (below_size (by repeat (first | (with_reducible first | exact HB.out | apply below_alloc | apply pw_below_drewN | apply below_drew1) | exact HB.out)))); have n2_ := Aside0.mk (below_step (by repeat (first | (with_reducible first | exact HB.out | apply below_alloc | apply pw_below_drewN | apply below_drew1) | exact HB.out)) hb); clear HO379; clear HB; have HO379 := n0_; have HO385 := n1_; have HB := n2_; clear n0_ n1_ n2_; (try clear hb); (try clear hb2); (try clear hk); (try clear hi); (try clear ho0)) | ((with_reducible refine gate_dst (N := 5) rfl ?_); (try (refine gate_guard (by rfl) ?_; dsimp only)); refine box_event ?hg (N := 5) ?hd (cs := #[.int .i64 0, .int .i64 0, .int .i64 0, .slice none 0 0]) (t := 24) ?hr ?_; (case hd => rfl); (case hg => rfl); (case hr => first | (go_simp; done) | (go_simp; rfl)); intro gb387 hg w19 hbox hb; have n0_ := Aside0.mk (Kd.S_below (Kd.S_elderB (by (with_reducible repeat (first | apply Kd.S_alloc | apply Kd.S_drewN | apply Kd.S_drew)); exact HO379.out) gb387 (Nat.le_of_eq hg.symm)) hb); have n1_ := Aside0.mk (Kd.R_below (by (with_reducible repeat (first | apply Kd.R_alloc | apply Kd.R_drewN | apply Kd.R_drew)); exact HO385.out) hb); have n2_ := Aside0.mk (below_step (by repeat (first | (with_reducible first | exact HB.out | apply below_alloc | apply pw_below_drewN | apply below_drew1) | exact HB.out)) hb); have n3_ := Aside0.mk (hbox); have n4_ := Aside0.mk ((by rw [hg]; exact (below_size (by repeat (first | (with_reducible first | exact HB.out | apply below_alloc | apply pw_below_drewN | apply below_drew1) | exact HB.out))) : w.heap.size ≤ gb387)); have n5_ := Aside0.mk ((by rw [hg]; exact (below_size (by repeat (first | (with_reducible first | exact HB.out | apply below_alloc | apply pw_below_drewN | apply below_drew1) | exact HB.out))) : w.heap.size ≤ gb387)); clear HO379; clear HO385; clear HB; have HO379 := n0_; have HO385 := n1_; have HB := n2_; have BK387 := n3_; have GW387 := n4_; have GE387 := n5_; clear n0_ n1_ n2_ n3_ n4_ n5_; clear hb hbox hg; have hcz20_0 : w19.cell? ⟨gb387, 0, none⟩ = some (.int .i64 0) := (blk_cell BK387.out 0).trans rfl; have hcz20_1 : w19.cell? ⟨gb387, 1, none⟩ = some (.int .i64 0) := (blk_cell BK387.out 1).trans rfl; have hcz20_2 : w19.cell? ⟨gb387, 2, none⟩ = some (.int .i64 0) := (blk_cell BK387.out 2).trans rfl; have hcz20_3 : w19.cell? ⟨gb387, 3, none⟩ = some (.slice none 0 0) := (blk_cell BK387.out 3).trans rfl; have hfz20_0 := blk_frozen BK387.out 0; have hfz20_1 := blk_frozen BK387.out 1; have hfz20_2 := blk_frozen BK387.out 2; have hfz20_3 := blk_frozen BK387.out 3; obtain ⟨Ao21, co21, eo21⟩ := Kd.R_slice HO385.out; subst eo21) | ((with_reducible refine gate_callee (f := 30) rfl ?_); refine goesL_ (some 22) rfl rfl Try.func30 (by kernel_rfl) rfl #[.slice A0 l0.length c0] rfl (by (try simp only [List.map_toArray, List.map_cons, List.map_nil]); first | done | rfl | (simp only [List.length_drop, List.length_take]; rfl)) ?_; (with_reducible refine (hopmeshlaw11_cp.calls _ _ l0 t388 _ ?side1 ?side2 A9.out).mono ?_); (case side1 => exact Kd.C_below HR0.out (by repeat (first | (with_reducible first | exact HB.out | apply below_alloc | apply pw_below_drewN | apply below_drew1 | refine below_set ?_ GE387.out) | exact HB.out))); (case side2 => exact HC0.out); rintro e w22 ⟨v389, rfl, ho0, hb⟩; refine ⟨_, rfl, ?_⟩; have n0_ := Aside0.mk (Kd.S_elder' (by (with_reducible repeat (first | apply Kd.S_alloc | apply Kd.S_drewN | apply Kd.S_drew)); exact (Kd.S_mono (Kd.S_far (p := ⟨gb387, 3, none⟩) (Kd.S_far (p := ⟨gb387, 2, none⟩) (Kd.S_far (p := ⟨gb387, 1, none⟩) (Kd.S_far (p := ⟨gb387, 0, none⟩) (Kd.S_mono HO379.out (fun k_ hk => (⟨hk, hk.2⟩ : _ ∧ k_ ≠ gb387))) (fun _ hk => hk.2) (.int .i64 t380)) (fun _ hk => hk.2) (.int .i64 t381)) (fun _ hk => hk.2) (.int .i64 t382)) (fun _ hk => hk.2) (.slice Ao21 t383.length co21)) (fun _ h_ => h_.1))) (Kd.S_base ho0) hb); have n1_ := Aside0.mk (Kd.R_below (by (with_reducible repeat (first | apply Kd.R_alloc | apply Kd.R_drewN | apply Kd.R_drew)); exact (Kd.R_mono (Kd.R_far (p := ⟨gb387, 3, none⟩) (Kd.R_far (p := ⟨gb387, 2, none⟩) (Kd.R_far (p := ⟨gb387, 1, none⟩) (Kd.R_far (p := ⟨gb387, 0, none⟩) (Kd.R_types HO385.out BK387.out (by decide)) (fun _ hk => hk.2) (.int .i64 t380)) (fun _ hk => hk.2) (.int .i64 t381)) (fun _ hk => hk.2) (.int .i64 t382)) (fun _ hk => hk.2) (.slice Ao21 t383.length co21)) (fun _ h_ => h_.1))) hb); have n2_ := Aside0.mk (Kd.S_lower (Kd.S_newB (Kd.S_new' (Kd.S_new' ho0 (Kd.S_lt (by (with_reducible repeat (first | apply Kd.S_alloc | apply Kd.S_drewN | apply Kd.S_drew)); exact (Kd.S_mono (Kd.S_far (p := ⟨gb387, 3, none⟩) (Kd.S_far (p := ⟨gb387, 2, none⟩) (Kd.S_far (p := ⟨gb387, 1, none⟩) (Kd.S_far (p := ⟨gb387, 0, none⟩) (Kd.S_mono HO379.out (fun k_ hk => (⟨hk, hk.2⟩ : _ ∧ k_ ≠ gb387))) (fun _ hk => hk.2) (.int .i64 t380)) (fun _ hk => hk.2) (.int .i64 t381)) (fun _ hk => hk.2) (.int .i64 t382)) (fun _ hk => hk.2) (.slice Ao21 t383.length co21)) (fun _ h_ => h_.1))))) (Kd.R_lt (by (with_reducible repeat (first | apply Kd.R_alloc | apply Kd.R_drewN | apply Kd.R_drew)); exact (Kd.R_mono (Kd.R_far (p := ⟨gb387, 3, none⟩) (Kd.R_far (p := ⟨gb387, 2, none⟩) (Kd.R_far (p := ⟨gb387, 1, none⟩) (Kd.R_far (p := ⟨gb387, 0, none⟩) (Kd.R_types HO385.out BK387.out (by decide)) (fun _ hk => hk.2) (.int .i64 t380)) (fun _ hk => hk.2) (.int .i64 t381)) (fun _ hk => hk.2) (.int .i64 t382)) (fun _ hk => hk.2) (.slice Ao21 t383.length co21)) (fun _ h_ => h_.1))))) (g := gb387) (o := .cells #[.int .i64 t380, .int .i64 t381, .int .i64 t382, .slice Ao21 t383.length co21] 24 (0, 0)) (by (with_reducible repeat (first | refine blk_drewN ?_ _ | refine blk_drew ?_ | refine blk_alloc ?_ _)); refine blk_put (cs := #[.int .i64 t380, .int .i64 t381, .int .i64 t382, .slice none 0 0]) ?_ 3 _ rfl; (with_reducible repeat (first | refine blk_drewN ?_ _ | refine blk_drew ?_ | refine blk_alloc ?_ _)); refine blk_put (cs := #[.int .i64 t380, .int .i64 t381, .int .i64 0, .slice none 0 0]) ?_ 2 _ rfl; (with_reducible repeat (first | refine blk_drewN ?_ _ | refine blk_drew ?_ | refine blk_alloc ?_ _)); refine blk_put (cs := #[.int .i64 t380, .int .i64 0, .int .i64 0, .slice none 0 0]) ?_ 1 _ rfl; (with_reducible repeat (first | refine blk_drewN ?_ _ | refine blk_drew ?_ | refine blk_alloc ?_ _)); refine blk_put (cs := #[.int .i64 0, .int .i64 0, .int .i64 0, .slice none 0 0]) ?_ 0 _ rfl; (with_reducible repeat (first | refine blk_drewN ?_ _ | refine blk_drew ?_ | refine blk_alloc ?_ _)); exact BK387.out)) (below_size (by repeat (first | (with_reducible first | exact HB.out | apply below_alloc | apply pw_below_drewN | apply below_drew1 | refine below_set ?_ GE387.out) | exact HB.out)))); have n3_ := Aside0.mk (blk_below (g := gb387) (o := .cells #[.int .i64 t380, .int .i64 t381, .int .i64 t382, .slice Ao21 t383.length co21] 24 (0, 0)) (by (with_reducible repeat (first | refine blk_drewN ?_ _ | refine blk_drew ?_ | refine blk_alloc ?_ _)); refine blk_put (cs := #[.int .i64 t380, .int .i64 t381, .int .i64 t382, .slice none 0 0]) ?_ 3 _ rfl; (with_reducible repeat (first | refine blk_drewN ?_ _ | refine blk_drew ?_ | refine blk_alloc ?_ _)); refine blk_put (cs := #[.int .i64 t380, .int .i64 t381, .int .i64 0, .slice none 0 0]) ?_ 2 _ rfl; (with_reducible repeat (first | refine blk_drewN ?_ _ | refine blk_drew ?_ | refine blk_alloc ?_ _)); refine blk_put (cs := #[.int .i64 t380, .int .i64 0, .int .i64 0, .slice none 0 0]) ?_ 1 _ rfl; (with_reducible repeat (first | refine blk_drewN ?_ _ | refine blk_drew ?_ | refine blk_alloc ?_ _)); refine blk_put (cs := #[.int .i64 0, .int .i64 0, .int .i64 0, .slice none 0 0]) ?_ 0 _ rfl; (with_reducible repeat (first | refine blk_drewN ?_ _ | refine blk_drew ?_ | refine blk_alloc ?_ _)); exact BK387.out) hb); have n4_ := Aside0.mk (below_step (by repeat (first | (with_reducible first | exact HB.out | apply below_alloc | apply pw_below_drewN | apply below_drew1 | refine below_set ?_ GE387.out) | exact HB.out)) hb); clear HO379; clear HO385; clear BK387; clear HB; have HO379 := n0_; have HO385 := n1_; have HO390 := n2_; have BK387 := n3_; have HB := n4_; clear n0_ n1_ n2_ n3_ n4_; (try clear hb); (try clear hb2); (try clear hk); (try clear hi); (try clear ho0); obtain ⟨Ao23, co23, eo23⟩ := Kd.S_slice HO390.out; subst eo23) | ((with_reducible refine gate_callee (f := 27) rfl ?_); refine goesL_ (some 23) rfl rfl Try.func27 (by kernel_rfl) rfl #[.slice Ao23 t388.length co23] rfl (by (try simp only [List.map_toArray, List.map_cons, List.map_nil]); first | done | rfl | (simp only [List.length_drop, List.length_take]; rfl)) ?_; (with_reducible refine (hop_CheckAll.calls k _ _ t388 t391 _ ?side1 ?side2 A10.out).mono ?_); (case side1 => repeat (first | exact (Kd.S_reads' HO390.out).2.2 | (with_reducible refine Kd.C_alloc ?_ _) | (with_reducible refine Kd.C_drewN ?_ _) | (with_reducible refine Kd.C_drew ?_))); (case side2 => exact (Kd.S_reads' HO390.out).2.1); rintro e w24 ⟨rfl, hb⟩; refine ⟨_, rfl, ?_⟩; have n0_ := Aside0.mk (Kd.S_below (by (with_reducible repeat (first | apply Kd.S_alloc | apply Kd.S_drewN | apply Kd.S_drew)); exact HO379.out) hb); have n1_ := Aside0.mk (Kd.R_below (by (with_reducible repeat (first | apply Kd.R_alloc | apply Kd.R_drewN | apply Kd.R_drew)); exact HO385.out) hb); have n2_ := Aside0.mk (Kd.S_below (by (with_reducible repeat (first | apply Kd.S_alloc | apply Kd.S_drewN | apply Kd.S_drew)); exact HO390.out) hb); have n3_ := Aside0.mk (blk_below (g := gb387) (o := .cells #[.int .i64 t380, .int .i64 t381, .int .i64 t382, .slice Ao21 t383.length co21] 24 (0, 0)) (by (with_reducible repeat (first | refine blk_drewN ?_ _ | refine blk_drew ?_ | refine blk_alloc ?_ _)); exact BK387.out) hb); have n4_ := Aside0.mk (below_step (by repeat (first | (with_reducible first | exact HB.out | apply below_alloc | apply pw_below_drewN | apply below_drew1 | refine below_set ?_ GE387.out) | exact HB.out)) hb); clear HO379; clear HO385; clear HO390; clear BK387; clear HB; have HO379 := n0_; have HO385 := n1_; have HO390 := n2_; have BK387 := n3_; have HB := n4_; clear n0_ n1_ n2_ n3_ n4_; (try clear hb); (try clear hb2); (try clear hk); (try clear hi)))
          (try simp only [Act.put, List.setIfInBounds_toArray, List.set_cons_zero, List.set_cons_succ])
          go_cut [8] (fun v8 wc => ∃ (kq : Nat) (x8_12 : Bool), v8 = .bool x8_12 ∧ Aside0 (hopmeshlaw11_HopCovers.j0 kq l0 a1 t386 x8_12 t380 t381 t382 t383 = some r) ∧ Aside0 (kq ≤ k) ∧ Aside0 (Kd.R (Kd.int .i64) 3 wc w.heap.size (fun _ => True) (.slice Ao21 t383.length co21) t383) ∧ Aside0 (wc.heap[gb387]? = some (.cells #[.int .i64 t380, .int .i64 t381, .int .i64 t382, (.slice Ao21 t383.length co21)] 24 (0, 0))) ∧ Aside0 (Below w.heap.size w wc))
          case first =>
            have H := HC13.out
            clear HC13
            by_cases c25 : 0 < (l0.length : Int)
            · rw [if_pos c25] at H
              have c25b0 : decide (0 < (l0.length : Int)) = true := decide_eq_true c25
              have c25b1 : decide (0 < l0.length) = true := decide_eq_true (by omega)
              clear c25
              (first | rw [c25b0] | (simp only [i64_w, i32_w]; rw [c25b0]) | skip)
              by_cases c26 : a1 ≥ ((rd_T24 l0 0).f1)
              · rw [if_pos c26] at H
                have c26b0 : decide (((rd_T24 l0 0).f1) ≤ a1) = true := decide_eq_true c26
                clear c26
                obtain ⟨ji27, hji27⟩ : ∃ j_ : Int, (wrap64 ((l0.length : Int) - 1)) = j_ := ⟨_, rfl⟩
                replace H : (if 0 ≤ (ji27) then (if (ji27) < (l0.length : Int) then (hopmeshlaw11_HopCovers.j0 k l0 a1 t386 (decide (a1 < ((rd_T24 l0 (ji27)).f2))) t380 t381 t382 t383) else (none)) else (none)) = some r := by first | (rw [hji27] at H; exact H) | (simp only [hji27] at H ⊢; exact H)
                have hji27w : (IntKind.i64.wrap ((l0.length : Int) - 1)) = ji27 := (i64_w _).trans hji27
                by_cases c28 : 0 ≤ (ji27)
                · rw [if_pos c28] at H
                  have c28b0 : decide (0 ≤ (ji27)) = true := decide_eq_true c28
                  clear c28
                  by_cases c29 : (ji27) < (l0.length : Int)
                  · rw [if_pos c29] at H
                    have c29b0 : decide ((ji27) < (l0.length : Int)) = true := decide_eq_true c29
                    clear c29
                    have H' := Aside0.mk H
                    clear H
                    have p392 : 0 ≤ (0 : Int) := (by omega)
                    have q392 : 0 < (l0.length : Int) := of_decide_eq_true (by first | (with_reducible assumption) | assumption)
                    obtain ⟨ad392, A392_3, c392_3, e392, hx392_0, hx392_1, hx392_2, hx392_3, hl392_3, hi392_3⟩ := at_T24 HR0.out 0 p392 q392
                    cases e392
                    have qi392 : (0 < l0.length) = True := eq_true (by omega)
                    (try rw [show ((0 : Int)).toNat = 0 from rfl] at hx392_0)
                    (try rw [show 0 * 4 = 0 from rfl] at hx392_0)
                    (try rw [Addr.add_zero'] at hx392_0)
                    (try rw [show ((0 : Int)).toNat = 0 from rfl] at hx392_1)
                    (try rw [show 0 * 4 = 0 from rfl] at hx392_1)
                    (try rw [Addr.add_zero'] at hx392_1)
                    (try rw [show ((0 : Int)).toNat = 0 from rfl] at hx392_2)
                    (try rw [show 0 * 4 = 0 from rfl] at hx392_2)
                    (try rw [Addr.add_zero'] at hx392_2)
                    (try rw [show ((0 : Int)).toNat = 0 from rfl] at hx392_3)
                    (try rw [show 0 * 4 = 0 from rfl] at hx392_3)
                    (try rw [Addr.add_zero'] at hx392_3)
                    replace hx392_0 := (HB.out.cell (World.block_lt_of_cell? w _ hx392_0)).trans hx392_0
                    replace hx392_1 := (HB.out.cell (World.block_lt_of_cell? w _ hx392_1)).trans hx392_1
                    replace hx392_2 := (HB.out.cell (World.block_lt_of_cell? w _ hx392_2)).trans hx392_2
                    replace hx392_3 := (HB.out.cell (World.block_lt_of_cell? w _ hx392_3)).trans hx392_3
                    have HR392_3 := Aside0.mk hi392_3
                    have HC392_3 := Aside0.mk hl392_3
                    clear hi392_3 hl392_3
                    replace p392 := eq_true p392
                    replace q392 := eq_true q392
                    have p393 : 0 ≤ ((ji27) : Int) := of_decide_eq_true (by first | (with_reducible assumption) | assumption)
                    have q393 : (ji27) < (l0.length : Int) := of_decide_eq_true (by first | (with_reducible assumption) | assumption)
                    obtain ⟨ad393, A393_3, c393_3, e393, hx393_0, hx393_1, hx393_2, hx393_3, hl393_3, hi393_3⟩ := at_T24 HR0.out (ji27) p393 q393
                    obtain rfl : ad392 = ad393 := (by injection e393)
                    replace hx393_0 := (HB.out.cell (World.block_lt_of_cell? w _ hx393_0)).trans hx393_0
                    replace hx393_1 := (HB.out.cell (World.block_lt_of_cell? w _ hx393_1)).trans hx393_1
                    replace hx393_2 := (HB.out.cell (World.block_lt_of_cell? w _ hx393_2)).trans hx393_2
                    replace hx393_3 := (HB.out.cell (World.block_lt_of_cell? w _ hx393_3)).trans hx393_3
                    have HR393_3 := Aside0.mk hi393_3
                    have HC393_3 := Aside0.mk hl393_3
                    clear hi393_3 hl393_3
                    replace p393 := eq_true p393
                    replace q393 := eq_true q393
                    go_wp2
                    go_meet
                    case rel => exact ⟨_, (decide (a1 < ((rd_T24 l0 (ji27)).f2))), (by first | rfl | (simp; done) | (simp only [← hji27] <;> (first | rfl | simp)) | (simp [*]; done)), H', ⟨by first | omega | exact Nat.le_refl _⟩, ⟨by (with_reducible repeat (first | apply Kd.R_alloc | apply Kd.R_drewN | apply Kd.R_drew)); exact HO385.out⟩, ⟨by (with_reducible repeat (first | refine blk_drewN ?_ _ | refine blk_drew ?_ | refine blk_alloc ?_ _)); exact BK387.out⟩, ⟨by repeat (first | (with_reducible first | exact HB.out | apply below_alloc | apply pw_below_drewN | apply below_drew1 | refine below_set ?_ GE387.out) | exact HB.out)⟩⟩
                  · rw [if_neg c29] at H
                    exact absurd H (by simp)
                · rw [if_neg c28] at H
                  exact absurd H (by simp)
              · rw [if_neg c26] at H
                have c26b0 : decide (((rd_T24 l0 0).f1) ≤ a1) = false := decide_eq_false c26
                clear c26
                have H' := Aside0.mk H
                clear H
                have p392 : 0 ≤ (0 : Int) := (by omega)
                have q392 : 0 < (l0.length : Int) := of_decide_eq_true (by first | (with_reducible assumption) | assumption)
                obtain ⟨ad392, A392_3, c392_3, e392, hx392_0, hx392_1, hx392_2, hx392_3, hl392_3, hi392_3⟩ := at_T24 HR0.out 0 p392 q392
                cases e392
                have qi392 : (0 < l0.length) = True := eq_true (by omega)
                (try rw [show ((0 : Int)).toNat = 0 from rfl] at hx392_0)
                (try rw [show 0 * 4 = 0 from rfl] at hx392_0)
                (try rw [Addr.add_zero'] at hx392_0)
                (try rw [show ((0 : Int)).toNat = 0 from rfl] at hx392_1)
                (try rw [show 0 * 4 = 0 from rfl] at hx392_1)
                (try rw [Addr.add_zero'] at hx392_1)
                (try rw [show ((0 : Int)).toNat = 0 from rfl] at hx392_2)
                (try rw [show 0 * 4 = 0 from rfl] at hx392_2)
                (try rw [Addr.add_zero'] at hx392_2)
                (try rw [show ((0 : Int)).toNat = 0 from rfl] at hx392_3)
                (try rw [show 0 * 4 = 0 from rfl] at hx392_3)
                (try rw [Addr.add_zero'] at hx392_3)
                replace hx392_0 := (HB.out.cell (World.block_lt_of_cell? w _ hx392_0)).trans hx392_0
                replace hx392_1 := (HB.out.cell (World.block_lt_of_cell? w _ hx392_1)).trans hx392_1
                replace hx392_2 := (HB.out.cell (World.block_lt_of_cell? w _ hx392_2)).trans hx392_2
                replace hx392_3 := (HB.out.cell (World.block_lt_of_cell? w _ hx392_3)).trans hx392_3
                have HR392_3 := Aside0.mk hi392_3
                have HC392_3 := Aside0.mk hl392_3
                clear hi392_3 hl392_3
                replace p392 := eq_true p392
                replace q392 := eq_true q392
                go_wp2
                go_meet
                case rel => exact ⟨_, (false), (by first | rfl | (simp; done) | (simp [*]; done)), H', ⟨by first | omega | exact Nat.le_refl _⟩, ⟨by (with_reducible repeat (first | apply Kd.R_alloc | apply Kd.R_drewN | apply Kd.R_drew)); exact HO385.out⟩, ⟨by (with_reducible repeat (first | refine blk_drewN ?_ _ | refine blk_drew ?_ | refine blk_alloc ?_ _)); exact BK387.out⟩, ⟨by repeat (first | (with_reducible first | exact HB.out | apply below_alloc | apply pw_below_drewN | apply below_drew1 | refine below_set ?_ GE387.out) | exact HB.out)⟩⟩
            · rw [if_neg c25] at H
              exact absurd H (by simp)
          case rest =>
            clear HC13
            try clear c1
            try clear c2
            try clear p2
            try clear c3
            try clear p3
            try clear q3
            try clear hx3
            try clear qi3
            try clear c4
            try clear c6
            try clear p6
            try clear c10
            try clear c11
            try clear c11b0
            try clear c11b1
            try clear c12
            try clear c12b0
            try clear c12b1
            try clear c12b2
            try clear c25
            try clear c25b0
            try clear c25b1
            try clear c26
            try clear c26b0
            try clear c27
            try clear c28
            try clear c28b0
            try clear c29
            try clear c29b0
            try clear hcz20_0
            try clear hcz20_1
            try clear hcz20_2
            try clear hcz20_3
            try clear hfz20_0
            try clear hfz20_1
            try clear hfz20_2
            try clear hfz20_3
            try clear hx392_0
            try clear hx392_1
            try clear hx392_2
            try clear hx392_3
            try clear hx393_0
            try clear hx393_1
            try clear hx393_2
            try clear hx393_3
            try clear p392
            try clear p393
            try clear q392
            try clear q393
            obtain ⟨kq, x8_12, rfl, HA, HJ12, HO_388003, BK387, HB⟩ := hcut
            cases kq with
            | zero => exact absurd HA.out (by simp [hopmeshlaw11_HopCovers.j0])
            | succ kj12 =>
              have H := HA.out
              clear HA
              simp only [hopmeshlaw11_HopCovers.j0] at H
              by_cases c30 : x8_12 = true
              · subst c30
                have H1 : (if t386 = 0 then (if a1 < t381 then (hopmeshlaw11_HopCovers.j1 kj12 l0 true t380 t381 t382 t383) else (hopmeshlaw11_HopCovers.j1 kj12 l0 (decide (a1 ≥ t382)) t380 t381 t382 t383)) else (hopmeshlaw11_HopCovers.j1 kj12 l0 true t380 t381 t382 t383)) = some r := by rw [if_pos rfl] at H; exact H
                clear H
                have H := H1
                clear H1
                have HC31 := Aside0.mk H
                clear H
                go_upto_region 14 with (fail)
                go_cut [78] (fun v78 wc => ∃ (kq : Nat) (x78_30 : Bool), v78 = .bool x78_30 ∧ Aside0 (hopmeshlaw11_HopCovers.j1 kq l0 x78_30 t380 t381 t382 t383 = some r) ∧ Aside0 (kq ≤ kj12) ∧ Aside0 (Kd.R (Kd.int .i64) 3 wc w.heap.size (fun _ => True) (.slice Ao21 t383.length co21) t383) ∧ Aside0 (wc.heap[gb387]? = some (.cells #[.int .i64 t380, .int .i64 t381, .int .i64 t382, (.slice Ao21 t383.length co21)] 24 (0, 0))) ∧ Aside0 (Below w.heap.size w wc))
                case first =>
                  have H := HC31.out
                  clear HC31
                  by_cases c32 : t386 = 0
                  · rw [if_pos c32] at H
                    have c32b0 : (t386 == 0) = true := beq_iff_eq.mpr c32
                    have c32b1 : (t386 != 0) = false := bne_eq_false_iff_eq.mpr c32
                    clear c32
                    (first | rw [c32b0] | (simp only [i64_w, i32_w]; rw [c32b0]) | skip)
                    by_cases c33 : a1 < t381
                    · rw [if_pos c33] at H
                      have c33b0 : decide (a1 < t381) = true := decide_eq_true c33
                      clear c33
                      have H' := Aside0.mk H
                      clear H
                      have hcz34_0 : wc.cell? ⟨gb387, 0, none⟩ = some (.int .i64 t380) := (blk_cell BK387.out 0).trans rfl
                      have hcz34_1 : wc.cell? ⟨gb387, 1, none⟩ = some (.int .i64 t381) := (blk_cell BK387.out 1).trans rfl
                      have hcz34_2 : wc.cell? ⟨gb387, 2, none⟩ = some (.int .i64 t382) := (blk_cell BK387.out 2).trans rfl
                      have hcz34_3 : wc.cell? ⟨gb387, 3, none⟩ = some (.slice Ao21 t383.length co21) := (blk_cell BK387.out 3).trans rfl
                      have hfz34_0 := blk_frozen BK387.out 0
                      have hfz34_1 := blk_frozen BK387.out 1
                      have hfz34_2 := blk_frozen BK387.out 2
                      have hfz34_3 := blk_frozen BK387.out 3
                      go_wp2
                      go_meet
                      case rel => exact ⟨_, (true), (by first | rfl | (simp; done) | (simp [*]; done)), H', ⟨by have := HJ12.out; first | omega | exact Nat.le_refl _⟩, ⟨by (with_reducible repeat (first | apply Kd.R_alloc | apply Kd.R_drewN | apply Kd.R_drew)); exact HO_388003.out⟩, ⟨by (with_reducible repeat (first | refine blk_drewN ?_ _ | refine blk_drew ?_ | refine blk_alloc ?_ _)); exact BK387.out⟩, ⟨by repeat (first | (with_reducible first | exact HB.out | apply below_alloc | apply pw_below_drewN | apply below_drew1 | refine below_set ?_ GE387.out) | exact HB.out)⟩⟩
                    · rw [if_neg c33] at H
                      have c33b0 : decide (a1 < t381) = false := decide_eq_false c33
                      clear c33
                      have H' := Aside0.mk H
                      clear H
                      have hcz35_0 : wc.cell? ⟨gb387, 0, none⟩ = some (.int .i64 t380) := (blk_cell BK387.out 0).trans rfl
                      have hcz35_1 : wc.cell? ⟨gb387, 1, none⟩ = some (.int .i64 t381) := (blk_cell BK387.out 1).trans rfl
                      have hcz35_2 : wc.cell? ⟨gb387, 2, none⟩ = some (.int .i64 t382) := (blk_cell BK387.out 2).trans rfl
                      have hcz35_3 : wc.cell? ⟨gb387, 3, none⟩ = some (.slice Ao21 t383.length co21) := (blk_cell BK387.out 3).trans rfl
                      have hfz35_0 := blk_frozen BK387.out 0
                      have hfz35_1 := blk_frozen BK387.out 1
                      have hfz35_2 := blk_frozen BK387.out 2
                      have hfz35_3 := blk_frozen BK387.out 3
                      go_wp2
                      go_meet
                      case rel => exact ⟨_, (decide (a1 ≥ t382)), (by first | rfl | (simp; done) | (simp [*]; done)), H', ⟨by have := HJ12.out; first | omega | exact Nat.le_refl _⟩, ⟨by (with_reducible repeat (first | apply Kd.R_alloc | apply Kd.R_drewN | apply Kd.R_drew)); exact HO_388003.out⟩, ⟨by (with_reducible repeat (first | refine blk_drewN ?_ _ | refine blk_drew ?_ | refine blk_alloc ?_ _)); exact BK387.out⟩, ⟨by repeat (first | (with_reducible first | exact HB.out | apply below_alloc | apply pw_below_drewN | apply below_drew1 | refine below_set ?_ GE387.out) | exact HB.out)⟩⟩
                  · rw [if_neg c32] at H
                    have c32b0 : (t386 == 0) = false := beq_eq_false_iff_ne.mpr c32
                    have c32b1 : (t386 != 0) = true := bne_iff_ne.mpr c32
                    (first | rw [c32b0] | (simp only [i64_w, i32_w]; rw [c32b0]) | skip)
                    have H' := Aside0.mk H
                    clear H
                    go_wp2
                    go_meet
                    case rel => exact ⟨_, (true), (by first | rfl | (simp; done) | (simp [*]; done)), H', ⟨by have := HJ12.out; first | omega | exact Nat.le_refl _⟩, ⟨by (with_reducible repeat (first | apply Kd.R_alloc | apply Kd.R_drewN | apply Kd.R_drew)); exact HO_388003.out⟩, ⟨by (with_reducible repeat (first | refine blk_drewN ?_ _ | refine blk_drew ?_ | refine blk_alloc ?_ _)); exact BK387.out⟩, ⟨by repeat (first | (with_reducible first | exact HB.out | apply below_alloc | apply pw_below_drewN | apply below_drew1 | refine below_set ?_ GE387.out) | exact HB.out)⟩⟩
                case rest =>
                  clear HC31
                  try clear c1
                  try clear c2
                  try clear p2
                  try clear c3
                  try clear p3
                  try clear q3
                  try clear hx3
                  try clear qi3
                  try clear c4
                  try clear c6
                  try clear p6
                  try clear c10
                  try clear c11
                  try clear c11b0
                  try clear c11b1
                  try clear c12
                  try clear c12b0
                  try clear c12b1
                  try clear c12b2
                  try clear c25
                  try clear c25b0
                  try clear c25b1
                  try clear c26
                  try clear c26b0
                  try clear c27
                  try clear c28
                  try clear c28b0
                  try clear c29
                  try clear c29b0
                  try clear c30
                  try clear c32
                  try clear c32b0
                  try clear c32b1
                  try clear c33
                  try clear c33b0
                  try clear hcz20_0
                  try clear hcz20_1
                  try clear hcz20_2
                  try clear hcz20_3
                  try clear hcz34_0
                  try clear hcz34_1
                  try clear hcz34_2
                  try clear hcz34_3
                  try clear hcz35_0
                  try clear hcz35_1
                  try clear hcz35_2
                  try clear hcz35_3
                  try clear hfz20_0
                  try clear hfz20_1
                  try clear hfz20_2
                  try clear hfz20_3
                  try clear hfz34_0
                  try clear hfz34_1
                  try clear hfz34_2
                  try clear hfz34_3
                  try clear hfz35_0
                  try clear hfz35_1
                  try clear hfz35_2
                  try clear hfz35_3
                  try clear hx392_0
                  try clear hx392_1
                  try clear hx392_2
                  try clear hx392_3
                  try clear hx393_0
                  try clear hx393_1
                  try clear hx393_2
                  try clear hx393_3
                  try clear p2
                  try clear p3
                  try clear p392
                  try clear p393
                  try clear p6
                  try clear q3
                  try clear q392
                  try clear q393
                  obtain ⟨kq, x78_30, rfl, HA, HJ30, HO_388003, BK387, HB⟩ := hcut
                  cases kq with
                  | zero => exact absurd HA.out (by simp [hopmeshlaw11_HopCovers.j1])
                  | succ kj30 =>
                    have H := HA.out
                    clear HA
                    simp only [hopmeshlaw11_HopCovers.j1] at H
                    by_cases c36 : x78_30 = true
                    · subst c36
                      have H1 : (some false) = some r := by rw [if_pos rfl] at H; exact H
                      clear H
                      have H := H1
                      clear H1
                      exact absurd (H.trans (congrArg some HRT.out)) (by simp)
                    · replace c36 := Bool.eq_false_iff.mpr c36
                      subst c36
                      have H1 : ((slices_ContainsFunc_api_HopList_api_HopList__hopmeshlaw11_HopCovers_1.f l0 t380 t381 t382 t383).bind fun t394 => (some t394)) = some r := by rw [if_neg (show ¬ (false = true) by decide)] at H; exact H
                      clear H
                      have H := H1
                      clear H1
                      replace H := Option.bind_eq_some_iff.mp H
                      obtain ⟨t394, A370, H⟩ := H
                      replace H : (some t394) = some r := H
                      have A37 := Aside0.mk A370
                      clear A370
                      obtain rfl := Option.some.inj H
                      go_wp2_with (first | (go_at_call 33; (with_reducible refine (slices_ContainsFunc_api_HopList_api_HopList__hopmeshlaw11_HopCovers_1.calls _ _ l0 gb387 t380 t381 t382 Ao21 co21 t383 t394 _ ?side1 ?side2 ?side3 ?side4 ?side5 A37.out).mono ?_); (case side1 => repeat (first | exact (Kd.C_below HR0.out HB.out) | (with_reducible refine Kd.C_alloc ?_ _) | (with_reducible refine Kd.C_drewN ?_ _) | (with_reducible refine Kd.C_drew ?_))); (case side2 => exact HC0.out); (case side3 => repeat (first | exact (Kd.R_reads' HO_388003.out).2.2 | (with_reducible refine Kd.C_alloc ?_ _) | (with_reducible refine Kd.C_drewN ?_ _) | (with_reducible refine Kd.C_drew ?_))); (case side4 => exact (Kd.R_reads' HO_388003.out).2.1); (case side5 => (with_reducible repeat (first | refine blk_drewN ?_ _ | refine blk_drew ?_ | refine blk_alloc ?_ _)); exact BK387.out); rintro e w38 ⟨rfl, hb⟩; have n0_ := Aside0.mk (Kd.R_below (by (with_reducible repeat (first | apply Kd.R_alloc | apply Kd.R_drewN | apply Kd.R_drew)); exact HO_388003.out) hb); have n1_ := Aside0.mk (blk_below (g := gb387) (o := .cells #[.int .i64 t380, .int .i64 t381, .int .i64 t382, .slice Ao21 t383.length co21] 24 (0, 0)) (by (with_reducible repeat (first | refine blk_drewN ?_ _ | refine blk_drew ?_ | refine blk_alloc ?_ _)); exact BK387.out) hb); have n2_ := Aside0.mk (below_step (by repeat (first | (with_reducible first | exact HB.out | apply below_alloc | apply pw_below_drewN | apply below_drew1 | refine below_set ?_ GE387.out) | exact HB.out)) hb); clear HO_388003; clear BK387; clear HB; have HO_388003 := n0_; have BK387 := n1_; have HB := n2_; clear n0_ n1_ n2_; (try clear hb); (try clear hb2); (try clear hk); (try clear hi)))
                      go_ret
                      exact ⟨by first | rfl | (simp [errW_none, errW_some] <;> rfl) | (simp [*, errW_none, errW_some] <;> rfl), by repeat (first | (with_reducible first | exact HB.out | apply below_alloc | apply pw_below_drewN | apply below_drew1 | refine below_set ?_ GE387.out) | exact HB.out)⟩
              · replace c30 := Bool.eq_false_iff.mpr c30
                subst c30
                have H1 : (if t386 = 7 then (some ((t383.length : Int) == 0)) else (some false)) = some r := by rw [if_neg (show ¬ (false = true) by decide)] at H; exact H
                clear H
                have H := H1
                clear H1
                by_cases c39 : t386 = 7
                · rw [if_pos c39] at H
                  have c39b0 : (t386 == 7) = true := beq_iff_eq.mpr c39
                  have c39b1 : (t386 != 7) = false := bne_eq_false_iff_eq.mpr c39
                  clear c39
                  obtain rfl := Option.some.inj H
                  have hcz40_0 : wc.cell? ⟨gb387, 0, none⟩ = some (.int .i64 t380) := (blk_cell BK387.out 0).trans rfl
                  have hcz40_1 : wc.cell? ⟨gb387, 1, none⟩ = some (.int .i64 t381) := (blk_cell BK387.out 1).trans rfl
                  have hcz40_2 : wc.cell? ⟨gb387, 2, none⟩ = some (.int .i64 t382) := (blk_cell BK387.out 2).trans rfl
                  have hcz40_3 : wc.cell? ⟨gb387, 3, none⟩ = some (.slice Ao21 t383.length co21) := (blk_cell BK387.out 3).trans rfl
                  have hfz40_0 := blk_frozen BK387.out 0
                  have hfz40_1 := blk_frozen BK387.out 1
                  have hfz40_2 := blk_frozen BK387.out 2
                  have hfz40_3 := blk_frozen BK387.out 3
                  go_wp2
                  go_ret
                  exact ⟨by first | rfl | (simp [errW_none, errW_some] <;> rfl) | (simp [*, errW_none, errW_some] <;> rfl), by repeat (first | (with_reducible first | exact HB.out | apply below_alloc | apply pw_below_drewN | apply below_drew1 | refine below_set ?_ GE387.out) | exact HB.out)⟩
                · rw [if_neg c39] at H
                  have c39b0 : (t386 == 7) = false := beq_eq_false_iff_ne.mpr c39
                  have c39b1 : (t386 != 7) = true := bne_iff_ne.mpr c39
                  exact absurd (H.trans (congrArg some HRT.out)) (by simp)
      · rw [if_neg c11] at H
        have c11b0 : (t391 == 0) = false := beq_eq_false_iff_ne.mpr c11
        have c11b1 : (t391 != 0) = true := bne_iff_ne.mpr c11
        by_cases c41 : t386 = t391
        · rw [if_pos c41] at H
          have c41b0 : (t386 == t391) = true := beq_iff_eq.mpr c41
          have c41b1 : (t386 != t391) = false := bne_eq_false_iff_eq.mpr c41
          clear c41
          obtain rfl := Option.some.inj H
          go_enter Try.func10, Try.ntmps10
          go_wp2_with (first | ((with_reducible refine gate_callee (f := 11) rfl ?_); refine goesL_ (some 9) rfl rfl Try.func11 (by kernel_rfl) rfl #[] rfl (by (try simp only [List.map_toArray, List.map_cons, List.map_nil]); first | done | rfl | (simp only [List.length_drop, List.length_take]; rfl)) ?_; (with_reducible refine (hopmeshlaw11_awake.calls  true _ A3.out).mono ?_); rintro e w42 ⟨rfl, hb⟩; refine ⟨_, rfl, ?_⟩; have n0_ := Aside0.mk (below_step (by repeat (first | (with_reducible first | exact HB.out | apply below_alloc | apply pw_below_drewN | apply below_drew1) | exact HB.out)) hb); clear HB; have HB := n0_; clear n0_; (try clear hb); (try clear hb2); (try clear hk); (try clear hi)) | ((with_reducible refine gate_callee (f := 28) rfl ?_); refine goesL_ (some 12) rfl rfl Try.func28 (by kernel_rfl) rfl #[.slice A0 l0.length c0] rfl (by (try simp only [List.map_toArray, List.map_cons, List.map_nil]); first | done | rfl | (simp only [List.length_drop, List.length_take]; rfl)) ?_; (with_reducible refine (hopmeshlaw11_few.calls _ _ l0 true _ ?side1 ?side2 A5.out).mono ?_); (case side1 => repeat (first | exact (Kd.C_below HR0.out HB.out) | (with_reducible refine Kd.C_alloc ?_ _) | (with_reducible refine Kd.C_drewN ?_ _) | (with_reducible refine Kd.C_drew ?_))); (case side2 => exact HC0.out); rintro e w43 ⟨rfl, hb⟩; refine ⟨_, rfl, ?_⟩; have n0_ := Aside0.mk (below_step (by repeat (first | (with_reducible first | exact HB.out | apply below_alloc | apply pw_below_drewN | apply below_drew1) | exact HB.out)) hb); clear HB; have HB := n0_; clear n0_; (try clear hb); (try clear hb2); (try clear hk); (try clear hi)) | ((with_reducible refine gate_callee (f := 30) rfl ?_); refine goesL_ (some 16) rfl rfl Try.func30 (by kernel_rfl) rfl #[.slice A0 l0.length c0] rfl (by (try simp only [List.map_toArray, List.map_cons, List.map_nil]); first | done | rfl | (simp only [List.length_drop, List.length_take]; rfl)) ?_; (with_reducible refine (hopmeshlaw11_cp.calls _ _ l0 t377 _ ?side1 ?side2 A7.out).mono ?_); (case side1 => repeat (first | exact (Kd.C_below HR0.out HB.out) | (with_reducible refine Kd.C_alloc ?_ _) | (with_reducible refine Kd.C_drewN ?_ _) | (with_reducible refine Kd.C_drew ?_))); (case side2 => exact HC0.out); rintro e w44 ⟨v378, rfl, ho0, hb⟩; refine ⟨_, rfl, ?_⟩; have n0_ := Aside0.mk (Kd.S_lower ho0 (below_size (by repeat (first | (with_reducible first | exact HB.out | apply below_alloc | apply pw_below_drewN | apply below_drew1) | exact HB.out)))); have n1_ := Aside0.mk (below_step (by repeat (first | (with_reducible first | exact HB.out | apply below_alloc | apply pw_below_drewN | apply below_drew1) | exact HB.out)) hb); clear HB; have HO379 := n0_; have HB := n1_; clear n0_ n1_; (try clear hb); (try clear hb2); (try clear hk); (try clear hi); (try clear ho0); obtain ⟨Ao45, co45, eo45⟩ := Kd.S_slice HO379.out; subst eo45) | ((with_reducible refine gate_callee (f := 29) rfl ?_); refine goesL_ (some 18) rfl rfl Try.func29 (by kernel_rfl) rfl #[.slice Ao45 t377.length co45, .int .i64 a1] rfl (by (try simp only [List.map_toArray, List.map_cons, List.map_nil]); first | done | rfl | (simp only [List.length_drop, List.length_take]; rfl)) ?_; (with_reducible refine (hop_InForce.calls k _ _ t377 a1 t380 t381 t382 t383 t386 _ ?side1 ?side2 A8.out).mono ?_); (case side1 => repeat (first | exact (Kd.S_reads' HO379.out).2.2 | (with_reducible refine Kd.C_alloc ?_ _) | (with_reducible refine Kd.C_drewN ?_ _) | (with_reducible refine Kd.C_drew ?_))); (case side2 => exact (Kd.S_reads' HO379.out).2.1); rintro e w46 ⟨v384, rfl, ho0, hb⟩; refine ⟨_, rfl, ?_⟩; have n0_ := Aside0.mk (Kd.S_elder' (by (with_reducible repeat (first | apply Kd.S_alloc | apply Kd.S_drewN | apply Kd.S_drew)); exact HO379.out) (Kd.R_base ho0) hb); have n1_ := Aside0.mk (Kd.R_lower ho0 (below_size (by repeat (first | (with_reducible first | exact HB.out | apply below_alloc | apply pw_below_drewN | apply below_drew1) | exact HB.out)))); have n2_ := Aside0.mk (below_step (by repeat (first | (with_reducible first | exact HB.out | apply below_alloc | apply pw_below_drewN | apply below_drew1) | exact HB.out)) hb); clear HO379; clear HB; have HO379 := n0_; have HO385 := n1_; have HB := n2_; clear n0_ n1_ n2_; (try clear hb); (try clear hb2); (try clear hk); (try clear hi); (try clear ho0)) | ((with_reducible refine gate_dst (N := 5) rfl ?_); (try (refine gate_guard (by rfl) ?_; dsimp only)); refine box_event ?hg (N := 5) ?hd (cs := #[.int .i64 0, .int .i64 0, .int .i64 0, .slice none 0 0]) (t := 24) ?hr ?_; (case hd => rfl); (case hg => rfl); (case hr => first | (go_simp; done) | (go_simp; rfl)); intro gb387 hg w47 hbox hb; have n0_ := Aside0.mk (Kd.S_below (Kd.S_elderB (by (with_reducible repeat (first | apply Kd.S_alloc | apply Kd.S_drewN | apply Kd.S_drew)); exact HO379.out) gb387 (Nat.le_of_eq hg.symm)) hb); have n1_ := Aside0.mk (Kd.R_below (by (with_reducible repeat (first | apply Kd.R_alloc | apply Kd.R_drewN | apply Kd.R_drew)); exact HO385.out) hb); have n2_ := Aside0.mk (below_step (by repeat (first | (with_reducible first | exact HB.out | apply below_alloc | apply pw_below_drewN | apply below_drew1) | exact HB.out)) hb); have n3_ := Aside0.mk (hbox); have n4_ := Aside0.mk ((by rw [hg]; exact (below_size (by repeat (first | (with_reducible first | exact HB.out | apply below_alloc | apply pw_below_drewN | apply below_drew1) | exact HB.out))) : w.heap.size ≤ gb387)); have n5_ := Aside0.mk ((by rw [hg]; exact (below_size (by repeat (first | (with_reducible first | exact HB.out | apply below_alloc | apply pw_below_drewN | apply below_drew1) | exact HB.out))) : w.heap.size ≤ gb387)); clear HO379; clear HO385; clear HB; have HO379 := n0_; have HO385 := n1_; have HB := n2_; have BK387 := n3_; have GW387 := n4_; have GE387 := n5_; clear n0_ n1_ n2_ n3_ n4_ n5_; clear hb hbox hg; have hcz48_0 : w47.cell? ⟨gb387, 0, none⟩ = some (.int .i64 0) := (blk_cell BK387.out 0).trans rfl; have hcz48_1 : w47.cell? ⟨gb387, 1, none⟩ = some (.int .i64 0) := (blk_cell BK387.out 1).trans rfl; have hcz48_2 : w47.cell? ⟨gb387, 2, none⟩ = some (.int .i64 0) := (blk_cell BK387.out 2).trans rfl; have hcz48_3 : w47.cell? ⟨gb387, 3, none⟩ = some (.slice none 0 0) := (blk_cell BK387.out 3).trans rfl; have hfz48_0 := blk_frozen BK387.out 0; have hfz48_1 := blk_frozen BK387.out 1; have hfz48_2 := blk_frozen BK387.out 2; have hfz48_3 := blk_frozen BK387.out 3; obtain ⟨Ao49, co49, eo49⟩ := Kd.R_slice HO385.out; subst eo49) | ((with_reducible refine gate_callee (f := 30) rfl ?_); refine goesL_ (some 22) rfl rfl Try.func30 (by kernel_rfl) rfl #[.slice A0 l0.length c0] rfl (by (try simp only [List.map_toArray, List.map_cons, List.map_nil]); first | done | rfl | (simp only [List.length_drop, List.length_take]; rfl)) ?_; (with_reducible refine (hopmeshlaw11_cp.calls _ _ l0 t388 _ ?side1 ?side2 A9.out).mono ?_); (case side1 => exact Kd.C_below HR0.out (by repeat (first | (with_reducible first | exact HB.out | apply below_alloc | apply pw_below_drewN | apply below_drew1 | refine below_set ?_ GE387.out) | exact HB.out))); (case side2 => exact HC0.out); rintro e w50 ⟨v389, rfl, ho0, hb⟩; refine ⟨_, rfl, ?_⟩; have n0_ := Aside0.mk (Kd.S_elder' (by (with_reducible repeat (first | apply Kd.S_alloc | apply Kd.S_drewN | apply Kd.S_drew)); exact (Kd.S_mono (Kd.S_far (p := ⟨gb387, 3, none⟩) (Kd.S_far (p := ⟨gb387, 2, none⟩) (Kd.S_far (p := ⟨gb387, 1, none⟩) (Kd.S_far (p := ⟨gb387, 0, none⟩) (Kd.S_mono HO379.out (fun k_ hk => (⟨hk, hk.2⟩ : _ ∧ k_ ≠ gb387))) (fun _ hk => hk.2) (.int .i64 t380)) (fun _ hk => hk.2) (.int .i64 t381)) (fun _ hk => hk.2) (.int .i64 t382)) (fun _ hk => hk.2) (.slice Ao49 t383.length co49)) (fun _ h_ => h_.1))) (Kd.S_base ho0) hb); have n1_ := Aside0.mk (Kd.R_below (by (with_reducible repeat (first | apply Kd.R_alloc | apply Kd.R_drewN | apply Kd.R_drew)); exact (Kd.R_mono (Kd.R_far (p := ⟨gb387, 3, none⟩) (Kd.R_far (p := ⟨gb387, 2, none⟩) (Kd.R_far (p := ⟨gb387, 1, none⟩) (Kd.R_far (p := ⟨gb387, 0, none⟩) (Kd.R_types HO385.out BK387.out (by decide)) (fun _ hk => hk.2) (.int .i64 t380)) (fun _ hk => hk.2) (.int .i64 t381)) (fun _ hk => hk.2) (.int .i64 t382)) (fun _ hk => hk.2) (.slice Ao49 t383.length co49)) (fun _ h_ => h_.1))) hb); have n2_ := Aside0.mk (Kd.S_lower (Kd.S_newB (Kd.S_new' (Kd.S_new' ho0 (Kd.S_lt (by (with_reducible repeat (first | apply Kd.S_alloc | apply Kd.S_drewN | apply Kd.S_drew)); exact (Kd.S_mono (Kd.S_far (p := ⟨gb387, 3, none⟩) (Kd.S_far (p := ⟨gb387, 2, none⟩) (Kd.S_far (p := ⟨gb387, 1, none⟩) (Kd.S_far (p := ⟨gb387, 0, none⟩) (Kd.S_mono HO379.out (fun k_ hk => (⟨hk, hk.2⟩ : _ ∧ k_ ≠ gb387))) (fun _ hk => hk.2) (.int .i64 t380)) (fun _ hk => hk.2) (.int .i64 t381)) (fun _ hk => hk.2) (.int .i64 t382)) (fun _ hk => hk.2) (.slice Ao49 t383.length co49)) (fun _ h_ => h_.1))))) (Kd.R_lt (by (with_reducible repeat (first | apply Kd.R_alloc | apply Kd.R_drewN | apply Kd.R_drew)); exact (Kd.R_mono (Kd.R_far (p := ⟨gb387, 3, none⟩) (Kd.R_far (p := ⟨gb387, 2, none⟩) (Kd.R_far (p := ⟨gb387, 1, none⟩) (Kd.R_far (p := ⟨gb387, 0, none⟩) (Kd.R_types HO385.out BK387.out (by decide)) (fun _ hk => hk.2) (.int .i64 t380)) (fun _ hk => hk.2) (.int .i64 t381)) (fun _ hk => hk.2) (.int .i64 t382)) (fun _ hk => hk.2) (.slice Ao49 t383.length co49)) (fun _ h_ => h_.1))))) (g := gb387) (o := .cells #[.int .i64 t380, .int .i64 t381, .int .i64 t382, .slice Ao49 t383.length co49] 24 (0, 0)) (by (with_reducible repeat (first | refine blk_drewN ?_ _ | refine blk_drew ?_ | refine blk_alloc ?_ _)); refine blk_put (cs := #[.int .i64 t380, .int .i64 t381, .int .i64 t382, .slice none 0 0]) ?_ 3 _ rfl; (with_reducible repeat (first | refine blk_drewN ?_ _ | refine blk_drew ?_ | refine blk_alloc ?_ _)); refine blk_put (cs := #[.int .i64 t380, .int .i64 t381, .int .i64 0, .slice none 0 0]) ?_ 2 _ rfl; (with_reducible repeat (first | refine blk_drewN ?_ _ | refine blk_drew ?_ | refine blk_alloc ?_ _)); refine blk_put (cs := #[.int .i64 t380, .int .i64 0, .int .i64 0, .slice none 0 0]) ?_ 1 _ rfl; (with_reducible repeat (first | refine blk_drewN ?_ _ | refine blk_drew ?_ | refine blk_alloc ?_ _)); refine blk_put (cs := #[.int .i64 0, .int .i64 0, .int .i64 0, .slice none 0 0]) ?_ 0 _ rfl; (with_reducible repeat (first | refine blk_drewN ?_ _ | refine blk_drew ?_ | refine blk_alloc ?_ _)); exact BK387.out)) (below_size (by repeat (first | (with_reducible first | exact HB.out | apply below_alloc | apply pw_below_drewN | apply below_drew1 | refine below_set ?_ GE387.out) | exact HB.out)))); have n3_ := Aside0.mk (blk_below (g := gb387) (o := .cells #[.int .i64 t380, .int .i64 t381, .int .i64 t382, .slice Ao49 t383.length co49] 24 (0, 0)) (by (with_reducible repeat (first | refine blk_drewN ?_ _ | refine blk_drew ?_ | refine blk_alloc ?_ _)); refine blk_put (cs := #[.int .i64 t380, .int .i64 t381, .int .i64 t382, .slice none 0 0]) ?_ 3 _ rfl; (with_reducible repeat (first | refine blk_drewN ?_ _ | refine blk_drew ?_ | refine blk_alloc ?_ _)); refine blk_put (cs := #[.int .i64 t380, .int .i64 t381, .int .i64 0, .slice none 0 0]) ?_ 2 _ rfl; (with_reducible repeat (first | refine blk_drewN ?_ _ | refine blk_drew ?_ | refine blk_alloc ?_ _)); refine blk_put (cs := #[.int .i64 t380, .int .i64 0, .int .i64 0, .slice none 0 0]) ?_ 1 _ rfl; (with_reducible repeat (first | refine blk_drewN ?_ _ | refine blk_drew ?_ | refine blk_alloc ?_ _)); refine blk_put (cs := #[.int .i64 0, .int .i64 0, .int .i64 0, .slice none 0 0]) ?_ 0 _ rfl; (with_reducible repeat (first | refine blk_drewN ?_ _ | refine blk_drew ?_ | refine blk_alloc ?_ _)); exact BK387.out) hb); have n4_ := Aside0.mk (below_step (by repeat (first | (with_reducible first | exact HB.out | apply below_alloc | apply pw_below_drewN | apply below_drew1 | refine below_set ?_ GE387.out) | exact HB.out)) hb); clear HO379; clear HO385; clear BK387; clear HB; have HO379 := n0_; have HO385 := n1_; have HO390 := n2_; have BK387 := n3_; have HB := n4_; clear n0_ n1_ n2_ n3_ n4_; (try clear hb); (try clear hb2); (try clear hk); (try clear hi); (try clear ho0); obtain ⟨Ao51, co51, eo51⟩ := Kd.S_slice HO390.out; subst eo51) | ((with_reducible refine gate_callee (f := 27) rfl ?_); refine goesL_ (some 23) rfl rfl Try.func27 (by kernel_rfl) rfl #[.slice Ao51 t388.length co51] rfl (by (try simp only [List.map_toArray, List.map_cons, List.map_nil]); first | done | rfl | (simp only [List.length_drop, List.length_take]; rfl)) ?_; (with_reducible refine (hop_CheckAll.calls k _ _ t388 t391 _ ?side1 ?side2 A10.out).mono ?_); (case side1 => repeat (first | exact (Kd.S_reads' HO390.out).2.2 | (with_reducible refine Kd.C_alloc ?_ _) | (with_reducible refine Kd.C_drewN ?_ _) | (with_reducible refine Kd.C_drew ?_))); (case side2 => exact (Kd.S_reads' HO390.out).2.1); rintro e w52 ⟨rfl, hb⟩; refine ⟨_, rfl, ?_⟩; have n0_ := Aside0.mk (Kd.S_below (by (with_reducible repeat (first | apply Kd.S_alloc | apply Kd.S_drewN | apply Kd.S_drew)); exact HO379.out) hb); have n1_ := Aside0.mk (Kd.R_below (by (with_reducible repeat (first | apply Kd.R_alloc | apply Kd.R_drewN | apply Kd.R_drew)); exact HO385.out) hb); have n2_ := Aside0.mk (Kd.S_below (by (with_reducible repeat (first | apply Kd.S_alloc | apply Kd.S_drewN | apply Kd.S_drew)); exact HO390.out) hb); have n3_ := Aside0.mk (blk_below (g := gb387) (o := .cells #[.int .i64 t380, .int .i64 t381, .int .i64 t382, .slice Ao49 t383.length co49] 24 (0, 0)) (by (with_reducible repeat (first | refine blk_drewN ?_ _ | refine blk_drew ?_ | refine blk_alloc ?_ _)); exact BK387.out) hb); have n4_ := Aside0.mk (below_step (by repeat (first | (with_reducible first | exact HB.out | apply below_alloc | apply pw_below_drewN | apply below_drew1 | refine below_set ?_ GE387.out) | exact HB.out)) hb); clear HO379; clear HO385; clear HO390; clear BK387; clear HB; have HO379 := n0_; have HO385 := n1_; have HO390 := n2_; have BK387 := n3_; have HB := n4_; clear n0_ n1_ n2_ n3_ n4_; (try clear hb); (try clear hb2); (try clear hk); (try clear hi); have hcz53_0 : w52.cell? ⟨gb387, 0, none⟩ = some (.int .i64 t380) := (blk_cell BK387.out 0).trans rfl; have hcz53_1 : w52.cell? ⟨gb387, 1, none⟩ = some (.int .i64 t381) := (blk_cell BK387.out 1).trans rfl; have hcz53_2 : w52.cell? ⟨gb387, 2, none⟩ = some (.int .i64 t382) := (blk_cell BK387.out 2).trans rfl; have hcz53_3 : w52.cell? ⟨gb387, 3, none⟩ = some (.slice Ao49 t383.length co49) := (blk_cell BK387.out 3).trans rfl; have hfz53_0 := blk_frozen BK387.out 0; have hfz53_1 := blk_frozen BK387.out 1; have hfz53_2 := blk_frozen BK387.out 2; have hfz53_3 := blk_frozen BK387.out 3))
          go_ret
          exact ⟨by first | rfl | (simp [errW_none, errW_some] <;> rfl) | (simp [*, errW_none, errW_some] <;> rfl), by repeat (first | (with_reducible first | exact HB.out | apply below_alloc | apply pw_below_drewN | apply below_drew1 | refine below_set ?_ GE387.out) | exact HB.out)⟩
        · rw [if_neg c41] at H
          have c41b0 : (t386 == t391) = false := beq_eq_false_iff_ne.mpr c41
          have c41b1 : (t386 != t391) = true := bne_iff_ne.mpr c41
          exact absurd (H.trans (congrArg some HRT.out)) (by simp)
    · replace c6 := Bool.eq_false_iff.mpr c6
      subst c6
      have H1 : (some true) = some r := by rw [if_neg (show ¬ (false = true) by decide)] at H; exact H
      clear H
      have H := H1
      clear H1
      obtain rfl := Option.some.inj H
      go_enter Try.func10, Try.ntmps10
      go_wp2_with (first | ((with_reducible refine gate_callee (f := 11) rfl ?_); refine goesL_ (some 9) rfl rfl Try.func11 (by kernel_rfl) rfl #[] rfl (by (try simp only [List.map_toArray, List.map_cons, List.map_nil]); first | done | rfl | (simp only [List.length_drop, List.length_take]; rfl)) ?_; (with_reducible refine (hopmeshlaw11_awake.calls  true _ A3.out).mono ?_); rintro e w54 ⟨rfl, hb⟩; refine ⟨_, rfl, ?_⟩; have n0_ := Aside0.mk (below_step (by repeat (first | (with_reducible first | exact HB.out | apply below_alloc | apply pw_below_drewN | apply below_drew1) | exact HB.out)) hb); clear HB; have HB := n0_; clear n0_; (try clear hb); (try clear hb2); (try clear hk); (try clear hi)) | ((with_reducible refine gate_callee (f := 28) rfl ?_); refine goesL_ (some 12) rfl rfl Try.func28 (by kernel_rfl) rfl #[.slice A0 l0.length c0] rfl (by (try simp only [List.map_toArray, List.map_cons, List.map_nil]); first | done | rfl | (simp only [List.length_drop, List.length_take]; rfl)) ?_; (with_reducible refine (hopmeshlaw11_few.calls _ _ l0 false _ ?side1 ?side2 A5.out).mono ?_); (case side1 => repeat (first | exact (Kd.C_below HR0.out HB.out) | (with_reducible refine Kd.C_alloc ?_ _) | (with_reducible refine Kd.C_drewN ?_ _) | (with_reducible refine Kd.C_drew ?_))); (case side2 => exact HC0.out); rintro e w55 ⟨rfl, hb⟩; refine ⟨_, rfl, ?_⟩; have n0_ := Aside0.mk (below_step (by repeat (first | (with_reducible first | exact HB.out | apply below_alloc | apply pw_below_drewN | apply below_drew1) | exact HB.out)) hb); clear HB; have HB := n0_; clear n0_; (try clear hb); (try clear hb2); (try clear hk); (try clear hi)))
      go_ret
      exact ⟨by first | rfl | (simp [errW_none, errW_some] <;> rfl) | (simp [*, errW_none, errW_some] <;> rfl), by repeat (first | (with_reducible first | exact HB.out | apply below_alloc | apply pw_below_drewN | apply below_drew1) | exact HB.out)⟩
  · replace c4 := Bool.eq_false_iff.mpr c4
    subst c4
    have H1 : (some false) = some r := by rw [if_neg (show ¬ (false = true) by decide)] at H; exact H
    clear H
    have H := H1
    clear H1
    exact absurd (H.trans (congrArg some HRT.out)) (by simp)

end Go.Proofs.Ytddcacomphkeiaa.PA
