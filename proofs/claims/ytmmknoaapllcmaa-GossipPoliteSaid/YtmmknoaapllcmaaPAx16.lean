-- Written by a program of this session (mkprint.py: the kit's print, changed) for this claim. Not trusted: Lean checks it.
import Derived.Test.YtmmknoaapllcmaaPAx0
import Derived.Test.YtmmknoaapllcmaaPAx2
import Derived.Test.YtmmknoaapllcmaaPAx5
import Derived.Test.YtmmknoaapllcmaaPAx6
namespace Go.Proofs.Ytmmknoaapllcmaa.PA
open Go.RowKit Go.Proofs.YtmmknoaapllcmaaW.PrintWords Go.Proofs.YtmmknoaapllcmaaW.PrintLast Go.Proofs.YtmmknoaapllcmaaW.PrintMore
attribute [local go_sem] max2_int min2_int max_two min_two max_three min_three max_four min_four   -- for this text's walks alone
set_option linter.unusedVariables false
set_option linter.unusedSimpArgs false

/-! ### slices_Index_int_int: function 31 -/
def slices_Index_int_int.l0 : Nat → List Int → Int → Int → Int → Option (Int)
  | 0, _, _, _, _ => none
  | k + 1, x0, x1, x7, x8 => if x8 < x7 then (if 0 ≤ x8 then (if x8 < (x0.length : Int) then (if x1 = (rd x0 x8) then (some x8) else (slices_Index_int_int.l0 k x0 x1 x7 (wrap64 (x8 + 1)))) else (none)) else (none)) else (some (-1))
def slices_Index_int_int.f (k : Nat) (l0 : List Int) (a1 : Int) : Option (Int) := slices_Index_int_int.l0 k l0 a1 (l0.length : Int) 0
theorem slices_Index_int_int.mono_l : ∀ k, (∀ y0 y1 y2 y3, LeO (slices_Index_int_int.l0 k y0 y1 y2 y3) (slices_Index_int_int.l0 (k + 1) y0 y1 y2 y3))
  | 0 => fun _ _ _ _ r h => by simp [slices_Index_int_int.l0] at h
  | k + 1 => by
    have ih0 := slices_Index_int_int.mono_l k
    · intro y0 y1 y2 y3
      unfold slices_Index_int_int.l0
      repeat' first
      | (with_reducible exact ih0 _ _ _ _)
      | (with_reducible exact LeO.refl _)
      | (with_reducible exact LeO.none _)
      | (with_reducible refine LeO.ite ?_ ?_)
      | (with_reducible refine LeO.bind ?_ (fun _ => ?_))
      | exact ih0 _ _ _ _
      | exact LeO.none _
      | refine LeO.ite ?_ ?_
      | refine LeO.bind ?_ (fun _ => ?_)
theorem slices_Index_int_int.mono : ∀ a0 a1 k, LeO (slices_Index_int_int.f k a0 a1) (slices_Index_int_int.f (k + 1) a0 a1) := by
  intro a0 a1 k
  have ih0 := slices_Index_int_int.mono_l k
  unfold slices_Index_int_int.f
  repeat' first
      | (with_reducible exact ih0 _ _ _ _)
      | (with_reducible exact LeO.refl _)
      | (with_reducible exact LeO.none _)
      | (with_reducible refine LeO.ite ?_ ?_)
      | (with_reducible refine LeO.bind ?_ (fun _ => ?_))
      | exact ih0 _ _ _ _
      | exact LeO.none _
      | refine LeO.ite ?_ ?_
      | refine LeO.bind ?_ (fun _ => ?_)
set_option maxHeartbeats 8000000 in
set_option maxRecDepth 100000 in
theorem slices_Index_int_int.calls (k : Nat) (A0 : Option Addr) (c0 : Nat) (l0 : List Int) (a1 : Int) (r : Int) (w : World) (hr0 : Kd.C (Kd.int .i64) w A0 l0.length l0) (hc0 : l0.length ≤ c0) (h : slices_Index_int_int.f k l0 a1 = some r) :
    Calls Try.prog 31 #[.slice A0 l0.length c0, .int .i64 a1] w fun e w' => e = .returned (.int .i64 r) ∧ Drawn0 w w' := by
  have HR0 := Aside0.mk hr0
  have HC0 := Aside0.mk hc0
  clear hr0 hc0
  have H : (slices_Index_int_int.l0 k l0 a1 (l0.length : Int) 0) = some r := h
  clear h
  have H' := Aside0.mk H
  clear H
  go_enter Try.func31, Try.ntmps31
  go_wp2
  go_loopg [8] k (fun kq v8 w' => ∃ (x8_1 : Int), v8 = .int .i64 x8_1 ∧ Aside0 (slices_Index_int_int.l0 kq l0 a1 (l0.length : Int) x8_1 = some r) ∧ Aside0 (kq ≤ k) ∧ Drawn0 w w')
  case atStart => exact ⟨(0), (by first | rfl | (simp; done) | (simp [*]; done)), H', ⟨Nat.le_refl _⟩, by repeat (first | exact Drawn0.refl _ | apply Drawn0.step)⟩
  case round =>
    clear H'
    try clear p2
    obtain ⟨x8_1, rfl, HA, HK1, ⟨m1, rfl⟩⟩ := hrel
    cases gk with
    | zero => exact absurd HA.out (by simp [slices_Index_int_int.l0])
    | succ k1 =>
      have H := HA.out
      clear HA
      simp only [slices_Index_int_int.l0] at H
      by_cases c3 : x8_1 < (l0.length : Int)
      · rw [if_pos c3] at H
        have c3b0 : decide (x8_1 < (l0.length : Int)) = true := decide_eq_true c3
        clear c3
        by_cases c4 : 0 ≤ x8_1
        · rw [if_pos c4] at H
          have c4b0 : decide (0 ≤ x8_1) = true := decide_eq_true c4
          clear c4
          by_cases c5 : x8_1 < (l0.length : Int)
          · rw [if_pos c5] at H
            have c5b0 : decide (x8_1 < (l0.length : Int)) = true := decide_eq_true c5
            clear c5
            by_cases c6 : a1 = (rd l0 x8_1)
            · rw [if_pos c6] at H
              have c6b0 : (a1 == (rd l0 x8_1)) = true := beq_iff_eq.mpr c6
              have c6b1 : (a1 != (rd l0 x8_1)) = false := bne_eq_false_iff_eq.mpr c6
              clear c6
              obtain rfl := Option.some.inj H
              have p316 : 0 ≤ (x8_1 : Int) := of_decide_eq_true (by first | (with_reducible assumption) | assumption)
              have q316 : x8_1 < (l0.length : Int) := of_decide_eq_true (by first | (with_reducible assumption) | assumption)
              obtain ⟨ad316, e316, hx316_0⟩ := Kd.at_int HR0.out x8_1 p316 q316
              cases e316
              replace p316 := eq_true p316
              replace q316 := eq_true q316
              go_wp2
              go_ret
              exact ⟨by first | rfl | (simp; done) | (simp [*]; done), by repeat (first | exact Drawn0.refl _ | apply Drawn0.step)⟩
            · rw [if_neg c6] at H
              have c6b0 : (a1 == (rd l0 x8_1)) = false := beq_eq_false_iff_ne.mpr c6
              have c6b1 : (a1 != (rd l0 x8_1)) = true := bne_iff_ne.mpr c6
              have H' := Aside0.mk H
              clear H
              have p316 : 0 ≤ (x8_1 : Int) := of_decide_eq_true (by first | (with_reducible assumption) | assumption)
              have q316 : x8_1 < (l0.length : Int) := of_decide_eq_true (by first | (with_reducible assumption) | assumption)
              obtain ⟨ad316, e316, hx316_0⟩ := Kd.at_int HR0.out x8_1 p316 q316
              cases e316
              replace p316 := eq_true p316
              replace q316 := eq_true q316
              go_wp2
              go_roundg k1
              case measure => have := HK1.out; omega
              case rel => exact ⟨(wrap64 (x8_1 + 1)), (by first | rfl | (simp; done) | (simp [*]; done)), H', ⟨by have := HK1.out; omega⟩, by repeat (first | exact Drawn0.refl _ | apply Drawn0.step)⟩
          · rw [if_neg c5] at H
            exact absurd H (by simp)
        · rw [if_neg c4] at H
          exact absurd H (by simp)
      · rw [if_neg c3] at H
        have c3b0 : decide (x8_1 < (l0.length : Int)) = false := decide_eq_false c3
        clear c3
        obtain rfl := Option.some.inj H
        go_wp2
        go_ret
        exact ⟨by first | rfl | (simp; done) | (simp [*]; done), by repeat (first | exact Drawn0.refl _ | apply Drawn0.step)⟩

/-! ### slices_Contains_int_int: function 19 -/
def slices_Contains_int_int.f (k : Nat) (l0 : List Int) (a1 : Int) : Option (Bool) := (slices_Index_int_int.f k l0 a1).bind fun t317 => (some (decide (t317 ≥ 0)))
theorem slices_Contains_int_int.mono : ∀ a0 a1 k, LeO (slices_Contains_int_int.f k a0 a1) (slices_Contains_int_int.f (k + 1) a0 a1) := by
  intro a0 a1 k
  unfold slices_Contains_int_int.f
  repeat' first
      | (with_reducible exact slices_Index_int_int.mono _ _ _)
      | (with_reducible exact LeO.refl _)
      | (with_reducible exact LeO.none _)
      | (with_reducible refine LeO.ite ?_ ?_)
      | (with_reducible refine LeO.bind ?_ (fun _ => ?_))
      | exact slices_Index_int_int.mono _ _ _
      | exact LeO.none _
      | refine LeO.ite ?_ ?_
      | refine LeO.bind ?_ (fun _ => ?_)
set_option maxHeartbeats 8000000 in
set_option maxRecDepth 100000 in
theorem slices_Contains_int_int.calls (k : Nat) (A0 : Option Addr) (c0 : Nat) (l0 : List Int) (a1 : Int) (r : Bool) (w : World) (hr0 : Kd.C (Kd.int .i64) w A0 l0.length l0) (hc0 : l0.length ≤ c0) (h : slices_Contains_int_int.f k l0 a1 = some r) :
    Calls Try.prog 19 #[.slice A0 l0.length c0, .int .i64 a1] w fun e w' => e = .returned (.bool r) ∧ Drawn0 w w' := by
  have HR0 := Aside0.mk hr0
  have HC0 := Aside0.mk hc0
  clear hr0 hc0
  have H : ((slices_Index_int_int.f k l0 a1).bind fun t317 => (some (decide (t317 ≥ 0)))) = some r := h
  clear h
  replace H := Option.bind_eq_some_iff.mp H
  obtain ⟨t317, A30, H⟩ := H
  replace H : (some (decide (t317 ≥ 0))) = some r := H
  have A3 := Aside0.mk A30
  clear A30
  obtain rfl := Option.some.inj H
  go_enter Try.func19, Try.ntmps19
  go_wp2_with (first | ((with_reducible refine gate_callee (f := 31) rfl ?_); refine goesL_ (some 7) rfl rfl Try.func31 (by kernel_rfl) rfl #[.slice A0 l0.length c0, .int .i64 a1] rfl (by (try simp only [List.map_toArray, List.map_cons, List.map_nil]); first | done | rfl | (simp only [List.length_drop, List.length_take]; rfl)) ?_; (with_reducible refine (slices_Index_int_int.calls k _ _ l0 a1 t317 _ ?side1 ?side2 A3.out).mono ?_); (case side1 => repeat (first | exact HR0.out | (with_reducible refine Kd.C_alloc ?_ _) | (with_reducible refine Kd.C_drewN ?_ _) | (with_reducible refine Kd.C_drew ?_))); (case side2 => exact HC0.out); rintro e w' ⟨rfl, ⟨nd, rfl⟩⟩; refine ⟨_, rfl, ?_⟩))
  go_ret
  exact ⟨by first | rfl | (simp; done) | (simp [*]; done), by repeat (first | exact Drawn0.refl _ | apply Drawn0.step)⟩

/-! ### hopmeshlaw47_GossipPolite: function 7 -/
mutual
def hopmeshlaw47_GossipPolite.j0 : Nat → List Int → Bool → Int → Int → Int → Option (Bool)
  | 0, _, _, _, _, _ => none
  | k + 1, x1, x34, x319000, x319001, x319002 => if x34 = true then ((hopmeshlaw47_awake.f).bind fun t321 => (some t321)) else (hopmeshlaw47_GossipPolite.l0 k ([] : List (S28)) ([] : List Int) x1 (x1.length : Int) 0 x319000 x319001 x319002)
def hopmeshlaw47_GossipPolite.l0 : Nat → List (S28) → List Int → List Int → Int → Int → Int → Int → Int → Option (Bool)
  | 0, _, _, _, _, _, _, _, _ => none
  | k + 1, x5, x6, x36, x37, x38, x319000, x319001, x319002 => if x38 < x37 then (if 0 ≤ x38 then (if x38 < (x36.length : Int) then ((gossip_Start.f x319000 x319001 x319002 0 (rd x36 x38)).bind fun bt323 => (if bt323.2.2.2.2 = 0 then ((slices_Contains_int_int.f k x6 bt323.2.2.1).bind fun t329 => (if t329 = true then (some true) else ((some (([(⟨bt323.1, bt323.2.1, bt323.2.2.1, bt323.2.2.2.1⟩ : S28)] : List (S28)) : List (S28))).bind fun y330 => (if x5.length + y330.length < 4398046511104 then ((some (([bt323.2.2.1] : List Int) : List Int)).bind fun y336 => (if x6.length + y336.length < 17592186044416 then (hopmeshlaw47_GossipPolite.l0 k (x5 ++ y330) (x6 ++ y336) x36 x37 (wrap64 (x38 + 1)) x319000 x319001 x319002) else (none))) else (none))))) else (some false))) else (none)) else (none)) else (hopmeshlaw47_GossipPolite.l1 k x5 0 x319000 0 x319000 x319001 x319002)
def hopmeshlaw47_GossipPolite.l1 : Nat → List (S28) → Int → Int → Int → Int → Int → Int → Option (Bool)
  | 0, _, _, _, _, _, _, _ => none
  | k + 1, x5, x11, x65, x66, x319000, x319001, x319002 => if x66 < x65 then (hopmeshlaw47_GossipPolite.l2 k x5 x11 x66 x65 x66 (x5.length : Int) 0 x319000 x319001 x319002) else (if x319002 = 0 then (some (x11 == (x5.length : Int))) else (some (x11 == (mn x319002 (x5.length : Int)))))
def hopmeshlaw47_GossipPolite.l2 : Nat → List (S28) → Int → Int → Int → Int → Int → Int → Int → Int → Int → Option (Bool)
  | 0, _, _, _, _, _, _, _, _, _, _ => none
  | k + 1, x5, x11, x12, x65, x66, x70, x71, x319000, x319001, x319002 => if x71 < x70 then (if 0 ≤ x71 then (if x71 < (x5.length : Int) then ((gossip_Step.f k x319000 x319001 x319002 ((rd_T28 x5 x71).f0) ((rd_T28 x5 x71).f1) ((rd_T28 x5 x71).f2) ((rd_T28 x5 x71).f3) x12 0).bind fun bt343 => (if bt343.2.2.2.2.2 = 0 then ((some (x5.set (x71 : Int).toNat (⟨bt343.1, bt343.2.1, bt343.2.2.1, bt343.2.2.2.1⟩ : S28) : List (S28))).bind fun y350 => (if bt343.2.2.2.2.1 = true then (hopmeshlaw47_GossipPolite.l3 k y350 (wrap64 (x11 + 1)) x12 x71 x65 x66 x70 x71 (x5.length : Int) 0 x319000 x319001 x319002) else (hopmeshlaw47_GossipPolite.l2 k y350 x11 x12 x65 x66 x70 (wrap64 (x71 + 1)) x319000 x319001 x319002))) else (some false))) else (none)) else (none)) else (hopmeshlaw47_GossipPolite.l1 k x5 x11 x65 (wrap64 (x66 + 1)) x319000 x319001 x319002)
def hopmeshlaw47_GossipPolite.l3 : Nat → List (S28) → Int → Int → Int → Int → Int → Int → Int → Int → Int → Int → Int → Int → Option (Bool)
  | 0, _, _, _, _, _, _, _, _, _, _, _, _, _ => none
  | k + 1, x5, x11, x12, x13, x65, x66, x70, x71, x96, x97, x319000, x319001, x319002 => if x97 < x96 then (if x97 = x13 then (hopmeshlaw47_GossipPolite.l3 k x5 x11 x12 x13 x65 x66 x70 x71 x96 (wrap64 (x97 + 1)) x319000 x319001 x319002) else (if 0 ≤ x97 then (if x97 < (x5.length : Int) then ((gossip_Hear.f k x319000 x319001 x319002 ((rd_T28 x5 x97).f0) ((rd_T28 x5 x97).f1) ((rd_T28 x5 x97).f2) ((rd_T28 x5 x97).f3) true x12 0).bind fun bt352 => (if bt352.2.2.2.2 = 0 then (hopmeshlaw47_GossipPolite.l3 k (x5.set (x97 : Int).toNat (⟨bt352.1, bt352.2.1, bt352.2.2.1, bt352.2.2.2.1⟩ : S28)) x11 x12 x13 x65 x66 x70 x71 x96 (wrap64 (x97 + 1)) x319000 x319001 x319002) else (some false))) else (none)) else (none))) else (hopmeshlaw47_GossipPolite.l2 k x5 x11 x12 x65 x66 x70 (wrap64 (x71 + 1)) x319000 x319001 x319002)
end
def hopmeshlaw47_GossipPolite.f (k : Nat) (a0_0 : Int) (a0_1 : Int) (a0_2 : Int) (l1 : List Int) : Option (Bool) := (hopmeshlaw47_awake.f).bind fun t319 => (if t319 = true then (if (l1.length : Int) > 8 then (hopmeshlaw47_GossipPolite.j0 k l1 true a0_0 a0_1 a0_2) else ((gossip_Check.f a0_0 a0_1 a0_2).bind fun t320 => (if t320 = 0 then (hopmeshlaw47_GossipPolite.j0 k l1 (decide (a0_0 > 200)) a0_0 a0_1 a0_2) else (hopmeshlaw47_GossipPolite.j0 k l1 true a0_0 a0_1 a0_2)))) else (hopmeshlaw47_GossipPolite.j0 k l1 true a0_0 a0_1 a0_2))
theorem hopmeshlaw47_GossipPolite.mono_l : ∀ k, (∀ y0 y1 y2 y3 y4, LeO (hopmeshlaw47_GossipPolite.j0 k y0 y1 y2 y3 y4) (hopmeshlaw47_GossipPolite.j0 (k + 1) y0 y1 y2 y3 y4)) ∧ (∀ y0 y1 y2 y3 y4 y5 y6 y7, LeO (hopmeshlaw47_GossipPolite.l0 k y0 y1 y2 y3 y4 y5 y6 y7) (hopmeshlaw47_GossipPolite.l0 (k + 1) y0 y1 y2 y3 y4 y5 y6 y7)) ∧ (∀ y0 y1 y2 y3 y4 y5 y6, LeO (hopmeshlaw47_GossipPolite.l1 k y0 y1 y2 y3 y4 y5 y6) (hopmeshlaw47_GossipPolite.l1 (k + 1) y0 y1 y2 y3 y4 y5 y6)) ∧ (∀ y0 y1 y2 y3 y4 y5 y6 y7 y8 y9, LeO (hopmeshlaw47_GossipPolite.l2 k y0 y1 y2 y3 y4 y5 y6 y7 y8 y9) (hopmeshlaw47_GossipPolite.l2 (k + 1) y0 y1 y2 y3 y4 y5 y6 y7 y8 y9)) ∧ (∀ y0 y1 y2 y3 y4 y5 y6 y7 y8 y9 y10 y11 y12, LeO (hopmeshlaw47_GossipPolite.l3 k y0 y1 y2 y3 y4 y5 y6 y7 y8 y9 y10 y11 y12) (hopmeshlaw47_GossipPolite.l3 (k + 1) y0 y1 y2 y3 y4 y5 y6 y7 y8 y9 y10 y11 y12))
  | 0 => ⟨fun _ _ _ _ _ r h => by simp [hopmeshlaw47_GossipPolite.j0] at h, fun _ _ _ _ _ _ _ _ r h => by simp [hopmeshlaw47_GossipPolite.l0] at h, fun _ _ _ _ _ _ _ r h => by simp [hopmeshlaw47_GossipPolite.l1] at h, fun _ _ _ _ _ _ _ _ _ _ r h => by simp [hopmeshlaw47_GossipPolite.l2] at h, fun _ _ _ _ _ _ _ _ _ _ _ _ _ r h => by simp [hopmeshlaw47_GossipPolite.l3] at h⟩
  | k + 1 => by
    obtain ⟨ih0, ih1, ih2, ih3, ih4⟩ := hopmeshlaw47_GossipPolite.mono_l k
    refine ⟨?_, ?_, ?_, ?_, ?_⟩
    · intro y0 y1 y2 y3 y4
      unfold hopmeshlaw47_GossipPolite.j0
      repeat' first
      | (with_reducible exact ih0 _ _ _ _ _)
      | (with_reducible exact ih1 _ _ _ _ _ _ _ _)
      | (with_reducible exact ih2 _ _ _ _ _ _ _)
      | (with_reducible exact ih3 _ _ _ _ _ _ _ _ _ _)
      | (with_reducible exact ih4 _ _ _ _ _ _ _ _ _ _ _ _ _)
      | (with_reducible exact gossip_Hear.mono _ _ _ _ _ _ _ _ _ _ _)
      | (with_reducible exact gossip_Step.mono _ _ _ _ _ _ _ _ _ _)
      | (with_reducible exact slices_Contains_int_int.mono _ _ _)
      | (with_reducible exact LeO.refl _)
      | (with_reducible exact LeO.none _)
      | (with_reducible refine LeO.ite ?_ ?_)
      | (with_reducible refine LeO.bind ?_ (fun _ => ?_))
      | exact ih0 _ _ _ _ _
      | exact ih1 _ _ _ _ _ _ _ _
      | exact ih2 _ _ _ _ _ _ _
      | exact ih3 _ _ _ _ _ _ _ _ _ _
      | exact ih4 _ _ _ _ _ _ _ _ _ _ _ _ _
      | exact gossip_Hear.mono _ _ _ _ _ _ _ _ _ _ _
      | exact gossip_Step.mono _ _ _ _ _ _ _ _ _ _
      | exact slices_Contains_int_int.mono _ _ _
      | exact LeO.none _
      | refine LeO.ite ?_ ?_
      | refine LeO.bind ?_ (fun _ => ?_)
    · intro y0 y1 y2 y3 y4 y5 y6 y7
      unfold hopmeshlaw47_GossipPolite.l0
      repeat' first
      | (with_reducible exact ih0 _ _ _ _ _)
      | (with_reducible exact ih1 _ _ _ _ _ _ _ _)
      | (with_reducible exact ih2 _ _ _ _ _ _ _)
      | (with_reducible exact ih3 _ _ _ _ _ _ _ _ _ _)
      | (with_reducible exact ih4 _ _ _ _ _ _ _ _ _ _ _ _ _)
      | (with_reducible exact gossip_Hear.mono _ _ _ _ _ _ _ _ _ _ _)
      | (with_reducible exact gossip_Step.mono _ _ _ _ _ _ _ _ _ _)
      | (with_reducible exact slices_Contains_int_int.mono _ _ _)
      | (with_reducible exact LeO.refl _)
      | (with_reducible exact LeO.none _)
      | (with_reducible refine LeO.ite ?_ ?_)
      | (with_reducible refine LeO.bind ?_ (fun _ => ?_))
      | exact ih0 _ _ _ _ _
      | exact ih1 _ _ _ _ _ _ _ _
      | exact ih2 _ _ _ _ _ _ _
      | exact ih3 _ _ _ _ _ _ _ _ _ _
      | exact ih4 _ _ _ _ _ _ _ _ _ _ _ _ _
      | exact gossip_Hear.mono _ _ _ _ _ _ _ _ _ _ _
      | exact gossip_Step.mono _ _ _ _ _ _ _ _ _ _
      | exact slices_Contains_int_int.mono _ _ _
      | exact LeO.none _
      | refine LeO.ite ?_ ?_
      | refine LeO.bind ?_ (fun _ => ?_)
    · intro y0 y1 y2 y3 y4 y5 y6
      unfold hopmeshlaw47_GossipPolite.l1
      repeat' first
      | (with_reducible exact ih0 _ _ _ _ _)
      | (with_reducible exact ih1 _ _ _ _ _ _ _ _)
      | (with_reducible exact ih2 _ _ _ _ _ _ _)
      | (with_reducible exact ih3 _ _ _ _ _ _ _ _ _ _)
      | (with_reducible exact ih4 _ _ _ _ _ _ _ _ _ _ _ _ _)
      | (with_reducible exact gossip_Hear.mono _ _ _ _ _ _ _ _ _ _ _)
      | (with_reducible exact gossip_Step.mono _ _ _ _ _ _ _ _ _ _)
      | (with_reducible exact slices_Contains_int_int.mono _ _ _)
      | (with_reducible exact LeO.refl _)
      | (with_reducible exact LeO.none _)
      | (with_reducible refine LeO.ite ?_ ?_)
      | (with_reducible refine LeO.bind ?_ (fun _ => ?_))
      | exact ih0 _ _ _ _ _
      | exact ih1 _ _ _ _ _ _ _ _
      | exact ih2 _ _ _ _ _ _ _
      | exact ih3 _ _ _ _ _ _ _ _ _ _
      | exact ih4 _ _ _ _ _ _ _ _ _ _ _ _ _
      | exact gossip_Hear.mono _ _ _ _ _ _ _ _ _ _ _
      | exact gossip_Step.mono _ _ _ _ _ _ _ _ _ _
      | exact slices_Contains_int_int.mono _ _ _
      | exact LeO.none _
      | refine LeO.ite ?_ ?_
      | refine LeO.bind ?_ (fun _ => ?_)
    · intro y0 y1 y2 y3 y4 y5 y6 y7 y8 y9
      unfold hopmeshlaw47_GossipPolite.l2
      repeat' first
      | (with_reducible exact ih0 _ _ _ _ _)
      | (with_reducible exact ih1 _ _ _ _ _ _ _ _)
      | (with_reducible exact ih2 _ _ _ _ _ _ _)
      | (with_reducible exact ih3 _ _ _ _ _ _ _ _ _ _)
      | (with_reducible exact ih4 _ _ _ _ _ _ _ _ _ _ _ _ _)
      | (with_reducible exact gossip_Hear.mono _ _ _ _ _ _ _ _ _ _ _)
      | (with_reducible exact gossip_Step.mono _ _ _ _ _ _ _ _ _ _)
      | (with_reducible exact slices_Contains_int_int.mono _ _ _)
      | (with_reducible exact LeO.refl _)
      | (with_reducible exact LeO.none _)
      | (with_reducible refine LeO.ite ?_ ?_)
      | (with_reducible refine LeO.bind ?_ (fun _ => ?_))
      | exact ih0 _ _ _ _ _
      | exact ih1 _ _ _ _ _ _ _ _
      | exact ih2 _ _ _ _ _ _ _
      | exact ih3 _ _ _ _ _ _ _ _ _ _
      | exact ih4 _ _ _ _ _ _ _ _ _ _ _ _ _
      | exact gossip_Hear.mono _ _ _ _ _ _ _ _ _ _ _
      | exact gossip_Step.mono _ _ _ _ _ _ _ _ _ _
      | exact slices_Contains_int_int.mono _ _ _
      | exact LeO.none _
      | refine LeO.ite ?_ ?_
      | refine LeO.bind ?_ (fun _ => ?_)
    · intro y0 y1 y2 y3 y4 y5 y6 y7 y8 y9 y10 y11 y12
      unfold hopmeshlaw47_GossipPolite.l3
      repeat' first
      | (with_reducible exact ih0 _ _ _ _ _)
      | (with_reducible exact ih1 _ _ _ _ _ _ _ _)
      | (with_reducible exact ih2 _ _ _ _ _ _ _)
      | (with_reducible exact ih3 _ _ _ _ _ _ _ _ _ _)
      | (with_reducible exact ih4 _ _ _ _ _ _ _ _ _ _ _ _ _)
      | (with_reducible exact gossip_Hear.mono _ _ _ _ _ _ _ _ _ _ _)
      | (with_reducible exact gossip_Step.mono _ _ _ _ _ _ _ _ _ _)
      | (with_reducible exact slices_Contains_int_int.mono _ _ _)
      | (with_reducible exact LeO.refl _)
      | (with_reducible exact LeO.none _)
      | (with_reducible refine LeO.ite ?_ ?_)
      | (with_reducible refine LeO.bind ?_ (fun _ => ?_))
      | exact ih0 _ _ _ _ _
      | exact ih1 _ _ _ _ _ _ _ _
      | exact ih2 _ _ _ _ _ _ _
      | exact ih3 _ _ _ _ _ _ _ _ _ _
      | exact ih4 _ _ _ _ _ _ _ _ _ _ _ _ _
      | exact gossip_Hear.mono _ _ _ _ _ _ _ _ _ _ _
      | exact gossip_Step.mono _ _ _ _ _ _ _ _ _ _
      | exact slices_Contains_int_int.mono _ _ _
      | exact LeO.none _
      | refine LeO.ite ?_ ?_
      | refine LeO.bind ?_ (fun _ => ?_)
theorem hopmeshlaw47_GossipPolite.mono : ∀ a0 a1 a2 a3 k, LeO (hopmeshlaw47_GossipPolite.f k a0 a1 a2 a3) (hopmeshlaw47_GossipPolite.f (k + 1) a0 a1 a2 a3) := by
  intro a0 a1 a2 a3 k
  obtain ⟨ih0, ih1, ih2, ih3, ih4⟩ := hopmeshlaw47_GossipPolite.mono_l k
  unfold hopmeshlaw47_GossipPolite.f
  repeat' first
      | (with_reducible exact ih0 _ _ _ _ _)
      | (with_reducible exact ih1 _ _ _ _ _ _ _ _)
      | (with_reducible exact ih2 _ _ _ _ _ _ _)
      | (with_reducible exact ih3 _ _ _ _ _ _ _ _ _ _)
      | (with_reducible exact ih4 _ _ _ _ _ _ _ _ _ _ _ _ _)
      | (with_reducible exact gossip_Hear.mono _ _ _ _ _ _ _ _ _ _ _)
      | (with_reducible exact gossip_Step.mono _ _ _ _ _ _ _ _ _ _)
      | (with_reducible exact slices_Contains_int_int.mono _ _ _)
      | (with_reducible exact LeO.refl _)
      | (with_reducible exact LeO.none _)
      | (with_reducible refine LeO.ite ?_ ?_)
      | (with_reducible refine LeO.bind ?_ (fun _ => ?_))
      | exact ih0 _ _ _ _ _
      | exact ih1 _ _ _ _ _ _ _ _
      | exact ih2 _ _ _ _ _ _ _
      | exact ih3 _ _ _ _ _ _ _ _ _ _
      | exact ih4 _ _ _ _ _ _ _ _ _ _ _ _ _
      | exact gossip_Hear.mono _ _ _ _ _ _ _ _ _ _ _
      | exact gossip_Step.mono _ _ _ _ _ _ _ _ _ _
      | exact slices_Contains_int_int.mono _ _ _
      | exact LeO.none _
      | refine LeO.ite ?_ ?_
      | refine LeO.bind ?_ (fun _ => ?_)
def hopmeshlaw47_GossipPolite.T13 : Bool × List (List Nat × List Nat) := (true, [([], []), ([], []), ([1], [1]), ([0, 2], [0, 2]), ([], []), ([], []), ([5], [5]), ([6], [6]), ([4, 7, 3], [4, 7]), ([3, 8, 0, 1, 2, 3], [0, 3]), ([8, 9, 0, 1, 2, 3, 4, 5, 6, 7, 8, 9], [4, 8])])
def hopmeshlaw47_GossipPolite.B13 : List Nat := [0, 0, 2, 7, 0, 0, 32, 96, 255, 511, 1023]
theorem hopmeshlaw47_GossipPolite.tab13 : rtab .any (opsOf Try.f7 13) = hopmeshlaw47_GossipPolite.T13 := by kernel_rfl
theorem hopmeshlaw47_GossipPolite.bits13 : waitsOk hopmeshlaw47_GossipPolite.T13.2 hopmeshlaw47_GossipPolite.B13 = true := by kernel_rfl
def hopmeshlaw47_GossipPolite.T22 : Bool × List (List Nat × List Nat) := (true, [([], []), ([], []), ([], []), ([1, 2], [1, 2]), ([3], [3]), ([], []), ([0, 4, 5], [0, 4, 5]), ([6], [6]), ([7], [7]), ([7], [7]), ([7], [7]), ([], []), ([11, 8, 6, 0, 1, 2, 3, 4, 5, 6, 7, 8, 11], [8, 11]), ([9, 12, 0, 1, 2, 3, 4, 5, 6, 7, 8, 9, 11, 12], [9]), ([10, 13, 0, 1, 2, 3, 4, 5, 6, 7, 8, 9, 10, 11, 12, 13], [10])])
def hopmeshlaw47_GossipPolite.B22 : List Nat := [0, 0, 0, 6, 14, 0, 63, 127, 255, 255, 255, 0, 2559, 7167, 16383]
theorem hopmeshlaw47_GossipPolite.tab22 : rtab .any (opsOf Try.f7 22) = hopmeshlaw47_GossipPolite.T22 := by kernel_rfl
theorem hopmeshlaw47_GossipPolite.bits22 : waitsOk hopmeshlaw47_GossipPolite.T22.2 hopmeshlaw47_GossipPolite.B22 = true := by kernel_rfl
def hopmeshlaw47_GossipPolite.T32 : Bool × List (List Nat × List Nat) := (true, [([], []), ([], []), ([], []), ([], []), ([], []), ([3, 4], [3, 4]), ([5], [5]), ([], []), ([2, 6, 7], [2, 6, 7]), ([8], [8]), ([9], [9]), ([9], [9]), ([0, 1, 0, 1, 2, 3, 4, 5, 6, 7, 8, 9, 10], [0, 1]), ([12, 10, 8, 0, 1, 2, 3, 4, 5, 6, 7, 8, 9, 10], [10, 12]), ([11, 13, 0, 1, 2, 3, 4, 5, 6, 7, 8, 9, 10, 11, 12, 13], [11])])
def hopmeshlaw47_GossipPolite.B32 : List Nat := [0, 0, 0, 0, 0, 24, 56, 0, 252, 508, 1020, 1020, 2047, 6143, 16383]
theorem hopmeshlaw47_GossipPolite.tab32 : rtab .any (opsOf Try.f7 32) = hopmeshlaw47_GossipPolite.T32 := by kernel_rfl
theorem hopmeshlaw47_GossipPolite.bits32 : waitsOk hopmeshlaw47_GossipPolite.T32.2 hopmeshlaw47_GossipPolite.B32 = true := by kernel_rfl

end Go.Proofs.Ytmmknoaapllcmaa.PA
