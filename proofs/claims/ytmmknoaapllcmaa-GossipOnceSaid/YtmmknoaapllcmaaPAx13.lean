-- Written by a program of this session (mkprint.py: the kit's print, changed) for this claim. Not trusted: Lean checks it.
import Derived.Test.YtmmknoaapllcmaaPAx0
import Derived.Test.YtmmknoaapllcmaaPAx1
import Derived.Test.YtmmknoaapllcmaaPAx2
import Derived.Test.YtmmknoaapllcmaaPAx3
import Derived.Test.YtmmknoaapllcmaaPAx5
import Derived.Test.YtmmknoaapllcmaaPAx6
namespace Go.Proofs.Ytmmknoaapllcmaa.PA
open Go.RowKit Go.Proofs.YtmmknoaapllcmaaW.PrintWords Go.Proofs.YtmmknoaapllcmaaW.PrintLast Go.Proofs.YtmmknoaapllcmaaW.PrintMore
attribute [local go_sem] max2_int min2_int max_two min_two max_three min_three max_four min_four   -- for this text's walks alone
set_option linter.unusedVariables false
set_option linter.unusedSimpArgs false

attribute [local go_sem high] eqA28
/-! ### hopmeshlaw47_GossipOnce: function 4 -/
mutual
def hopmeshlaw47_GossipOnce.j0 : Nat → Int → Int → List (S33) → Bool → Int → Int → Int → Option (Bool)
  | 0, _, _, _, _, _, _, _ => none
  | k + 1, x1, x2, x3, x26, x255000, x255001, x255002 => if x26 = true then ((hopmeshlaw47_awake.f).bind fun t256 => (some t256)) else ((gossip_Start.f x255000 x255001 x255002 x1 x2).bind fun bt257 => (if bt257.2.2.2.2 = 0 then (hopmeshlaw47_GossipOnce.l0 k x1 bt257.2.1 0 x3 (x3.length : Int) 0 x255000 x255001 x255002 bt257.1 bt257.2.1 bt257.2.2.1 bt257.2.2.2.1) else (some (bt257.1 == 0 && (bt257.2.1 == 0 && (bt257.2.2.1 == 0 && (bt257.2.2.2.1 == 0)))))))
def hopmeshlaw47_GossipOnce.l0 : Nat → Int → Int → Int → List (S33) → Int → Int → Int → Int → Int → Int → Int → Int → Int → Option (Bool)
  | 0, _, _, _, _, _, _, _, _, _, _, _, _, _ => none
  | k + 1, x1, x11, x12, x42, x43, x44, x255000, x255001, x255002, x263000, x263001, x263002, x263003 => if x44 < x43 then (if 0 ≤ x44 then (if x44 < (x42.length : Int) then ((gossip_Step.f k x255000 x255001 x255002 x263000 x263001 x263002 x263003 (wrap64 (x1 + x44)) ((rd_T33 x42 x44).f2)).bind fun bt265 => (if bt265.2.2.2.2.2 = 0 then ((gossip_Valid.f k x255000 x255001 x255002 bt265.1 bt265.2.1 bt265.2.2.1 bt265.2.2.2.1).bind fun t271 => (if t271 = 0 then ((gossip_Greatest.f x255000 x255001 x255002).bind fun t272 => (hopmeshlaw47_GossipOnce.j2 k x1 x11 x12 x44 bt265.2.2.2.2.1 x42 x43 x44 (decide (bt265.1 > t272)) x255000 x255001 x255002 bt265.1 bt265.2.1 bt265.2.2.1 bt265.2.2.2.1 ((rd_T33 x42 x44).f0) ((rd_T33 x42 x44).f1) ((rd_T33 x42 x44).f2))) else (hopmeshlaw47_GossipOnce.j2 k x1 x11 x12 x44 bt265.2.2.2.2.1 x42 x43 x44 true x255000 x255001 x255002 bt265.1 bt265.2.1 bt265.2.2.1 bt265.2.2.2.1 ((rd_T33 x42 x44).f0) ((rd_T33 x42 x44).f1) ((rd_T33 x42 x44).f2)))) else (hopmeshlaw47_GossipOnce.j2 k x1 x11 x12 x44 bt265.2.2.2.2.1 x42 x43 x44 true x255000 x255001 x255002 bt265.1 bt265.2.1 bt265.2.2.1 bt265.2.2.2.1 ((rd_T33 x42 x44).f0) ((rd_T33 x42 x44).f1) ((rd_T33 x42 x44).f2)))) else (none)) else (none)) else (some true)
def hopmeshlaw47_GossipOnce.j2 : Nat → Int → Int → Int → Int → Bool → List (S33) → Int → Int → Bool → Int → Int → Int → Int → Int → Int → Int → Bool → Bool → Int → Option (Bool)
  | 0, _, _, _, _, _, _, _, _, _, _, _, _, _, _, _, _, _, _, _ => none
  | k + 1, x1, x11, x12, x13, x15, x42, x43, x44, x75, x255000, x255001, x255002, x263000, x263001, x263002, x263003, x265000, x265001, x265002 => if x75 = true then (some false) else (if x263001 = x11 then (hopmeshlaw47_GossipOnce.j3 k x1 x11 x12 x13 x15 x42 x43 x44 x255000 x255001 x255002 x263000 x263001 x263002 x263003 x265000 x265001 x265002) else (hopmeshlaw47_GossipOnce.j3 k x1 x263001 0 x13 x15 x42 x43 x44 x255000 x255001 x255002 x263000 x263001 x263002 x263003 x265000 x265001 x265002))
def hopmeshlaw47_GossipOnce.j3 : Nat → Int → Int → Int → Int → Bool → List (S33) → Int → Int → Int → Int → Int → Int → Int → Int → Int → Bool → Bool → Int → Option (Bool)
  | 0, _, _, _, _, _, _, _, _, _, _, _, _, _, _, _, _, _, _ => none
  | k + 1, x1, x11, x12, x13, x15, x42, x43, x44, x255000, x255001, x255002, x263000, x263001, x263002, x263003, x265000, x265001, x265002 => if x15 = true then (hopmeshlaw47_GossipOnce.j4 k x1 x11 (wrap64 (x12 + 1)) x13 x15 x42 x43 x44 x255000 x255001 x255002 x263000 x263001 x263002 x263003 x265000 x265001 x265002) else (hopmeshlaw47_GossipOnce.j4 k x1 x11 x12 x13 x15 x42 x43 x44 x255000 x255001 x255002 x263000 x263001 x263002 x263003 x265000 x265001 x265002)
def hopmeshlaw47_GossipOnce.j4 : Nat → Int → Int → Int → Int → Bool → List (S33) → Int → Int → Int → Int → Int → Int → Int → Int → Int → Bool → Bool → Int → Option (Bool)
  | 0, _, _, _, _, _, _, _, _, _, _, _, _, _, _, _, _, _, _ => none
  | k + 1, x1, x11, x12, x13, x15, x42, x43, x44, x255000, x255001, x255002, x263000, x263001, x263002, x263003, x265000, x265001, x265002 => if x12 > 1 then (hopmeshlaw47_GossipOnce.j5 k x1 x11 x12 x13 x42 x43 x44 true x255000 x255001 x255002 x263000 x263001 x263002 x263003 x265000 x265001 x265002) else (if x15 = true then (if (wrap64 ((wrap64 (2 * (wrap64 ((wrap64 (x1 + x13)) - x263001)))) + 1)) < x263000 then (hopmeshlaw47_GossipOnce.j5 k x1 x11 x12 x13 x42 x43 x44 true x255000 x255001 x255002 x263000 x263001 x263002 x263003 x265000 x265001 x265002) else (hopmeshlaw47_GossipOnce.j5 k x1 x11 x12 x13 x42 x43 x44 (decide ((wrap64 (x1 + x13)) ≥ (wrap64 (x263001 + x263000)))) x255000 x255001 x255002 x263000 x263001 x263002 x263003 x265000 x265001 x265002)) else (hopmeshlaw47_GossipOnce.j5 k x1 x11 x12 x13 x42 x43 x44 false x255000 x255001 x255002 x263000 x263001 x263002 x263003 x265000 x265001 x265002))
def hopmeshlaw47_GossipOnce.j5 : Nat → Int → Int → Int → Int → List (S33) → Int → Int → Bool → Int → Int → Int → Int → Int → Int → Int → Bool → Bool → Int → Option (Bool)
  | 0, _, _, _, _, _, _, _, _, _, _, _, _, _, _, _, _, _, _ => none
  | k + 1, x1, x11, x12, x13, x42, x43, x44, x113, x255000, x255001, x255002, x263000, x263001, x263002, x263003, x265000, x265001, x265002 => if x113 = true then (some false) else (if x265000 = true then ((gossip_Hear.f k x255000 x255001 x255002 x263000 x263001 x263002 x263003 x265001 (wrap64 (x1 + x13)) x265002).bind fun bt273 => (if bt273.2.2.2.2 = 0 then ((gossip_Valid.f k x255000 x255001 x255002 bt273.1 bt273.2.1 bt273.2.2.1 bt273.2.2.2.1).bind fun t278 => (if t278 = 0 then (if bt273.2.1 = x11 then (hopmeshlaw47_GossipOnce.l0 k x1 x11 x12 x42 x43 (wrap64 (x44 + 1)) x255000 x255001 x255002 bt273.1 bt273.2.1 bt273.2.2.1 bt273.2.2.2.1) else (hopmeshlaw47_GossipOnce.l0 k x1 bt273.2.1 0 x42 x43 (wrap64 (x44 + 1)) x255000 x255001 x255002 bt273.1 bt273.2.1 bt273.2.2.1 bt273.2.2.2.1)) else (some false))) else (some false))) else (hopmeshlaw47_GossipOnce.l0 k x1 x11 x12 x42 x43 (wrap64 (x44 + 1)) x255000 x255001 x255002 x263000 x263001 x263002 x263003))
end
def hopmeshlaw47_GossipOnce.f (k : Nat) (a0_0 : Int) (a0_1 : Int) (a0_2 : Int) (a1 : Int) (a2 : Int) (l3 : List (S33)) : Option (Bool) := (hopmeshlaw47_awake.f).bind fun t255 => (if t255 = true then (if (l3.length : Int) > 200 then (hopmeshlaw47_GossipOnce.j0 k a1 a2 l3 true a0_0 a0_1 a0_2) else (hopmeshlaw47_GossipOnce.j0 k a1 a2 l3 (decide (a1 > 536870912)) a0_0 a0_1 a0_2)) else (hopmeshlaw47_GossipOnce.j0 k a1 a2 l3 true a0_0 a0_1 a0_2))
theorem hopmeshlaw47_GossipOnce.mono_l : ∀ k, (∀ y0 y1 y2 y3 y4 y5 y6, LeO (hopmeshlaw47_GossipOnce.j0 k y0 y1 y2 y3 y4 y5 y6) (hopmeshlaw47_GossipOnce.j0 (k + 1) y0 y1 y2 y3 y4 y5 y6)) ∧ (∀ y0 y1 y2 y3 y4 y5 y6 y7 y8 y9 y10 y11 y12, LeO (hopmeshlaw47_GossipOnce.l0 k y0 y1 y2 y3 y4 y5 y6 y7 y8 y9 y10 y11 y12) (hopmeshlaw47_GossipOnce.l0 (k + 1) y0 y1 y2 y3 y4 y5 y6 y7 y8 y9 y10 y11 y12)) ∧ (∀ y0 y1 y2 y3 y4 y5 y6 y7 y8 y9 y10 y11 y12 y13 y14 y15 y16 y17 y18, LeO (hopmeshlaw47_GossipOnce.j2 k y0 y1 y2 y3 y4 y5 y6 y7 y8 y9 y10 y11 y12 y13 y14 y15 y16 y17 y18) (hopmeshlaw47_GossipOnce.j2 (k + 1) y0 y1 y2 y3 y4 y5 y6 y7 y8 y9 y10 y11 y12 y13 y14 y15 y16 y17 y18)) ∧ (∀ y0 y1 y2 y3 y4 y5 y6 y7 y8 y9 y10 y11 y12 y13 y14 y15 y16 y17, LeO (hopmeshlaw47_GossipOnce.j3 k y0 y1 y2 y3 y4 y5 y6 y7 y8 y9 y10 y11 y12 y13 y14 y15 y16 y17) (hopmeshlaw47_GossipOnce.j3 (k + 1) y0 y1 y2 y3 y4 y5 y6 y7 y8 y9 y10 y11 y12 y13 y14 y15 y16 y17)) ∧ (∀ y0 y1 y2 y3 y4 y5 y6 y7 y8 y9 y10 y11 y12 y13 y14 y15 y16 y17, LeO (hopmeshlaw47_GossipOnce.j4 k y0 y1 y2 y3 y4 y5 y6 y7 y8 y9 y10 y11 y12 y13 y14 y15 y16 y17) (hopmeshlaw47_GossipOnce.j4 (k + 1) y0 y1 y2 y3 y4 y5 y6 y7 y8 y9 y10 y11 y12 y13 y14 y15 y16 y17)) ∧ (∀ y0 y1 y2 y3 y4 y5 y6 y7 y8 y9 y10 y11 y12 y13 y14 y15 y16 y17, LeO (hopmeshlaw47_GossipOnce.j5 k y0 y1 y2 y3 y4 y5 y6 y7 y8 y9 y10 y11 y12 y13 y14 y15 y16 y17) (hopmeshlaw47_GossipOnce.j5 (k + 1) y0 y1 y2 y3 y4 y5 y6 y7 y8 y9 y10 y11 y12 y13 y14 y15 y16 y17))
  | 0 => ⟨fun _ _ _ _ _ _ _ r h => by simp [hopmeshlaw47_GossipOnce.j0] at h, fun _ _ _ _ _ _ _ _ _ _ _ _ _ r h => by simp [hopmeshlaw47_GossipOnce.l0] at h, fun _ _ _ _ _ _ _ _ _ _ _ _ _ _ _ _ _ _ _ r h => by simp [hopmeshlaw47_GossipOnce.j2] at h, fun _ _ _ _ _ _ _ _ _ _ _ _ _ _ _ _ _ _ r h => by simp [hopmeshlaw47_GossipOnce.j3] at h, fun _ _ _ _ _ _ _ _ _ _ _ _ _ _ _ _ _ _ r h => by simp [hopmeshlaw47_GossipOnce.j4] at h, fun _ _ _ _ _ _ _ _ _ _ _ _ _ _ _ _ _ _ r h => by simp [hopmeshlaw47_GossipOnce.j5] at h⟩
  | k + 1 => by
    obtain ⟨ih0, ih1, ih2, ih3, ih4, ih5⟩ := hopmeshlaw47_GossipOnce.mono_l k
    refine ⟨?_, ?_, ?_, ?_, ?_, ?_⟩
    · intro y0 y1 y2 y3 y4 y5 y6
      unfold hopmeshlaw47_GossipOnce.j0
      repeat' first
      | (with_reducible exact ih0 _ _ _ _ _ _ _)
      | (with_reducible exact ih1 _ _ _ _ _ _ _ _ _ _ _ _ _)
      | (with_reducible exact ih2 _ _ _ _ _ _ _ _ _ _ _ _ _ _ _ _ _ _ _)
      | (with_reducible exact ih3 _ _ _ _ _ _ _ _ _ _ _ _ _ _ _ _ _ _)
      | (with_reducible exact ih4 _ _ _ _ _ _ _ _ _ _ _ _ _ _ _ _ _ _)
      | (with_reducible exact ih5 _ _ _ _ _ _ _ _ _ _ _ _ _ _ _ _ _ _)
      | (with_reducible exact gossip_Hear.mono _ _ _ _ _ _ _ _ _ _ _)
      | (with_reducible exact gossip_Step.mono _ _ _ _ _ _ _ _ _ _)
      | (with_reducible exact gossip_Valid.mono _ _ _ _ _ _ _ _)
      | (with_reducible exact LeO.refl _)
      | (with_reducible exact LeO.none _)
      | (with_reducible refine LeO.ite ?_ ?_)
      | (with_reducible refine LeO.bind ?_ (fun _ => ?_))
      | exact ih0 _ _ _ _ _ _ _
      | exact ih1 _ _ _ _ _ _ _ _ _ _ _ _ _
      | exact ih2 _ _ _ _ _ _ _ _ _ _ _ _ _ _ _ _ _ _ _
      | exact ih3 _ _ _ _ _ _ _ _ _ _ _ _ _ _ _ _ _ _
      | exact ih4 _ _ _ _ _ _ _ _ _ _ _ _ _ _ _ _ _ _
      | exact ih5 _ _ _ _ _ _ _ _ _ _ _ _ _ _ _ _ _ _
      | exact gossip_Hear.mono _ _ _ _ _ _ _ _ _ _ _
      | exact gossip_Step.mono _ _ _ _ _ _ _ _ _ _
      | exact gossip_Valid.mono _ _ _ _ _ _ _ _
      | exact LeO.none _
      | refine LeO.ite ?_ ?_
      | refine LeO.bind ?_ (fun _ => ?_)
    · intro y0 y1 y2 y3 y4 y5 y6 y7 y8 y9 y10 y11 y12
      unfold hopmeshlaw47_GossipOnce.l0
      repeat' first
      | (with_reducible exact ih0 _ _ _ _ _ _ _)
      | (with_reducible exact ih1 _ _ _ _ _ _ _ _ _ _ _ _ _)
      | (with_reducible exact ih2 _ _ _ _ _ _ _ _ _ _ _ _ _ _ _ _ _ _ _)
      | (with_reducible exact ih3 _ _ _ _ _ _ _ _ _ _ _ _ _ _ _ _ _ _)
      | (with_reducible exact ih4 _ _ _ _ _ _ _ _ _ _ _ _ _ _ _ _ _ _)
      | (with_reducible exact ih5 _ _ _ _ _ _ _ _ _ _ _ _ _ _ _ _ _ _)
      | (with_reducible exact gossip_Hear.mono _ _ _ _ _ _ _ _ _ _ _)
      | (with_reducible exact gossip_Step.mono _ _ _ _ _ _ _ _ _ _)
      | (with_reducible exact gossip_Valid.mono _ _ _ _ _ _ _ _)
      | (with_reducible exact LeO.refl _)
      | (with_reducible exact LeO.none _)
      | (with_reducible refine LeO.ite ?_ ?_)
      | (with_reducible refine LeO.bind ?_ (fun _ => ?_))
      | exact ih0 _ _ _ _ _ _ _
      | exact ih1 _ _ _ _ _ _ _ _ _ _ _ _ _
      | exact ih2 _ _ _ _ _ _ _ _ _ _ _ _ _ _ _ _ _ _ _
      | exact ih3 _ _ _ _ _ _ _ _ _ _ _ _ _ _ _ _ _ _
      | exact ih4 _ _ _ _ _ _ _ _ _ _ _ _ _ _ _ _ _ _
      | exact ih5 _ _ _ _ _ _ _ _ _ _ _ _ _ _ _ _ _ _
      | exact gossip_Hear.mono _ _ _ _ _ _ _ _ _ _ _
      | exact gossip_Step.mono _ _ _ _ _ _ _ _ _ _
      | exact gossip_Valid.mono _ _ _ _ _ _ _ _
      | exact LeO.none _
      | refine LeO.ite ?_ ?_
      | refine LeO.bind ?_ (fun _ => ?_)
    · intro y0 y1 y2 y3 y4 y5 y6 y7 y8 y9 y10 y11 y12 y13 y14 y15 y16 y17 y18
      unfold hopmeshlaw47_GossipOnce.j2
      repeat' first
      | (with_reducible exact ih0 _ _ _ _ _ _ _)
      | (with_reducible exact ih1 _ _ _ _ _ _ _ _ _ _ _ _ _)
      | (with_reducible exact ih2 _ _ _ _ _ _ _ _ _ _ _ _ _ _ _ _ _ _ _)
      | (with_reducible exact ih3 _ _ _ _ _ _ _ _ _ _ _ _ _ _ _ _ _ _)
      | (with_reducible exact ih4 _ _ _ _ _ _ _ _ _ _ _ _ _ _ _ _ _ _)
      | (with_reducible exact ih5 _ _ _ _ _ _ _ _ _ _ _ _ _ _ _ _ _ _)
      | (with_reducible exact gossip_Hear.mono _ _ _ _ _ _ _ _ _ _ _)
      | (with_reducible exact gossip_Step.mono _ _ _ _ _ _ _ _ _ _)
      | (with_reducible exact gossip_Valid.mono _ _ _ _ _ _ _ _)
      | (with_reducible exact LeO.refl _)
      | (with_reducible exact LeO.none _)
      | (with_reducible refine LeO.ite ?_ ?_)
      | (with_reducible refine LeO.bind ?_ (fun _ => ?_))
      | exact ih0 _ _ _ _ _ _ _
      | exact ih1 _ _ _ _ _ _ _ _ _ _ _ _ _
      | exact ih2 _ _ _ _ _ _ _ _ _ _ _ _ _ _ _ _ _ _ _
      | exact ih3 _ _ _ _ _ _ _ _ _ _ _ _ _ _ _ _ _ _
      | exact ih4 _ _ _ _ _ _ _ _ _ _ _ _ _ _ _ _ _ _
      | exact ih5 _ _ _ _ _ _ _ _ _ _ _ _ _ _ _ _ _ _
      | exact gossip_Hear.mono _ _ _ _ _ _ _ _ _ _ _
      | exact gossip_Step.mono _ _ _ _ _ _ _ _ _ _
      | exact gossip_Valid.mono _ _ _ _ _ _ _ _
      | exact LeO.none _
      | refine LeO.ite ?_ ?_
      | refine LeO.bind ?_ (fun _ => ?_)
    · intro y0 y1 y2 y3 y4 y5 y6 y7 y8 y9 y10 y11 y12 y13 y14 y15 y16 y17
      unfold hopmeshlaw47_GossipOnce.j3
      repeat' first
      | (with_reducible exact ih0 _ _ _ _ _ _ _)
      | (with_reducible exact ih1 _ _ _ _ _ _ _ _ _ _ _ _ _)
      | (with_reducible exact ih2 _ _ _ _ _ _ _ _ _ _ _ _ _ _ _ _ _ _ _)
      | (with_reducible exact ih3 _ _ _ _ _ _ _ _ _ _ _ _ _ _ _ _ _ _)
      | (with_reducible exact ih4 _ _ _ _ _ _ _ _ _ _ _ _ _ _ _ _ _ _)
      | (with_reducible exact ih5 _ _ _ _ _ _ _ _ _ _ _ _ _ _ _ _ _ _)
      | (with_reducible exact gossip_Hear.mono _ _ _ _ _ _ _ _ _ _ _)
      | (with_reducible exact gossip_Step.mono _ _ _ _ _ _ _ _ _ _)
      | (with_reducible exact gossip_Valid.mono _ _ _ _ _ _ _ _)
      | (with_reducible exact LeO.refl _)
      | (with_reducible exact LeO.none _)
      | (with_reducible refine LeO.ite ?_ ?_)
      | (with_reducible refine LeO.bind ?_ (fun _ => ?_))
      | exact ih0 _ _ _ _ _ _ _
      | exact ih1 _ _ _ _ _ _ _ _ _ _ _ _ _
      | exact ih2 _ _ _ _ _ _ _ _ _ _ _ _ _ _ _ _ _ _ _
      | exact ih3 _ _ _ _ _ _ _ _ _ _ _ _ _ _ _ _ _ _
      | exact ih4 _ _ _ _ _ _ _ _ _ _ _ _ _ _ _ _ _ _
      | exact ih5 _ _ _ _ _ _ _ _ _ _ _ _ _ _ _ _ _ _
      | exact gossip_Hear.mono _ _ _ _ _ _ _ _ _ _ _
      | exact gossip_Step.mono _ _ _ _ _ _ _ _ _ _
      | exact gossip_Valid.mono _ _ _ _ _ _ _ _
      | exact LeO.none _
      | refine LeO.ite ?_ ?_
      | refine LeO.bind ?_ (fun _ => ?_)
    · intro y0 y1 y2 y3 y4 y5 y6 y7 y8 y9 y10 y11 y12 y13 y14 y15 y16 y17
      unfold hopmeshlaw47_GossipOnce.j4
      repeat' first
      | (with_reducible exact ih0 _ _ _ _ _ _ _)
      | (with_reducible exact ih1 _ _ _ _ _ _ _ _ _ _ _ _ _)
      | (with_reducible exact ih2 _ _ _ _ _ _ _ _ _ _ _ _ _ _ _ _ _ _ _)
      | (with_reducible exact ih3 _ _ _ _ _ _ _ _ _ _ _ _ _ _ _ _ _ _)
      | (with_reducible exact ih4 _ _ _ _ _ _ _ _ _ _ _ _ _ _ _ _ _ _)
      | (with_reducible exact ih5 _ _ _ _ _ _ _ _ _ _ _ _ _ _ _ _ _ _)
      | (with_reducible exact gossip_Hear.mono _ _ _ _ _ _ _ _ _ _ _)
      | (with_reducible exact gossip_Step.mono _ _ _ _ _ _ _ _ _ _)
      | (with_reducible exact gossip_Valid.mono _ _ _ _ _ _ _ _)
      | (with_reducible exact LeO.refl _)
      | (with_reducible exact LeO.none _)
      | (with_reducible refine LeO.ite ?_ ?_)
      | (with_reducible refine LeO.bind ?_ (fun _ => ?_))
      | exact ih0 _ _ _ _ _ _ _
      | exact ih1 _ _ _ _ _ _ _ _ _ _ _ _ _
      | exact ih2 _ _ _ _ _ _ _ _ _ _ _ _ _ _ _ _ _ _ _
      | exact ih3 _ _ _ _ _ _ _ _ _ _ _ _ _ _ _ _ _ _
      | exact ih4 _ _ _ _ _ _ _ _ _ _ _ _ _ _ _ _ _ _
      | exact ih5 _ _ _ _ _ _ _ _ _ _ _ _ _ _ _ _ _ _
      | exact gossip_Hear.mono _ _ _ _ _ _ _ _ _ _ _
      | exact gossip_Step.mono _ _ _ _ _ _ _ _ _ _
      | exact gossip_Valid.mono _ _ _ _ _ _ _ _
      | exact LeO.none _
      | refine LeO.ite ?_ ?_
      | refine LeO.bind ?_ (fun _ => ?_)
    · intro y0 y1 y2 y3 y4 y5 y6 y7 y8 y9 y10 y11 y12 y13 y14 y15 y16 y17
      unfold hopmeshlaw47_GossipOnce.j5
      repeat' first
      | (with_reducible exact ih0 _ _ _ _ _ _ _)
      | (with_reducible exact ih1 _ _ _ _ _ _ _ _ _ _ _ _ _)
      | (with_reducible exact ih2 _ _ _ _ _ _ _ _ _ _ _ _ _ _ _ _ _ _ _)
      | (with_reducible exact ih3 _ _ _ _ _ _ _ _ _ _ _ _ _ _ _ _ _ _)
      | (with_reducible exact ih4 _ _ _ _ _ _ _ _ _ _ _ _ _ _ _ _ _ _)
      | (with_reducible exact ih5 _ _ _ _ _ _ _ _ _ _ _ _ _ _ _ _ _ _)
      | (with_reducible exact gossip_Hear.mono _ _ _ _ _ _ _ _ _ _ _)
      | (with_reducible exact gossip_Step.mono _ _ _ _ _ _ _ _ _ _)
      | (with_reducible exact gossip_Valid.mono _ _ _ _ _ _ _ _)
      | (with_reducible exact LeO.refl _)
      | (with_reducible exact LeO.none _)
      | (with_reducible refine LeO.ite ?_ ?_)
      | (with_reducible refine LeO.bind ?_ (fun _ => ?_))
      | exact ih0 _ _ _ _ _ _ _
      | exact ih1 _ _ _ _ _ _ _ _ _ _ _ _ _
      | exact ih2 _ _ _ _ _ _ _ _ _ _ _ _ _ _ _ _ _ _ _
      | exact ih3 _ _ _ _ _ _ _ _ _ _ _ _ _ _ _ _ _ _
      | exact ih4 _ _ _ _ _ _ _ _ _ _ _ _ _ _ _ _ _ _
      | exact ih5 _ _ _ _ _ _ _ _ _ _ _ _ _ _ _ _ _ _
      | exact gossip_Hear.mono _ _ _ _ _ _ _ _ _ _ _
      | exact gossip_Step.mono _ _ _ _ _ _ _ _ _ _
      | exact gossip_Valid.mono _ _ _ _ _ _ _ _
      | exact LeO.none _
      | refine LeO.ite ?_ ?_
      | refine LeO.bind ?_ (fun _ => ?_)
theorem hopmeshlaw47_GossipOnce.mono : ∀ a0 a1 a2 a3 a4 a5 k, LeO (hopmeshlaw47_GossipOnce.f k a0 a1 a2 a3 a4 a5) (hopmeshlaw47_GossipOnce.f (k + 1) a0 a1 a2 a3 a4 a5) := by
  intro a0 a1 a2 a3 a4 a5 k
  obtain ⟨ih0, ih1, ih2, ih3, ih4, ih5⟩ := hopmeshlaw47_GossipOnce.mono_l k
  unfold hopmeshlaw47_GossipOnce.f
  repeat' first
      | (with_reducible exact ih0 _ _ _ _ _ _ _)
      | (with_reducible exact ih1 _ _ _ _ _ _ _ _ _ _ _ _ _)
      | (with_reducible exact ih2 _ _ _ _ _ _ _ _ _ _ _ _ _ _ _ _ _ _ _)
      | (with_reducible exact ih3 _ _ _ _ _ _ _ _ _ _ _ _ _ _ _ _ _ _)
      | (with_reducible exact ih4 _ _ _ _ _ _ _ _ _ _ _ _ _ _ _ _ _ _)
      | (with_reducible exact ih5 _ _ _ _ _ _ _ _ _ _ _ _ _ _ _ _ _ _)
      | (with_reducible exact gossip_Hear.mono _ _ _ _ _ _ _ _ _ _ _)
      | (with_reducible exact gossip_Step.mono _ _ _ _ _ _ _ _ _ _)
      | (with_reducible exact gossip_Valid.mono _ _ _ _ _ _ _ _)
      | (with_reducible exact LeO.refl _)
      | (with_reducible exact LeO.none _)
      | (with_reducible refine LeO.ite ?_ ?_)
      | (with_reducible refine LeO.bind ?_ (fun _ => ?_))
      | exact ih0 _ _ _ _ _ _ _
      | exact ih1 _ _ _ _ _ _ _ _ _ _ _ _ _
      | exact ih2 _ _ _ _ _ _ _ _ _ _ _ _ _ _ _ _ _ _ _
      | exact ih3 _ _ _ _ _ _ _ _ _ _ _ _ _ _ _ _ _ _
      | exact ih4 _ _ _ _ _ _ _ _ _ _ _ _ _ _ _ _ _ _
      | exact ih5 _ _ _ _ _ _ _ _ _ _ _ _ _ _ _ _ _ _
      | exact gossip_Hear.mono _ _ _ _ _ _ _ _ _ _ _
      | exact gossip_Step.mono _ _ _ _ _ _ _ _ _ _
      | exact gossip_Valid.mono _ _ _ _ _ _ _ _
      | exact LeO.none _
      | refine LeO.ite ?_ ?_
      | refine LeO.bind ?_ (fun _ => ?_)
def hopmeshlaw47_GossipOnce.T12 : Bool × List (List Nat × List Nat) := (true, [([], []), ([0], [0]), ([1], [1]), ([2], [2]), ([2], [2]), ([3, 4, 2, 2], [2, 3, 4]), ([5, 2], [2, 5]), ([2, 6], [2, 6]), ([7, 5], [7]), ([8], [8]), ([9, 8], [8, 9]), ([8], [8]), ([11, 8, 8], [8, 11]), ([10, 12, 8], [8, 10, 12]), ([8, 13], [8, 13])])
def hopmeshlaw47_GossipOnce.B12 : List Nat := [0, 1, 3, 7, 7, 31, 63, 127, 255, 511, 1023, 511, 2559, 8191, 16383]
theorem hopmeshlaw47_GossipOnce.tab12 : rtab .any (opsOf Try.f4 12) = hopmeshlaw47_GossipOnce.T12 := by kernel_rfl
theorem hopmeshlaw47_GossipOnce.bits12 : waitsOk hopmeshlaw47_GossipOnce.T12.2 hopmeshlaw47_GossipOnce.B12 = true := by kernel_rfl
set_option maxHeartbeats 8000000 in
set_option maxRecDepth 100000 in
theorem hopmeshlaw47_GossipOnce.calls (k : Nat) (a0_0 : Int) (a0_1 : Int) (a0_2 : Int) (a1 : Int) (a2 : Int) (A3 : Option Addr) (c3 : Nat) (l3 : List (S33)) (r : Bool) (w : World) (hr3 : Kd.C k33 w A3 l3.length l3) (hc3 : l3.length ≤ c3) (h : hopmeshlaw47_GossipOnce.f k a0_0 a0_1 a0_2 a1 a2 l3 = some r) (hr_ : r = true) :
    Calls Try.prog 4 #[.agg #[.int .i64 a0_0, .int .i64 a0_1, .int .i64 a0_2], .int .i64 a1, .int .u32 a2, .slice A3 l3.length c3] w fun e w' => e = .returned (.bool r) ∧ Below w.heap.size w w' := by
  have hu23 := Try.underlying23
  have hu28 := Try.underlying28
  have hu33 := Try.underlying33
  have HRT := Aside0.mk hr_
  clear hr_
  have HR3 := Aside0.mk hr3
  have HC3 := Aside0.mk hc3
  clear hr3 hc3
  have HB := Aside0.mk (Below.refl w.heap.size w)
  have H : ((hopmeshlaw47_awake.f).bind fun t255 => (if t255 = true then (if (l3.length : Int) > 200 then (hopmeshlaw47_GossipOnce.j0 k a1 a2 l3 true a0_0 a0_1 a0_2) else (hopmeshlaw47_GossipOnce.j0 k a1 a2 l3 (decide (a1 > 536870912)) a0_0 a0_1 a0_2)) else (hopmeshlaw47_GossipOnce.j0 k a1 a2 l3 true a0_0 a0_1 a0_2))) = some r := h
  clear h
  have HC5 := Aside0.mk H
  clear H
  go_enter Try.func4, Try.ntmps4
  go_upto_region 1 with (first | ((with_reducible refine gate_dst (N := 4) rfl ?_); (try (refine gate_guard (by rfl) ?_; dsimp only)); refine box_event ?hg (N := 4) ?hd (cs := #[.int .i64 a0_0, .int .i64 a0_1, .int .i64 a0_2]) (t := 23) ?hr ?_; (case hd => rfl); (case hg => rfl); (case hr => first | (go_simp; done) | (go_simp; rfl)); intro gb254 hg w6 hbox hb; have n0_ := Aside0.mk (below_step (by repeat (first | (with_reducible first | exact HB.out | apply below_alloc | apply pw_below_drewN | apply below_drew1) | exact HB.out)) hb); have n1_ := Aside0.mk (hbox); have n2_ := Aside0.mk ((by rw [hg]; exact (below_size (by repeat (first | (with_reducible first | exact HB.out | apply below_alloc | apply pw_below_drewN | apply below_drew1) | exact HB.out))) : w.heap.size ≤ gb254)); have n3_ := Aside0.mk ((by rw [hg]; exact (below_size (by repeat (first | (with_reducible first | exact HB.out | apply below_alloc | apply pw_below_drewN | apply below_drew1) | exact HB.out))) : w.heap.size ≤ gb254)); clear HB; have HB := n0_; have BK254 := n1_; have GW254 := n2_; have GE254 := n3_; clear n0_ n1_ n2_ n3_; clear hb hbox hg))
  (try simp only [Act.put, List.setIfInBounds_toArray, List.set_cons_zero, List.set_cons_succ])
  go_cut [26] (fun v26 wc => ∃ (kq : Nat) (x26_4 : Bool), v26 = .bool x26_4 ∧ Aside0 (hopmeshlaw47_GossipOnce.j0 kq a1 a2 l3 x26_4 a0_0 a0_1 a0_2 = some r) ∧ Aside0 (kq ≤ k) ∧ Aside0 (wc.heap[gb254]? = some (.cells #[.int .i64 a0_0, .int .i64 a0_1, .int .i64 a0_2] 23 (0, 0))) ∧ Aside0 (Below w.heap.size w wc))
  case first =>
    have H := HC5.out
    clear HC5
    replace H := Option.bind_eq_some_iff.mp H
    obtain ⟨t255, A70, H⟩ := H
    replace H : (if t255 = true then (if (l3.length : Int) > 200 then (hopmeshlaw47_GossipOnce.j0 k a1 a2 l3 true a0_0 a0_1 a0_2) else (hopmeshlaw47_GossipOnce.j0 k a1 a2 l3 (decide (a1 > 536870912)) a0_0 a0_1 a0_2)) else (hopmeshlaw47_GossipOnce.j0 k a1 a2 l3 true a0_0 a0_1 a0_2)) = some r := H
    have A7 := Aside0.mk A70
    clear A70
    by_cases c8 : t255 = true
    · subst c8
      have H1 : (if (l3.length : Int) > 200 then (hopmeshlaw47_GossipOnce.j0 k a1 a2 l3 true a0_0 a0_1 a0_2) else (hopmeshlaw47_GossipOnce.j0 k a1 a2 l3 (decide (a1 > 536870912)) a0_0 a0_1 a0_2)) = some r := by rw [if_pos rfl] at H; exact H
      clear H
      have H := H1
      clear H1
      by_cases c9 : (l3.length : Int) > 200
      · rw [if_pos c9] at H
        have c9b0 : decide (200 < (l3.length : Int)) = true := decide_eq_true c9
        have c9b1 : decide (200 < l3.length) = true := decide_eq_true (by omega)
        clear c9
        (first | rw [c9b0] | (simp only [i64_w, i32_w]; rw [c9b0]) | skip)
        have H' := Aside0.mk H
        clear H
        go_wp2_with (first | ((with_reducible refine gate_callee (f := 9) rfl ?_); refine goesL_ (some 16) rfl rfl Try.func9 (by kernel_rfl) rfl #[] rfl (by (try simp only [List.map_toArray, List.map_cons, List.map_nil]); first | done | rfl | (simp only [List.length_drop, List.length_take]; rfl)) ?_; (with_reducible refine (hopmeshlaw47_awake.calls  true _ A7.out).mono ?_); rintro e w10 ⟨rfl, hb⟩; refine ⟨_, rfl, ?_⟩; have n0_ := Aside0.mk (blk_below (g := gb254) (o := .cells #[.int .i64 a0_0, .int .i64 a0_1, .int .i64 a0_2] 23 (0, 0)) (by (with_reducible repeat (first | refine blk_drewN ?_ _ | refine blk_drew ?_ | refine blk_alloc ?_ _)); exact BK254.out) hb); have n1_ := Aside0.mk (below_step (by repeat (first | (with_reducible first | exact HB.out | apply below_alloc | apply pw_below_drewN | apply below_drew1 | refine below_set ?_ GE254.out) | exact HB.out)) hb); clear BK254; clear HB; have BK254 := n0_; have HB := n1_; clear n0_ n1_; (try clear hb); (try clear hb2); (try clear hk); (try clear hi)))
        go_meet
        case rel => exact ⟨_, (true), (by first | rfl | (simp; done) | (simp [*]; done)), H', ⟨by first | omega | exact Nat.le_refl _⟩, ⟨by (with_reducible repeat (first | refine blk_drewN ?_ _ | refine blk_drew ?_ | refine blk_alloc ?_ _)); exact BK254.out⟩, ⟨by repeat (first | (with_reducible first | exact HB.out | apply below_alloc | apply pw_below_drewN | apply below_drew1 | refine below_set ?_ GE254.out) | exact HB.out)⟩⟩
      · rw [if_neg c9] at H
        have c9b0 : decide (200 < (l3.length : Int)) = false := decide_eq_false c9
        have c9b1 : decide (200 < l3.length) = false := decide_eq_false (by omega)
        clear c9
        (first | rw [c9b0] | (simp only [i64_w, i32_w]; rw [c9b0]) | skip)
        have H' := Aside0.mk H
        clear H
        go_wp2_with (first | ((with_reducible refine gate_callee (f := 9) rfl ?_); refine goesL_ (some 16) rfl rfl Try.func9 (by kernel_rfl) rfl #[] rfl (by (try simp only [List.map_toArray, List.map_cons, List.map_nil]); first | done | rfl | (simp only [List.length_drop, List.length_take]; rfl)) ?_; (with_reducible refine (hopmeshlaw47_awake.calls  true _ A7.out).mono ?_); rintro e w11 ⟨rfl, hb⟩; refine ⟨_, rfl, ?_⟩; have n0_ := Aside0.mk (blk_below (g := gb254) (o := .cells #[.int .i64 a0_0, .int .i64 a0_1, .int .i64 a0_2] 23 (0, 0)) (by (with_reducible repeat (first | refine blk_drewN ?_ _ | refine blk_drew ?_ | refine blk_alloc ?_ _)); exact BK254.out) hb); have n1_ := Aside0.mk (below_step (by repeat (first | (with_reducible first | exact HB.out | apply below_alloc | apply pw_below_drewN | apply below_drew1 | refine below_set ?_ GE254.out) | exact HB.out)) hb); clear BK254; clear HB; have BK254 := n0_; have HB := n1_; clear n0_ n1_; (try clear hb); (try clear hb2); (try clear hk); (try clear hi)))
        go_meet
        case rel => exact ⟨_, (decide (a1 > 536870912)), (by first | rfl | (simp; done) | (simp [*]; done)), H', ⟨by first | omega | exact Nat.le_refl _⟩, ⟨by (with_reducible repeat (first | refine blk_drewN ?_ _ | refine blk_drew ?_ | refine blk_alloc ?_ _)); exact BK254.out⟩, ⟨by repeat (first | (with_reducible first | exact HB.out | apply below_alloc | apply pw_below_drewN | apply below_drew1 | refine below_set ?_ GE254.out) | exact HB.out)⟩⟩
    · replace c8 := Bool.eq_false_iff.mpr c8
      subst c8
      have H1 : (hopmeshlaw47_GossipOnce.j0 k a1 a2 l3 true a0_0 a0_1 a0_2) = some r := by rw [if_neg (show ¬ (false = true) by decide)] at H; exact H
      clear H
      have H := H1
      clear H1
      have H' := Aside0.mk H
      clear H
      go_wp2_with (first | ((with_reducible refine gate_callee (f := 9) rfl ?_); refine goesL_ (some 16) rfl rfl Try.func9 (by kernel_rfl) rfl #[] rfl (by (try simp only [List.map_toArray, List.map_cons, List.map_nil]); first | done | rfl | (simp only [List.length_drop, List.length_take]; rfl)) ?_; (with_reducible refine (hopmeshlaw47_awake.calls  false _ A7.out).mono ?_); rintro e w12 ⟨rfl, hb⟩; refine ⟨_, rfl, ?_⟩; have n0_ := Aside0.mk (blk_below (g := gb254) (o := .cells #[.int .i64 a0_0, .int .i64 a0_1, .int .i64 a0_2] 23 (0, 0)) (by (with_reducible repeat (first | refine blk_drewN ?_ _ | refine blk_drew ?_ | refine blk_alloc ?_ _)); exact BK254.out) hb); have n1_ := Aside0.mk (below_step (by repeat (first | (with_reducible first | exact HB.out | apply below_alloc | apply pw_below_drewN | apply below_drew1 | refine below_set ?_ GE254.out) | exact HB.out)) hb); clear BK254; clear HB; have BK254 := n0_; have HB := n1_; clear n0_ n1_; (try clear hb); (try clear hb2); (try clear hk); (try clear hi)))
      go_meet
      case rel => exact ⟨_, (true), (by first | rfl | (simp; done) | (simp [*]; done)), H', ⟨by first | omega | exact Nat.le_refl _⟩, ⟨by (with_reducible repeat (first | refine blk_drewN ?_ _ | refine blk_drew ?_ | refine blk_alloc ?_ _)); exact BK254.out⟩, ⟨by repeat (first | (with_reducible first | exact HB.out | apply below_alloc | apply pw_below_drewN | apply below_drew1 | refine below_set ?_ GE254.out) | exact HB.out)⟩⟩
  case rest =>
    clear HC5
    try clear p2
    try clear c3
    try clear c4
    try clear c8
    try clear c9
    try clear c9b0
    try clear c9b1
    obtain ⟨kq, x26_4, rfl, HA, HJ4, BK254, HB⟩ := hcut
    cases kq with
    | zero => exact absurd HA.out (by simp [hopmeshlaw47_GossipOnce.j0])
    | succ kj4 =>
      have H := HA.out
      clear HA
      simp only [hopmeshlaw47_GossipOnce.j0] at H
      by_cases c13 : x26_4 = true
      · subst c13
        have H1 : ((hopmeshlaw47_awake.f).bind fun t256 => (some t256)) = some r := by rw [if_pos rfl] at H; exact H
        clear H
        have H := H1
        clear H1
        replace H := Option.bind_eq_some_iff.mp H
        obtain ⟨t256, A140, H⟩ := H
        replace H : (some t256) = some r := H
        have A14 := Aside0.mk A140
        clear A140
        obtain rfl := Option.some.inj H
        go_wp2_with (first | ((with_reducible refine gate_callee (f := 9) rfl ?_); refine goesL_ (some 27) rfl rfl Try.func9 (by kernel_rfl) rfl #[] rfl (by (try simp only [List.map_toArray, List.map_cons, List.map_nil]); first | done | rfl | (simp only [List.length_drop, List.length_take]; rfl)) ?_; (with_reducible refine (hopmeshlaw47_awake.calls  t256 _ A14.out).mono ?_); rintro e w15 ⟨rfl, hb⟩; refine ⟨_, rfl, ?_⟩; have n0_ := Aside0.mk (blk_below (g := gb254) (o := .cells #[.int .i64 a0_0, .int .i64 a0_1, .int .i64 a0_2] 23 (0, 0)) (by (with_reducible repeat (first | refine blk_drewN ?_ _ | refine blk_drew ?_ | refine blk_alloc ?_ _)); exact BK254.out) hb); have n1_ := Aside0.mk (below_step (by repeat (first | (with_reducible first | exact HB.out | apply below_alloc | apply pw_below_drewN | apply below_drew1 | refine below_set ?_ GE254.out) | exact HB.out)) hb); clear BK254; clear HB; have BK254 := n0_; have HB := n1_; clear n0_ n1_; (try clear hb); (try clear hb2); (try clear hk); (try clear hi)))
        go_ret
        exact ⟨by first | rfl | (simp [errW_none, errW_some] <;> rfl) | (simp [*, errW_none, errW_some] <;> rfl), by repeat (first | (with_reducible first | exact HB.out | apply below_alloc | apply pw_below_drewN | apply below_drew1 | refine below_set ?_ GE254.out) | exact HB.out)⟩
      · replace c13 := Bool.eq_false_iff.mpr c13
        subst c13
        have H1 : ((gossip_Start.f a0_0 a0_1 a0_2 a1 a2).bind fun bt257 => (if bt257.2.2.2.2 = 0 then (hopmeshlaw47_GossipOnce.l0 kj4 a1 bt257.2.1 0 l3 (l3.length : Int) 0 a0_0 a0_1 a0_2 bt257.1 bt257.2.1 bt257.2.2.1 bt257.2.2.2.1) else (some (bt257.1 == 0 && (bt257.2.1 == 0 && (bt257.2.2.1 == 0 && (bt257.2.2.2.1 == 0))))))) = some r := by rw [if_neg (show ¬ (false = true) by decide)] at H; exact H
        clear H
        have H := H1
        clear H1
        replace H := Option.bind_eq_some_iff.mp H
        obtain ⟨⟨t257, t258, t259, t260, t261⟩, A160, H⟩ := H
        replace H : (if t261 = 0 then (hopmeshlaw47_GossipOnce.l0 kj4 a1 t258 0 l3 (l3.length : Int) 0 a0_0 a0_1 a0_2 t257 t258 t259 t260) else (some (t257 == 0 && (t258 == 0 && (t259 == 0 && (t260 == 0)))))) = some r := H
        have A16 := Aside0.mk A160
        clear A160
        by_cases c17 : t261 = 0
        · rw [if_pos c17] at H
          have c17b0 : (t261 == 0) = true := beq_iff_eq.mpr c17
          have c17b1 : (t261 != 0) = false := bne_eq_false_iff_eq.mpr c17
          clear c17
          have H' := Aside0.mk H
          clear H
          have hcz18_0 : wc.cell? ⟨gb254, 0, none⟩ = some (.int .i64 a0_0) := (blk_cell BK254.out 0).trans rfl
          have hcz18_1 : wc.cell? ⟨gb254, 1, none⟩ = some (.int .i64 a0_1) := (blk_cell BK254.out 1).trans rfl
          have hcz18_2 : wc.cell? ⟨gb254, 2, none⟩ = some (.int .i64 a0_2) := (blk_cell BK254.out 2).trans rfl
          have hfz18_0 := blk_frozen BK254.out 0
          have hfz18_1 := blk_frozen BK254.out 1
          have hfz18_2 := blk_frozen BK254.out 2
          go_wp2_with (first | ((with_reducible refine gate_callee (f := 10) rfl ?_); refine goesL_ (some 32) rfl rfl Try.func10 (by kernel_rfl) rfl #[.agg #[.int .i64 a0_0, .int .i64 a0_1, .int .i64 a0_2], .int .i64 a1, .int .u32 a2] rfl (by (try simp only [List.map_toArray, List.map_cons, List.map_nil]); first | done | rfl | (simp only [List.length_drop, List.length_take]; rfl)) ?_; (with_reducible refine (gossip_Start.calls a0_0 a0_1 a0_2 a1 a2 t257 t258 t259 t260 t261 _ A16.out).mono ?_); rintro e w19 ⟨rfl, hb⟩; refine ⟨_, rfl, ?_⟩; have n0_ := Aside0.mk (blk_below (g := gb254) (o := .cells #[.int .i64 a0_0, .int .i64 a0_1, .int .i64 a0_2] 23 (0, 0)) (by (with_reducible repeat (first | refine blk_drewN ?_ _ | refine blk_drew ?_ | refine blk_alloc ?_ _)); exact BK254.out) hb); have n1_ := Aside0.mk (below_step (by repeat (first | (with_reducible first | exact HB.out | apply below_alloc | apply pw_below_drewN | apply below_drew1 | refine below_set ?_ GE254.out) | exact HB.out)) hb); clear BK254; clear HB; have BK254 := n0_; have HB := n1_; clear n0_ n1_; (try clear hb); (try clear hb2); (try clear hk); (try clear hi)) | ((with_reducible refine gate_dst (N := 9) rfl ?_); (try (refine gate_guard (by rfl) ?_; dsimp only)); refine box_event ?hg (N := 9) ?hd (cs := #[.int .i64 0, .int .i64 0, .int .i64 0, .int .i64 0]) (t := 28) ?hr ?_; (case hd => rfl); (case hg => rfl); (case hr => first | (go_simp; done) | (go_simp; rfl)); intro gb262 hg w20 hbox hb; have n0_ := Aside0.mk (blk_below (g := gb254) (o := .cells #[.int .i64 a0_0, .int .i64 a0_1, .int .i64 a0_2] 23 (0, 0)) (by (with_reducible repeat (first | refine blk_drewN ?_ _ | refine blk_drew ?_ | refine blk_alloc ?_ _)); exact BK254.out) hb); have n1_ := Aside0.mk (below_step (by repeat (first | (with_reducible first | exact HB.out | apply below_alloc | apply pw_below_drewN | apply below_drew1 | refine below_set ?_ GE254.out) | exact HB.out)) hb); have n2_ := Aside0.mk (hbox); have n3_ := Aside0.mk ((by rw [hg]; exact (below_size (by repeat (first | (with_reducible first | exact HB.out | apply below_alloc | apply pw_below_drewN | apply below_drew1 | refine below_set ?_ GE254.out) | exact HB.out))) : w.heap.size ≤ gb262)); have n4_ := Aside0.mk ((by rw [hg]; exact (below_size (by repeat (first | (with_reducible first | exact HB.out | apply below_alloc | apply pw_below_drewN | apply below_drew1 | refine below_set ?_ GE254.out) | exact HB.out))) : w.heap.size ≤ gb262)); have n5_ := Aside0.mk ((by rw [hg]; exact Nat.ne_of_lt (blk_lt (g := gb254) (o := .cells #[.int .i64 a0_0, .int .i64 a0_1, .int .i64 a0_2] 23 (0, 0)) (by (with_reducible repeat (first | refine blk_drewN ?_ _ | refine blk_drew ?_ | refine blk_alloc ?_ _)); exact BK254.out)) : gb254 ≠ gb262)); have n6_ := Aside0.mk ((by rw [hg]; exact Nat.ne_of_gt (blk_lt (g := gb254) (o := .cells #[.int .i64 a0_0, .int .i64 a0_1, .int .i64 a0_2] 23 (0, 0)) (by (with_reducible repeat (first | refine blk_drewN ?_ _ | refine blk_drew ?_ | refine blk_alloc ?_ _)); exact BK254.out)) : gb262 ≠ gb254)); clear BK254; clear HB; have BK254 := n0_; have HB := n1_; have BK262 := n2_; have GW262 := n3_; have GE262 := n4_; have NB254_262 := n5_; have NB262_254 := n6_; clear n0_ n1_ n2_ n3_ n4_ n5_ n6_; clear hb hbox hg; have hnb21 := NB262_254.out; have hnc21 := NB254_262.out; have hcz22_0 : w20.cell? ⟨gb262, 0, none⟩ = some (.int .i64 0) := (blk_cell BK262.out 0).trans rfl; have hcz22_1 : w20.cell? ⟨gb262, 1, none⟩ = some (.int .i64 0) := (blk_cell BK262.out 1).trans rfl; have hcz22_2 : w20.cell? ⟨gb262, 2, none⟩ = some (.int .i64 0) := (blk_cell BK262.out 2).trans rfl; have hcz22_3 : w20.cell? ⟨gb262, 3, none⟩ = some (.int .i64 0) := (blk_cell BK262.out 3).trans rfl; have hfz22_0 := blk_frozen BK262.out 0; have hfz22_1 := blk_frozen BK262.out 1; have hfz22_2 := blk_frozen BK262.out 2; have hfz22_3 := blk_frozen BK262.out 3))
          go_loopg [11, 12, 44] kj4 (fun kq v11 v12 v44 w' => ∃ (x11_2 : Int) (x12_2 : Int) (x44_2 : Int) (x263000_2 : Int) (x263001_2 : Int) (x263002_2 : Int) (x263003_2 : Int), v11 = .int .i64 x11_2 ∧ v12 = .int .i64 x12_2 ∧ v44 = .int .i64 x44_2 ∧ Aside0 (hopmeshlaw47_GossipOnce.l0 kq a1 x11_2 x12_2 l3 (l3.length : Int) x44_2 a0_0 a0_1 a0_2 x263000_2 x263001_2 x263002_2 x263003_2 = some r) ∧ Aside0 (kq ≤ kj4) ∧ Aside0 (w'.heap[gb254]? = some (.cells #[.int .i64 a0_0, .int .i64 a0_1, .int .i64 a0_2] 23 (0, 0))) ∧ Aside0 (w'.heap[gb262]? = some (.cells #[.int .i64 x263000_2, .int .i64 x263001_2, .int .i64 x263002_2, .int .i64 x263003_2] 28 (0, 0))) ∧ Aside0 (Below w.heap.size w w'))
          case atStart => exact ⟨(t258), (0), (0), (t257), (t258), (t259), (t260), (by first | rfl | (simp; done) | (simp [*]; done)), (by first | rfl | (simp; done) | (simp [*]; done)), (by first | rfl | (simp; done) | (simp [*]; done)), H', ⟨Nat.le_refl _⟩, ⟨by (with_reducible repeat (first | refine blk_drewN ?_ _ | refine blk_drew ?_ | refine blk_alloc ?_ _)); refine blk_far ?_ NB254_262.out _; (with_reducible repeat (first | refine blk_drewN ?_ _ | refine blk_drew ?_ | refine blk_alloc ?_ _)); refine blk_far ?_ NB254_262.out _; (with_reducible repeat (first | refine blk_drewN ?_ _ | refine blk_drew ?_ | refine blk_alloc ?_ _)); refine blk_far ?_ NB254_262.out _; (with_reducible repeat (first | refine blk_drewN ?_ _ | refine blk_drew ?_ | refine blk_alloc ?_ _)); refine blk_far ?_ NB254_262.out _; (with_reducible repeat (first | refine blk_drewN ?_ _ | refine blk_drew ?_ | refine blk_alloc ?_ _)); exact BK254.out⟩, ⟨by (with_reducible repeat (first | refine blk_drewN ?_ _ | refine blk_drew ?_ | refine blk_alloc ?_ _)); refine blk_put (cs := #[.int .i64 t257, .int .i64 t258, .int .i64 t259, .int .i64 0]) ?_ 3 _ rfl; (with_reducible repeat (first | refine blk_drewN ?_ _ | refine blk_drew ?_ | refine blk_alloc ?_ _)); refine blk_put (cs := #[.int .i64 t257, .int .i64 t258, .int .i64 0, .int .i64 0]) ?_ 2 _ rfl; (with_reducible repeat (first | refine blk_drewN ?_ _ | refine blk_drew ?_ | refine blk_alloc ?_ _)); refine blk_put (cs := #[.int .i64 t257, .int .i64 0, .int .i64 0, .int .i64 0]) ?_ 1 _ rfl; (with_reducible repeat (first | refine blk_drewN ?_ _ | refine blk_drew ?_ | refine blk_alloc ?_ _)); refine blk_put (cs := #[.int .i64 0, .int .i64 0, .int .i64 0, .int .i64 0]) ?_ 0 _ rfl; (with_reducible repeat (first | refine blk_drewN ?_ _ | refine blk_drew ?_ | refine blk_alloc ?_ _)); exact BK262.out⟩, ⟨by repeat (first | (with_reducible first | exact HB.out | apply below_alloc | apply pw_below_drewN | apply below_drew1 | refine below_set ?_ GE254.out | refine below_set ?_ GE262.out) | exact HB.out)⟩⟩
          case round =>
            clear H'
            try clear c1
            try clear c2
            try clear p2
            try clear c3
            try clear c4
            try clear c8
            try clear c9
            try clear c9b0
            try clear c9b1
            try clear c10
            try clear c13
            try clear c17
            try clear c17b0
            try clear c17b1
            try clear c21
            try clear hcz18_0
            try clear hcz18_1
            try clear hcz18_2
            try clear hcz22_0
            try clear hcz22_1
            try clear hcz22_2
            try clear hcz22_3
            try clear hfz18_0
            try clear hfz18_1
            try clear hfz18_2
            try clear hfz22_0
            try clear hfz22_1
            try clear hfz22_2
            try clear hfz22_3
            try clear p2
            obtain ⟨x11_2, x12_2, x44_2, x263000_2, x263001_2, x263002_2, x263003_2, rfl, rfl, rfl, HA, HK2, BK254, BK262, HB⟩ := hrel
            cases gk with
            | zero => exact absurd HA.out (by simp [hopmeshlaw47_GossipOnce.l0])
            | succ k2 =>
              have H := HA.out
              clear HA
              simp only [hopmeshlaw47_GossipOnce.l0] at H
              by_cases c23 : x44_2 < (l3.length : Int)
              · rw [if_pos c23] at H
                have c23b0 : decide (x44_2 < (l3.length : Int)) = true := decide_eq_true c23
                clear c23
                by_cases c24 : 0 ≤ x44_2
                · rw [if_pos c24] at H
                  have c24b0 : decide (0 ≤ x44_2) = true := decide_eq_true c24
                  clear c24
                  by_cases c25 : x44_2 < (l3.length : Int)
                  · rw [if_pos c25] at H
                    have c25b0 : decide (x44_2 < (l3.length : Int)) = true := decide_eq_true c25
                    clear c25
                    replace H := Option.bind_eq_some_iff.mp H
                    obtain ⟨⟨t265, t266, t267, t268, t269, t270⟩, A260, H⟩ := H
                    replace H : (if t270 = 0 then ((gossip_Valid.f k2 a0_0 a0_1 a0_2 t265 t266 t267 t268).bind fun t271 => (if t271 = 0 then ((gossip_Greatest.f a0_0 a0_1 a0_2).bind fun t272 => (hopmeshlaw47_GossipOnce.j2 k2 a1 x11_2 x12_2 x44_2 t269 l3 (l3.length : Int) x44_2 (decide (t265 > t272)) a0_0 a0_1 a0_2 t265 t266 t267 t268 ((rd_T33 l3 x44_2).f0) ((rd_T33 l3 x44_2).f1) ((rd_T33 l3 x44_2).f2))) else (hopmeshlaw47_GossipOnce.j2 k2 a1 x11_2 x12_2 x44_2 t269 l3 (l3.length : Int) x44_2 true a0_0 a0_1 a0_2 t265 t266 t267 t268 ((rd_T33 l3 x44_2).f0) ((rd_T33 l3 x44_2).f1) ((rd_T33 l3 x44_2).f2)))) else (hopmeshlaw47_GossipOnce.j2 k2 a1 x11_2 x12_2 x44_2 t269 l3 (l3.length : Int) x44_2 true a0_0 a0_1 a0_2 t265 t266 t267 t268 ((rd_T33 l3 x44_2).f0) ((rd_T33 l3 x44_2).f1) ((rd_T33 l3 x44_2).f2))) = some r := H
                    have A26 := Aside0.mk A260
                    clear A260
                    have HC27 := Aside0.mk H
                    clear H
                    have p263 : 0 ≤ (x44_2 : Int) := of_decide_eq_true (by first | (with_reducible assumption) | assumption)
                    have q263 : x44_2 < (l3.length : Int) := of_decide_eq_true (by first | (with_reducible assumption) | assumption)
                    obtain ⟨ad263, e263, hx263_0, hx263_1, hx263_2⟩ := at_T33 HR3.out x44_2 p263 q263
                    cases e263
                    replace hx263_0 := (HB.out.cell (World.block_lt_of_cell? w _ hx263_0)).trans hx263_0
                    replace hx263_1 := (HB.out.cell (World.block_lt_of_cell? w _ hx263_1)).trans hx263_1
                    replace hx263_2 := (HB.out.cell (World.block_lt_of_cell? w _ hx263_2)).trans hx263_2
                    replace p263 := eq_true p263
                    replace q263 := eq_true q263
                    go_upto_region 12 with (first | ((with_reducible refine gate_dst (N := 14) rfl ?_); (try (refine gate_guard (by rfl) ?_; dsimp only)); refine box_event ?hg (N := 14) ?hd (cs := #[.bool false, .bool false, .int .u32 0]) (t := 33) ?hr ?_; (case hd => rfl); (case hg => rfl); (case hr => first | (go_simp; done) | (go_simp; rfl)); intro gb264 hg w28 hbox hb; have n0_ := Aside0.mk (blk_below (g := gb254) (o := .cells #[.int .i64 a0_0, .int .i64 a0_1, .int .i64 a0_2] 23 (0, 0)) (by (with_reducible repeat (first | refine blk_drewN ?_ _ | refine blk_drew ?_ | refine blk_alloc ?_ _)); exact BK254.out) hb); have n1_ := Aside0.mk (blk_below (g := gb262) (o := .cells #[.int .i64 x263000_2, .int .i64 x263001_2, .int .i64 x263002_2, .int .i64 x263003_2] 28 (0, 0)) (by (with_reducible repeat (first | refine blk_drewN ?_ _ | refine blk_drew ?_ | refine blk_alloc ?_ _)); exact BK262.out) hb); have n2_ := Aside0.mk (below_step (by repeat (first | (with_reducible first | exact HB.out | apply below_alloc | apply pw_below_drewN | apply below_drew1 | refine below_set ?_ GE254.out | refine below_set ?_ GE262.out) | exact HB.out)) hb); have n3_ := Aside0.mk (hbox); have n4_ := Aside0.mk ((by rw [hg]; exact (below_size (by repeat (first | (with_reducible first | exact HB.out | apply below_alloc | apply pw_below_drewN | apply below_drew1 | refine below_set ?_ GE254.out | refine below_set ?_ GE262.out) | exact HB.out))) : w.heap.size ≤ gb264)); have n5_ := Aside0.mk ((by rw [hg]; exact (below_size (by repeat (first | (with_reducible first | exact HB.out | apply below_alloc | apply pw_below_drewN | apply below_drew1 | refine below_set ?_ GE254.out | refine below_set ?_ GE262.out) | exact HB.out))) : w.heap.size ≤ gb264)); have n6_ := Aside0.mk ((by rw [hg]; exact Nat.ne_of_lt (blk_lt (g := gb254) (o := .cells #[.int .i64 a0_0, .int .i64 a0_1, .int .i64 a0_2] 23 (0, 0)) (by (with_reducible repeat (first | refine blk_drewN ?_ _ | refine blk_drew ?_ | refine blk_alloc ?_ _)); exact BK254.out)) : gb254 ≠ gb264)); have n7_ := Aside0.mk ((by rw [hg]; exact Nat.ne_of_gt (blk_lt (g := gb254) (o := .cells #[.int .i64 a0_0, .int .i64 a0_1, .int .i64 a0_2] 23 (0, 0)) (by (with_reducible repeat (first | refine blk_drewN ?_ _ | refine blk_drew ?_ | refine blk_alloc ?_ _)); exact BK254.out)) : gb264 ≠ gb254)); have n8_ := Aside0.mk ((by rw [hg]; exact Nat.ne_of_lt (blk_lt (g := gb262) (o := .cells #[.int .i64 x263000_2, .int .i64 x263001_2, .int .i64 x263002_2, .int .i64 x263003_2] 28 (0, 0)) (by (with_reducible repeat (first | refine blk_drewN ?_ _ | refine blk_drew ?_ | refine blk_alloc ?_ _)); exact BK262.out)) : gb262 ≠ gb264)); have n9_ := Aside0.mk ((by rw [hg]; exact Nat.ne_of_gt (blk_lt (g := gb262) (o := .cells #[.int .i64 x263000_2, .int .i64 x263001_2, .int .i64 x263002_2, .int .i64 x263003_2] 28 (0, 0)) (by (with_reducible repeat (first | refine blk_drewN ?_ _ | refine blk_drew ?_ | refine blk_alloc ?_ _)); exact BK262.out)) : gb264 ≠ gb262)); clear BK254; clear BK262; clear HB; have BK254 := n0_; have BK262 := n1_; have HB := n2_; have BK264 := n3_; have GW264 := n4_; have GE264 := n5_; have NB254_264 := n6_; have NB264_254 := n7_; have NB262_264 := n8_; have NB264_262 := n9_; clear n0_ n1_ n2_ n3_ n4_ n5_ n6_ n7_ n8_ n9_; clear hb hbox hg; have hnb29 := NB264_254.out; have hnc29 := NB254_264.out; have hnb30 := NB264_262.out; have hnc30 := NB262_264.out; have hcz31_0 : w28.cell? ⟨gb264, 0, none⟩ = some (.bool false) := (blk_cell BK264.out 0).trans rfl; have hcz31_1 : w28.cell? ⟨gb264, 1, none⟩ = some (.bool false) := (blk_cell BK264.out 1).trans rfl; have hcz31_2 : w28.cell? ⟨gb264, 2, none⟩ = some (.int .u32 0) := (blk_cell BK264.out 2).trans rfl; have hfz31_0 := blk_frozen BK264.out 0; have hfz31_1 := blk_frozen BK264.out 1; have hfz31_2 := blk_frozen BK264.out 2; have hnb32 := NB254_262.out; have hnc32 := NB262_254.out; have hcz33_0 : w28.cell? ⟨gb254, 0, none⟩ = some (.int .i64 a0_0) := (blk_cell BK254.out 0).trans rfl; have hcz33_1 : w28.cell? ⟨gb254, 1, none⟩ = some (.int .i64 a0_1) := (blk_cell BK254.out 1).trans rfl; have hcz33_2 : w28.cell? ⟨gb254, 2, none⟩ = some (.int .i64 a0_2) := (blk_cell BK254.out 2).trans rfl; have hfz33_0 := blk_frozen BK254.out 0; have hfz33_1 := blk_frozen BK254.out 1; have hfz33_2 := blk_frozen BK254.out 2; have hcz34_0 : w28.cell? ⟨gb262, 0, none⟩ = some (.int .i64 x263000_2) := (blk_cell BK262.out 0).trans rfl; have hcz34_1 : w28.cell? ⟨gb262, 1, none⟩ = some (.int .i64 x263001_2) := (blk_cell BK262.out 1).trans rfl; have hcz34_2 : w28.cell? ⟨gb262, 2, none⟩ = some (.int .i64 x263002_2) := (blk_cell BK262.out 2).trans rfl; have hcz34_3 : w28.cell? ⟨gb262, 3, none⟩ = some (.int .i64 x263003_2) := (blk_cell BK262.out 3).trans rfl; have hfz34_0 := blk_frozen BK262.out 0; have hfz34_1 := blk_frozen BK262.out 1; have hfz34_2 := blk_frozen BK262.out 2; have hfz34_3 := blk_frozen BK262.out 3) | ((with_reducible refine gate_callee (f := 12) rfl ?_); refine goesL_ (some 57) rfl rfl Try.func12 (by kernel_rfl) rfl #[.agg #[.int .i64 a0_0, .int .i64 a0_1, .int .i64 a0_2], .agg #[.int .i64 x263000_2, .int .i64 x263001_2, .int .i64 x263002_2, .int .i64 x263003_2], .int .i64 (wrap64 (a1 + x44_2)), .int .u32 ((rd_T33 l3 x44_2).f2)] rfl (by (try simp only [List.map_toArray, List.map_cons, List.map_nil]); first | done | rfl | (simp only [List.length_drop, List.length_take]; rfl)) ?_; (with_reducible refine (gossip_Step.calls k2 a0_0 a0_1 a0_2 x263000_2 x263001_2 x263002_2 x263003_2 (wrap64 (a1 + x44_2)) ((rd_T33 l3 x44_2).f2) t265 t266 t267 t268 t269 t270 _ A26.out).mono ?_); rintro e w35 ⟨rfl, hb⟩; refine ⟨_, rfl, ?_⟩; have n0_ := Aside0.mk (blk_below (g := gb254) (o := .cells #[.int .i64 a0_0, .int .i64 a0_1, .int .i64 a0_2] 23 (0, 0)) (by (with_reducible repeat (first | refine blk_drewN ?_ _ | refine blk_drew ?_ | refine blk_alloc ?_ _)); refine blk_far ?_ NB254_264.out _; (with_reducible repeat (first | refine blk_drewN ?_ _ | refine blk_drew ?_ | refine blk_alloc ?_ _)); refine blk_far ?_ NB254_264.out _; (with_reducible repeat (first | refine blk_drewN ?_ _ | refine blk_drew ?_ | refine blk_alloc ?_ _)); refine blk_far ?_ NB254_264.out _; (with_reducible repeat (first | refine blk_drewN ?_ _ | refine blk_drew ?_ | refine blk_alloc ?_ _)); exact BK254.out) hb); have n1_ := Aside0.mk (blk_below (g := gb262) (o := .cells #[.int .i64 x263000_2, .int .i64 x263001_2, .int .i64 x263002_2, .int .i64 x263003_2] 28 (0, 0)) (by (with_reducible repeat (first | refine blk_drewN ?_ _ | refine blk_drew ?_ | refine blk_alloc ?_ _)); refine blk_far ?_ NB262_264.out _; (with_reducible repeat (first | refine blk_drewN ?_ _ | refine blk_drew ?_ | refine blk_alloc ?_ _)); refine blk_far ?_ NB262_264.out _; (with_reducible repeat (first | refine blk_drewN ?_ _ | refine blk_drew ?_ | refine blk_alloc ?_ _)); refine blk_far ?_ NB262_264.out _; (with_reducible repeat (first | refine blk_drewN ?_ _ | refine blk_drew ?_ | refine blk_alloc ?_ _)); exact BK262.out) hb); have n2_ := Aside0.mk (blk_below (g := gb264) (o := .cells #[.bool ((rd_T33 l3 x44_2).f0), .bool ((rd_T33 l3 x44_2).f1), .int .u32 ((rd_T33 l3 x44_2).f2)] 33 (0, 0)) (by (with_reducible repeat (first | refine blk_drewN ?_ _ | refine blk_drew ?_ | refine blk_alloc ?_ _)); refine blk_put (cs := #[.bool ((rd_T33 l3 x44_2).f0), .bool ((rd_T33 l3 x44_2).f1), .int .u32 0]) ?_ 2 _ rfl; (with_reducible repeat (first | refine blk_drewN ?_ _ | refine blk_drew ?_ | refine blk_alloc ?_ _)); refine blk_put (cs := #[.bool ((rd_T33 l3 x44_2).f0), .bool false, .int .u32 0]) ?_ 1 _ rfl; (with_reducible repeat (first | refine blk_drewN ?_ _ | refine blk_drew ?_ | refine blk_alloc ?_ _)); refine blk_put (cs := #[.bool false, .bool false, .int .u32 0]) ?_ 0 _ rfl; (with_reducible repeat (first | refine blk_drewN ?_ _ | refine blk_drew ?_ | refine blk_alloc ?_ _)); exact BK264.out) hb); have n3_ := Aside0.mk (below_step (by repeat (first | (with_reducible first | exact HB.out | apply below_alloc | apply pw_below_drewN | apply below_drew1 | refine below_set ?_ GE254.out | refine below_set ?_ GE262.out | refine below_set ?_ GE264.out) | exact HB.out)) hb); clear BK254; clear BK262; clear BK264; clear HB; have BK254 := n0_; have BK262 := n1_; have BK264 := n2_; have HB := n3_; clear n0_ n1_ n2_ n3_; (try clear hb); (try clear hb2); (try clear hk); (try clear hi); have hcz36_0 : w35.cell? ⟨gb262, 0, none⟩ = some (.int .i64 x263000_2) := (blk_cell BK262.out 0).trans rfl; have hcz36_1 : w35.cell? ⟨gb262, 1, none⟩ = some (.int .i64 x263001_2) := (blk_cell BK262.out 1).trans rfl; have hcz36_2 : w35.cell? ⟨gb262, 2, none⟩ = some (.int .i64 x263002_2) := (blk_cell BK262.out 2).trans rfl; have hcz36_3 : w35.cell? ⟨gb262, 3, none⟩ = some (.int .i64 x263003_2) := (blk_cell BK262.out 3).trans rfl; have hfz36_0 := blk_frozen BK262.out 0; have hfz36_1 := blk_frozen BK262.out 1; have hfz36_2 := blk_frozen BK262.out 2; have hfz36_3 := blk_frozen BK262.out 3))
                    (try simp only [Act.put, List.setIfInBounds_toArray, List.set_cons_zero, List.set_cons_succ])
                    go_cut [75] (fun v75 wc => ∃ (kq : Nat) (x75_26 : Bool), v75 = .bool x75_26 ∧ Aside0 (hopmeshlaw47_GossipOnce.j2 kq a1 x11_2 x12_2 x44_2 t269 l3 (l3.length : Int) x44_2 x75_26 a0_0 a0_1 a0_2 t265 t266 t267 t268 ((rd_T33 l3 x44_2).f0) ((rd_T33 l3 x44_2).f1) ((rd_T33 l3 x44_2).f2) = some r) ∧ Aside0 (kq ≤ k2) ∧ Aside0 (wc.heap[gb254]? = some (.cells #[.int .i64 a0_0, .int .i64 a0_1, .int .i64 a0_2] 23 (0, 0))) ∧ Aside0 (wc.heap[gb262]? = some (.cells #[.int .i64 t265, .int .i64 t266, .int .i64 t267, .int .i64 t268] 28 (0, 0))) ∧ Aside0 (wc.heap[gb264]? = some (.cells #[.bool ((rd_T33 l3 x44_2).f0), .bool ((rd_T33 l3 x44_2).f1), .int .u32 ((rd_T33 l3 x44_2).f2)] 33 (0, 0))) ∧ Aside0 (Below w.heap.size w wc))
                    case first =>
                      have H := HC27.out
                      clear HC27
                      by_cases c37 : t270 = 0
                      · rw [if_pos c37] at H
                        have c37b0 : (t270 == 0) = true := beq_iff_eq.mpr c37
                        have c37b1 : (t270 != 0) = false := bne_eq_false_iff_eq.mpr c37
                        clear c37
                        (first | rw [c37b0] | (simp only [i64_w, i32_w]; rw [c37b0]) | skip)
                        replace H := Option.bind_eq_some_iff.mp H
                        obtain ⟨t271, A380, H⟩ := H
                        replace H : (if t271 = 0 then ((gossip_Greatest.f a0_0 a0_1 a0_2).bind fun t272 => (hopmeshlaw47_GossipOnce.j2 k2 a1 x11_2 x12_2 x44_2 t269 l3 (l3.length : Int) x44_2 (decide (t265 > t272)) a0_0 a0_1 a0_2 t265 t266 t267 t268 ((rd_T33 l3 x44_2).f0) ((rd_T33 l3 x44_2).f1) ((rd_T33 l3 x44_2).f2))) else (hopmeshlaw47_GossipOnce.j2 k2 a1 x11_2 x12_2 x44_2 t269 l3 (l3.length : Int) x44_2 true a0_0 a0_1 a0_2 t265 t266 t267 t268 ((rd_T33 l3 x44_2).f0) ((rd_T33 l3 x44_2).f1) ((rd_T33 l3 x44_2).f2))) = some r := H
                        have A38 := Aside0.mk A380
                        clear A380
                        by_cases c39 : t271 = 0
                        · rw [if_pos c39] at H
                          have c39b0 : (t271 == 0) = true := beq_iff_eq.mpr c39
                          have c39b1 : (t271 != 0) = false := bne_eq_false_iff_eq.mpr c39
                          clear c39
                          replace H := Option.bind_eq_some_iff.mp H
                          obtain ⟨t272, A400, H⟩ := H
                          replace H : (hopmeshlaw47_GossipOnce.j2 k2 a1 x11_2 x12_2 x44_2 t269 l3 (l3.length : Int) x44_2 (decide (t265 > t272)) a0_0 a0_1 a0_2 t265 t266 t267 t268 ((rd_T33 l3 x44_2).f0) ((rd_T33 l3 x44_2).f1) ((rd_T33 l3 x44_2).f2)) = some r := H
                          have A40 := Aside0.mk A400
                          clear A400
                          have H' := Aside0.mk H
                          clear H
                          try go_wp2
                          have n0_ : Aside0 (((((w35.setCell ⟨gb262, 0, none⟩ (.int .i64 t265)).setCell ⟨gb262, 1, none⟩ (.int .i64 t266)).setCell ⟨gb262, 2, none⟩ (.int .i64 t267)).setCell ⟨gb262, 3, none⟩ (.int .i64 t268)).heap[gb254]? = some (.cells #[.int .i64 a0_0, .int .i64 a0_1, .int .i64 a0_2] 23 (0, 0))) := ⟨by (with_reducible repeat (first | refine blk_drewN ?_ _ | refine blk_drew ?_ | refine blk_alloc ?_ _)); refine blk_far ?_ NB254_262.out _; (with_reducible repeat (first | refine blk_drewN ?_ _ | refine blk_drew ?_ | refine blk_alloc ?_ _)); refine blk_far ?_ NB254_262.out _; (with_reducible repeat (first | refine blk_drewN ?_ _ | refine blk_drew ?_ | refine blk_alloc ?_ _)); refine blk_far ?_ NB254_262.out _; (with_reducible repeat (first | refine blk_drewN ?_ _ | refine blk_drew ?_ | refine blk_alloc ?_ _)); refine blk_far ?_ NB254_262.out _; (with_reducible repeat (first | refine blk_drewN ?_ _ | refine blk_drew ?_ | refine blk_alloc ?_ _)); exact BK254.out⟩
                          have n1_ : Aside0 (((((w35.setCell ⟨gb262, 0, none⟩ (.int .i64 t265)).setCell ⟨gb262, 1, none⟩ (.int .i64 t266)).setCell ⟨gb262, 2, none⟩ (.int .i64 t267)).setCell ⟨gb262, 3, none⟩ (.int .i64 t268)).heap[gb262]? = some (.cells #[.int .i64 t265, .int .i64 t266, .int .i64 t267, .int .i64 t268] 28 (0, 0))) := ⟨by (with_reducible repeat (first | refine blk_drewN ?_ _ | refine blk_drew ?_ | refine blk_alloc ?_ _)); refine blk_put (cs := #[.int .i64 t265, .int .i64 t266, .int .i64 t267, .int .i64 x263003_2]) ?_ 3 _ rfl; (with_reducible repeat (first | refine blk_drewN ?_ _ | refine blk_drew ?_ | refine blk_alloc ?_ _)); refine blk_put (cs := #[.int .i64 t265, .int .i64 t266, .int .i64 x263002_2, .int .i64 x263003_2]) ?_ 2 _ rfl; (with_reducible repeat (first | refine blk_drewN ?_ _ | refine blk_drew ?_ | refine blk_alloc ?_ _)); refine blk_put (cs := #[.int .i64 t265, .int .i64 x263001_2, .int .i64 x263002_2, .int .i64 x263003_2]) ?_ 1 _ rfl; (with_reducible repeat (first | refine blk_drewN ?_ _ | refine blk_drew ?_ | refine blk_alloc ?_ _)); refine blk_put (cs := #[.int .i64 x263000_2, .int .i64 x263001_2, .int .i64 x263002_2, .int .i64 x263003_2]) ?_ 0 _ rfl; (with_reducible repeat (first | refine blk_drewN ?_ _ | refine blk_drew ?_ | refine blk_alloc ?_ _)); exact BK262.out⟩
                          have n2_ : Aside0 (((((w35.setCell ⟨gb262, 0, none⟩ (.int .i64 t265)).setCell ⟨gb262, 1, none⟩ (.int .i64 t266)).setCell ⟨gb262, 2, none⟩ (.int .i64 t267)).setCell ⟨gb262, 3, none⟩ (.int .i64 t268)).heap[gb264]? = some (.cells #[.bool ((rd_T33 l3 x44_2).f0), .bool ((rd_T33 l3 x44_2).f1), .int .u32 ((rd_T33 l3 x44_2).f2)] 33 (0, 0))) := ⟨by (with_reducible repeat (first | refine blk_drewN ?_ _ | refine blk_drew ?_ | refine blk_alloc ?_ _)); refine blk_far ?_ NB264_262.out _; (with_reducible repeat (first | refine blk_drewN ?_ _ | refine blk_drew ?_ | refine blk_alloc ?_ _)); refine blk_far ?_ NB264_262.out _; (with_reducible repeat (first | refine blk_drewN ?_ _ | refine blk_drew ?_ | refine blk_alloc ?_ _)); refine blk_far ?_ NB264_262.out _; (with_reducible repeat (first | refine blk_drewN ?_ _ | refine blk_drew ?_ | refine blk_alloc ?_ _)); refine blk_far ?_ NB264_262.out _; (with_reducible repeat (first | refine blk_drewN ?_ _ | refine blk_drew ?_ | refine blk_alloc ?_ _)); exact BK264.out⟩
                          have n3_ : Aside0 (Below w.heap.size w ((((w35.setCell ⟨gb262, 0, none⟩ (.int .i64 t265)).setCell ⟨gb262, 1, none⟩ (.int .i64 t266)).setCell ⟨gb262, 2, none⟩ (.int .i64 t267)).setCell ⟨gb262, 3, none⟩ (.int .i64 t268))) := ⟨by repeat (first | (with_reducible first | exact HB.out | apply below_alloc | apply pw_below_drewN | apply below_drew1 | refine below_set ?_ GE254.out | refine below_set ?_ GE262.out | refine below_set ?_ GE264.out) | exact HB.out)⟩
                          (try clear BK254)
                          (try clear BK262)
                          (try clear BK264)
                          (try clear HB)
                          generalize ((((w35.setCell ⟨gb262, 0, none⟩ (.int .i64 t265)).setCell ⟨gb262, 1, none⟩ (.int .i64 t266)).setCell ⟨gb262, 2, none⟩ (.int .i64 t267)).setCell ⟨gb262, 3, none⟩ (.int .i64 t268)) = w41 at n0_ n1_ n2_ n3_ ⊢
                          have BK254 := n0_
                          have BK262 := n1_
                          have BK264 := n2_
                          have HB := n3_
                          clear n0_ n1_ n2_ n3_
                          have n0_ := Aside0.mk (blk_drew BK254.out)
                          have n1_ := Aside0.mk (blk_drew BK262.out)
                          have n2_ := Aside0.mk (blk_drew BK264.out)
                          have n3_ := Aside0.mk (below_drew1 HB.out)
                          clear BK254
                          clear BK262
                          clear BK264
                          clear HB
                          have BK254 := n0_
                          have BK262 := n1_
                          have BK264 := n2_
                          have HB := n3_
                          clear n0_ n1_ n2_ n3_
                          refine start_ (n := 15) (S := fun w' => w'.cell? ⟨gb254, 0, none⟩ = some (.int .i64 a0_0) ∧ w'.cell? ⟨gb254, 1, none⟩ = some (.int .i64 a0_1) ∧ w'.cell? ⟨gb254, 2, none⟩ = some (.int .i64 a0_2) ∧ w'.cell? ⟨gb262, 0, none⟩ = some (.int .i64 t265) ∧ w'.cell? ⟨gb262, 1, none⟩ = some (.int .i64 t266) ∧ w'.cell? ⟨gb262, 2, none⟩ = some (.int .i64 t267) ∧ w'.cell? ⟨gb262, 3, none⟩ = some (.int .i64 t268)) (ds := []) #[false, false, false, false, false, false, false, false, false, false, false, false, false, false, false] (by kernel_rfl) rfl rfl ⟨(blk_cell BK254.out 0).trans rfl, (blk_cell BK254.out 1).trans rfl, (blk_cell BK254.out 2).trans rfl, (blk_cell BK262.out 0).trans rfl, (blk_cell BK262.out 1).trans rfl, (blk_cell BK262.out 2).trans rfl, (blk_cell BK262.out 3).trans rfl⟩ (fun hHeld => ?_); refine with_tabW hopmeshlaw47_GossipOnce.tab12 hopmeshlaw47_GossipOnce.bits12 (fun HT_ HW_ => ?_)
                          generalize w41.drew = w42 at BK254 BK262 BK264 HB hHeld ⊢
                          refine pure_ (i := 0) (N := some 61) (v := ?_) (a' := ?_) #[true, false, false, false, false, false, false, false, false, false, false, false, false, false, false] rfl rfl (any_of HT_.out (by kernel_rfl)) (fun _ _ _ h => h) (Or.inl ⟨by rfl, ?_⟩) ?_ ?_
                          rotate_left
                          · intro w'
                            go_simp
                            with_reducible rfl
                          rotate_left
                          · simp only [Act.put, List.setIfInBounds_toArray, List.set_cons_zero, List.set_cons_succ, i64_w, i32_w]
                            rfl
                          refine pure_ (i := 1) (N := some 62) (v := ?_) (a' := ?_) #[true, true, false, false, false, false, false, false, false, false, false, false, false, false, false] rfl rfl (any_of HT_.out (by kernel_rfl)) (fun _ _ _ h => h) (Or.inl ⟨by rfl, ?_⟩) ?_ ?_
                          rotate_left
                          · intro w'
                            go_simp
                            with_reducible rfl
                          rotate_left
                          · simp only [Act.put, List.setIfInBounds_toArray, List.set_cons_zero, List.set_cons_succ, i64_w, i32_w]
                            rfl
                          refine pure_ (i := 2) (N := some 63) (v := ?_) (a' := ?_) #[true, true, true, false, false, false, false, false, false, false, false, false, false, false, false] rfl rfl (any_of HT_.out (by kernel_rfl)) (fun _ _ _ h => h) (Or.inl ⟨by rfl, ?_⟩) ?_ ?_
                          rotate_left
                          · intro w'
                            go_simp
                            with_reducible rfl
                          rotate_left
                          · simp only [Act.put, List.setIfInBounds_toArray, List.set_cons_zero, List.set_cons_succ, i64_w, i32_w]
                            rfl
                          refine take_ (i := 3) (N := some 64) (v := ?_) (a' := ?_) #[true, true, true, true, false, false, false, false, false, false, false, false, false, false, false] rfl rfl (take_ofW HT_.out HW_.out (by kernel_rfl)) (fun _ _ _ h => h) (Or.inl ⟨by rfl, ?_⟩) hHeld ?_ ?_
                          rotate_left
                          · rintro w' ⟨s0, s1, s2, s3, s4, s5, s6⟩
                            go_simp
                            with_reducible rfl
                          rotate_left
                          · simp only [Act.put, List.setIfInBounds_toArray, List.set_cons_zero, List.set_cons_succ, i64_w, i32_w]
                            rfl
                          refine take_ (i := 4) (N := some 65) (v := ?_) (a' := ?_) #[true, true, true, true, true, false, false, false, false, false, false, false, false, false, false] rfl rfl (take_ofW HT_.out HW_.out (by kernel_rfl)) (fun _ _ _ h => h) (Or.inl ⟨by rfl, ?_⟩) hHeld ?_ ?_
                          rotate_left
                          · rintro w' ⟨s0, s1, s2, s3, s4, s5, s6⟩
                            go_simp
                            with_reducible rfl
                          rotate_left
                          · simp only [Act.put, List.setIfInBounds_toArray, List.set_cons_zero, List.set_cons_succ, i64_w, i32_w]
                            rfl
                          refine one_ (i := 5) (N := some 66) #[true, true, true, true, true, true, false, false, false, false, false, false, false, false, false] rfl rfl (one_of HT_.out (by kernel_rfl)) (by decide) (fun K hK => ?_)
                          refine goes_ Try.func16 (by kernel_rfl) rfl #[.agg #[.int .i64 a0_0, .int .i64 a0_1, .int .i64 a0_2], .agg #[.int .i64 t265, .int .i64 t266, .int .i64 t267, .int .i64 t268]] (by rfl) rfl rfl (by (try simp only [List.map_toArray, List.map_cons, List.map_nil]); first | done | rfl | (simp only [List.length_drop, List.length_take]; rfl)) ?_
                          with_reducible refine (gossip_Valid.calls k2 a0_0 a0_1 a0_2 t265 t266 t267 t268 t271 _ A38.out).mono ?_
                          rintro e w43 ⟨rfl, hb⟩
                          refine ⟨_, rfl, ?_⟩
                          have n0_ := Aside0.mk (blk_below (g := gb254) (o := .cells #[.int .i64 a0_0, .int .i64 a0_1, .int .i64 a0_2] 23 (0, 0)) (by (with_reducible repeat (first | refine blk_drewN ?_ _ | refine blk_drew ?_ | refine blk_alloc ?_ _)); exact BK254.out) hb)
                          have n1_ := Aside0.mk (blk_below (g := gb262) (o := .cells #[.int .i64 t265, .int .i64 t266, .int .i64 t267, .int .i64 t268] 28 (0, 0)) (by (with_reducible repeat (first | refine blk_drewN ?_ _ | refine blk_drew ?_ | refine blk_alloc ?_ _)); exact BK262.out) hb)
                          have n2_ := Aside0.mk (blk_below (g := gb264) (o := .cells #[.bool ((rd_T33 l3 x44_2).f0), .bool ((rd_T33 l3 x44_2).f1), .int .u32 ((rd_T33 l3 x44_2).f2)] 33 (0, 0)) (by (with_reducible repeat (first | refine blk_drewN ?_ _ | refine blk_drew ?_ | refine blk_alloc ?_ _)); exact BK264.out) hb)
                          have n3_ := Aside0.mk (below_step (by repeat (first | (with_reducible first | exact HB.out | apply below_alloc | apply pw_below_drewN | apply below_drew1 | refine below_set ?_ GE254.out | refine below_set ?_ GE262.out | refine below_set ?_ GE264.out) | exact HB.out)) hb)
                          clear BK254
                          clear BK262
                          clear BK264
                          clear HB
                          have BK254 := n0_
                          have BK262 := n1_
                          have BK264 := n2_
                          have HB := n3_
                          clear n0_ n1_ n2_ n3_
                          (try clear hb)
                          (try clear hb2)
                          (try clear hk)
                          (try clear hi)
                          refine hK.out _ _ ⟨(blk_cell BK254.out 0).trans rfl, (blk_cell BK254.out 1).trans rfl, (blk_cell BK254.out 2).trans rfl, (blk_cell BK262.out 0).trans rfl, (blk_cell BK262.out 1).trans rfl, (blk_cell BK262.out 2).trans rfl, (blk_cell BK262.out 3).trans rfl⟩ (fun hHeld => ?_)
                          clear hK K
                          refine norm_ (a' := ?_) ?_ ?_
                          rotate_left
                          · show Act.put _ (some 66) _ = _
                            simp only [Act.put, List.setIfInBounds_toArray, List.set_cons_zero, List.set_cons_succ, i64_w, i32_w]
                            rfl
                          refine pure_ (i := 6) (N := some 67) (v := ?_) (a' := ?_) #[true, true, true, true, true, true, true, false, false, false, false, false, false, false, false] rfl rfl (any_of HT_.out (by kernel_rfl)) (fun _ _ _ h => h) (Or.inl ⟨by rfl, ?_⟩) ?_ ?_
                          rotate_left
                          · intro w'
                            go_simp
                            with_reducible rfl
                          rotate_left
                          · simp only [Act.put, List.setIfInBounds_toArray, List.set_cons_zero, List.set_cons_succ, i64_w, i32_w]
                            rfl
                          refine pure_ (i := 7) (N := some 68) (v := ?_) (a' := ?_) #[true, true, true, true, true, true, true, true, false, false, false, false, false, false, false] rfl rfl (any_of HT_.out (by kernel_rfl)) (fun _ _ _ h => h) (Or.inl ⟨by rfl, ?_⟩) ?_ ?_
                          rotate_left
                          · intro w'
                            go_simp
                            with_reducible rfl
                          rotate_left
                          · simp only [Act.put, List.setIfInBounds_toArray, List.set_cons_zero, List.set_cons_succ, i64_w, i32_w]
                            rfl
                          refine pure_ (i := 8) (N := some 69) (v := ?_) (a' := ?_) #[true, true, true, true, true, true, true, true, true, false, false, false, false, false, false] rfl rfl (any_of HT_.out (by kernel_rfl)) (fun _ _ _ h => h) (Or.inl ⟨by rfl, ?_⟩) ?_ ?_
                          rotate_left
                          · intro w'
                            go_simp
                            with_reducible rfl
                          rotate_left
                          · simp only [Act.put, List.setIfInBounds_toArray, List.set_cons_zero, List.set_cons_succ, i64_w, i32_w]
                            rfl
                          refine pure_ (i := 9) (N := some 70) (v := ?_) (a' := ?_) #[true, true, true, true, true, true, true, true, true, true, false, false, false, false, false] rfl rfl (any_of HT_.out (by kernel_rfl)) (fun _ _ _ h => h) (Or.inl ⟨by rfl, ?_⟩) ?_ ?_
                          rotate_left
                          · intro w'
                            go_simp
                            with_reducible rfl
                          rotate_left
                          · simp only [Act.put, List.setIfInBounds_toArray, List.set_cons_zero, List.set_cons_succ, i64_w, i32_w]
                            rfl
                          refine take_ (i := 10) (N := some 71) (v := ?_) (a' := ?_) #[true, true, true, true, true, true, true, true, true, true, true, false, false, false, false] rfl rfl (take_ofW HT_.out HW_.out (by kernel_rfl)) (fun _ _ _ h => h) (Or.inl ⟨by rfl, ?_⟩) hHeld ?_ ?_
                          rotate_left
                          · rintro w' ⟨s0, s1, s2, s3, s4, s5, s6⟩
                            go_simp
                            with_reducible rfl
                          rotate_left
                          · simp only [Act.put, List.setIfInBounds_toArray, List.set_cons_zero, List.set_cons_succ, i64_w, i32_w]
                            rfl
                          refine take_ (i := 11) (N := some 72) (v := ?_) (a' := ?_) #[true, true, true, true, true, true, true, true, true, true, true, true, false, false, false] rfl rfl (take_ofW HT_.out HW_.out (by kernel_rfl)) (fun _ _ _ h => h) (Or.inl ⟨by rfl, ?_⟩) hHeld ?_ ?_
                          rotate_left
                          · rintro w' ⟨s0, s1, s2, s3, s4, s5, s6⟩
                            go_simp
                            with_reducible rfl
                          rotate_left
                          · simp only [Act.put, List.setIfInBounds_toArray, List.set_cons_zero, List.set_cons_succ, i64_w, i32_w]
                            rfl
                          refine one_ (i := 12) (N := some 73) #[true, true, true, true, true, true, true, true, true, true, true, true, true, false, false] rfl rfl (one_of HT_.out (by kernel_rfl)) (by decide) (fun K hK => ?_)
                          refine goes_ Try.func17 (by kernel_rfl) rfl #[.agg #[.int .i64 a0_0, .int .i64 a0_1, .int .i64 a0_2]] (by rfl) rfl rfl (by (try simp only [List.map_toArray, List.map_cons, List.map_nil]); first | done | rfl | (simp only [List.length_drop, List.length_take]; rfl)) ?_
                          with_reducible refine (gossip_Greatest.calls a0_0 a0_1 a0_2 t272 _ A40.out).mono ?_
                          rintro e w44 ⟨rfl, hb⟩
                          refine ⟨_, rfl, ?_⟩
                          have n0_ := Aside0.mk (blk_below (g := gb254) (o := .cells #[.int .i64 a0_0, .int .i64 a0_1, .int .i64 a0_2] 23 (0, 0)) (by (with_reducible repeat (first | refine blk_drewN ?_ _ | refine blk_drew ?_ | refine blk_alloc ?_ _)); exact BK254.out) hb)
                          have n1_ := Aside0.mk (blk_below (g := gb262) (o := .cells #[.int .i64 t265, .int .i64 t266, .int .i64 t267, .int .i64 t268] 28 (0, 0)) (by (with_reducible repeat (first | refine blk_drewN ?_ _ | refine blk_drew ?_ | refine blk_alloc ?_ _)); exact BK262.out) hb)
                          have n2_ := Aside0.mk (blk_below (g := gb264) (o := .cells #[.bool ((rd_T33 l3 x44_2).f0), .bool ((rd_T33 l3 x44_2).f1), .int .u32 ((rd_T33 l3 x44_2).f2)] 33 (0, 0)) (by (with_reducible repeat (first | refine blk_drewN ?_ _ | refine blk_drew ?_ | refine blk_alloc ?_ _)); exact BK264.out) hb)
                          have n3_ := Aside0.mk (below_step (by repeat (first | (with_reducible first | exact HB.out | apply below_alloc | apply pw_below_drewN | apply below_drew1 | refine below_set ?_ GE254.out | refine below_set ?_ GE262.out | refine below_set ?_ GE264.out) | exact HB.out)) hb)
                          clear BK254
                          clear BK262
                          clear BK264
                          clear HB
                          have BK254 := n0_
                          have BK262 := n1_
                          have BK264 := n2_
                          have HB := n3_
                          clear n0_ n1_ n2_ n3_
                          (try clear hb)
                          (try clear hb2)
                          (try clear hk)
                          (try clear hi)
                          refine hK.out _ _ ⟨(blk_cell BK254.out 0).trans rfl, (blk_cell BK254.out 1).trans rfl, (blk_cell BK254.out 2).trans rfl, (blk_cell BK262.out 0).trans rfl, (blk_cell BK262.out 1).trans rfl, (blk_cell BK262.out 2).trans rfl, (blk_cell BK262.out 3).trans rfl⟩ (fun hHeld => ?_)
                          clear hK K
                          refine norm_ (a' := ?_) ?_ ?_
                          rotate_left
                          · show Act.put _ (some 73) _ = _
                            simp only [Act.put, List.setIfInBounds_toArray, List.set_cons_zero, List.set_cons_succ, i64_w, i32_w]
                            rfl
                          refine pure_ (i := 13) (N := some 74) (v := ?_) (a' := ?_) #[true, true, true, true, true, true, true, true, true, true, true, true, true, true, false] rfl rfl (any_of HT_.out (by kernel_rfl)) (fun _ _ _ h => h) (Or.inl ⟨by rfl, ?_⟩) ?_ ?_
                          rotate_left
                          · intro w'
                            go_simp
                            with_reducible rfl
                          rotate_left
                          · simp only [Act.put, List.setIfInBounds_toArray, List.set_cons_zero, List.set_cons_succ, i64_w, i32_w]
                            rfl
                          refine pure_ (i := 14) (N := some 75) (v := ?_) (a' := ?_) #[true, true, true, true, true, true, true, true, true, true, true, true, true, true, true] rfl rfl (any_of HT_.out (by kernel_rfl)) (fun _ _ _ h => h) (Or.inl ⟨by rfl, ?_⟩) ?_ ?_
                          rotate_left
                          · intro w'
                            go_simp
                            with_reducible rfl
                          rotate_left
                          · simp only [Act.put, List.setIfInBounds_toArray, List.set_cons_zero, List.set_cons_succ, i64_w, i32_w]
                            rfl
                          refine done_ (done_of HT_.out (by kernel_rfl)) ?_
                          try go_wp2
                          go_meet
                          case rel => exact ⟨_, (decide (t265 > t272)), (by first | rfl | (simp; done) | (simp [*]; done)), H', ⟨by have := HJ4.out; have := HK2.out; first | omega | exact Nat.le_refl _⟩, ⟨by (with_reducible repeat (first | refine blk_drewN ?_ _ | refine blk_drew ?_ | refine blk_alloc ?_ _)); exact BK254.out⟩, ⟨by (with_reducible repeat (first | refine blk_drewN ?_ _ | refine blk_drew ?_ | refine blk_alloc ?_ _)); exact BK262.out⟩, ⟨by (with_reducible repeat (first | refine blk_drewN ?_ _ | refine blk_drew ?_ | refine blk_alloc ?_ _)); exact BK264.out⟩, ⟨by repeat (first | (with_reducible first | exact HB.out | apply below_alloc | apply pw_below_drewN | apply below_drew1 | refine below_set ?_ GE254.out | refine below_set ?_ GE262.out | refine below_set ?_ GE264.out) | exact HB.out)⟩⟩
                        · rw [if_neg c39] at H
                          have c39b0 : (t271 == 0) = false := beq_eq_false_iff_ne.mpr c39
                          have c39b1 : (t271 != 0) = true := bne_iff_ne.mpr c39
                          have H' := Aside0.mk H
                          clear H
                          try go_wp2
                          have n0_ : Aside0 (((((w35.setCell ⟨gb262, 0, none⟩ (.int .i64 t265)).setCell ⟨gb262, 1, none⟩ (.int .i64 t266)).setCell ⟨gb262, 2, none⟩ (.int .i64 t267)).setCell ⟨gb262, 3, none⟩ (.int .i64 t268)).heap[gb254]? = some (.cells #[.int .i64 a0_0, .int .i64 a0_1, .int .i64 a0_2] 23 (0, 0))) := ⟨by (with_reducible repeat (first | refine blk_drewN ?_ _ | refine blk_drew ?_ | refine blk_alloc ?_ _)); refine blk_far ?_ NB254_262.out _; (with_reducible repeat (first | refine blk_drewN ?_ _ | refine blk_drew ?_ | refine blk_alloc ?_ _)); refine blk_far ?_ NB254_262.out _; (with_reducible repeat (first | refine blk_drewN ?_ _ | refine blk_drew ?_ | refine blk_alloc ?_ _)); refine blk_far ?_ NB254_262.out _; (with_reducible repeat (first | refine blk_drewN ?_ _ | refine blk_drew ?_ | refine blk_alloc ?_ _)); refine blk_far ?_ NB254_262.out _; (with_reducible repeat (first | refine blk_drewN ?_ _ | refine blk_drew ?_ | refine blk_alloc ?_ _)); exact BK254.out⟩
                          have n1_ : Aside0 (((((w35.setCell ⟨gb262, 0, none⟩ (.int .i64 t265)).setCell ⟨gb262, 1, none⟩ (.int .i64 t266)).setCell ⟨gb262, 2, none⟩ (.int .i64 t267)).setCell ⟨gb262, 3, none⟩ (.int .i64 t268)).heap[gb262]? = some (.cells #[.int .i64 t265, .int .i64 t266, .int .i64 t267, .int .i64 t268] 28 (0, 0))) := ⟨by (with_reducible repeat (first | refine blk_drewN ?_ _ | refine blk_drew ?_ | refine blk_alloc ?_ _)); refine blk_put (cs := #[.int .i64 t265, .int .i64 t266, .int .i64 t267, .int .i64 x263003_2]) ?_ 3 _ rfl; (with_reducible repeat (first | refine blk_drewN ?_ _ | refine blk_drew ?_ | refine blk_alloc ?_ _)); refine blk_put (cs := #[.int .i64 t265, .int .i64 t266, .int .i64 x263002_2, .int .i64 x263003_2]) ?_ 2 _ rfl; (with_reducible repeat (first | refine blk_drewN ?_ _ | refine blk_drew ?_ | refine blk_alloc ?_ _)); refine blk_put (cs := #[.int .i64 t265, .int .i64 x263001_2, .int .i64 x263002_2, .int .i64 x263003_2]) ?_ 1 _ rfl; (with_reducible repeat (first | refine blk_drewN ?_ _ | refine blk_drew ?_ | refine blk_alloc ?_ _)); refine blk_put (cs := #[.int .i64 x263000_2, .int .i64 x263001_2, .int .i64 x263002_2, .int .i64 x263003_2]) ?_ 0 _ rfl; (with_reducible repeat (first | refine blk_drewN ?_ _ | refine blk_drew ?_ | refine blk_alloc ?_ _)); exact BK262.out⟩
                          have n2_ : Aside0 (((((w35.setCell ⟨gb262, 0, none⟩ (.int .i64 t265)).setCell ⟨gb262, 1, none⟩ (.int .i64 t266)).setCell ⟨gb262, 2, none⟩ (.int .i64 t267)).setCell ⟨gb262, 3, none⟩ (.int .i64 t268)).heap[gb264]? = some (.cells #[.bool ((rd_T33 l3 x44_2).f0), .bool ((rd_T33 l3 x44_2).f1), .int .u32 ((rd_T33 l3 x44_2).f2)] 33 (0, 0))) := ⟨by (with_reducible repeat (first | refine blk_drewN ?_ _ | refine blk_drew ?_ | refine blk_alloc ?_ _)); refine blk_far ?_ NB264_262.out _; (with_reducible repeat (first | refine blk_drewN ?_ _ | refine blk_drew ?_ | refine blk_alloc ?_ _)); refine blk_far ?_ NB264_262.out _; (with_reducible repeat (first | refine blk_drewN ?_ _ | refine blk_drew ?_ | refine blk_alloc ?_ _)); refine blk_far ?_ NB264_262.out _; (with_reducible repeat (first | refine blk_drewN ?_ _ | refine blk_drew ?_ | refine blk_alloc ?_ _)); refine blk_far ?_ NB264_262.out _; (with_reducible repeat (first | refine blk_drewN ?_ _ | refine blk_drew ?_ | refine blk_alloc ?_ _)); exact BK264.out⟩
                          have n3_ : Aside0 (Below w.heap.size w ((((w35.setCell ⟨gb262, 0, none⟩ (.int .i64 t265)).setCell ⟨gb262, 1, none⟩ (.int .i64 t266)).setCell ⟨gb262, 2, none⟩ (.int .i64 t267)).setCell ⟨gb262, 3, none⟩ (.int .i64 t268))) := ⟨by repeat (first | (with_reducible first | exact HB.out | apply below_alloc | apply pw_below_drewN | apply below_drew1 | refine below_set ?_ GE254.out | refine below_set ?_ GE262.out | refine below_set ?_ GE264.out) | exact HB.out)⟩
                          (try clear BK254)
                          (try clear BK262)
                          (try clear BK264)
                          (try clear HB)
                          generalize ((((w35.setCell ⟨gb262, 0, none⟩ (.int .i64 t265)).setCell ⟨gb262, 1, none⟩ (.int .i64 t266)).setCell ⟨gb262, 2, none⟩ (.int .i64 t267)).setCell ⟨gb262, 3, none⟩ (.int .i64 t268)) = w45 at n0_ n1_ n2_ n3_ ⊢
                          have BK254 := n0_
                          have BK262 := n1_
                          have BK264 := n2_
                          have HB := n3_
                          clear n0_ n1_ n2_ n3_
                          have n0_ := Aside0.mk (blk_drew BK254.out)
                          have n1_ := Aside0.mk (blk_drew BK262.out)
                          have n2_ := Aside0.mk (blk_drew BK264.out)
                          have n3_ := Aside0.mk (below_drew1 HB.out)
                          clear BK254
                          clear BK262
                          clear BK264
                          clear HB
                          have BK254 := n0_
                          have BK262 := n1_
                          have BK264 := n2_
                          have HB := n3_
                          clear n0_ n1_ n2_ n3_
                          refine start_ (n := 15) (S := fun w' => w'.cell? ⟨gb254, 0, none⟩ = some (.int .i64 a0_0) ∧ w'.cell? ⟨gb254, 1, none⟩ = some (.int .i64 a0_1) ∧ w'.cell? ⟨gb254, 2, none⟩ = some (.int .i64 a0_2) ∧ w'.cell? ⟨gb262, 0, none⟩ = some (.int .i64 t265) ∧ w'.cell? ⟨gb262, 1, none⟩ = some (.int .i64 t266) ∧ w'.cell? ⟨gb262, 2, none⟩ = some (.int .i64 t267) ∧ w'.cell? ⟨gb262, 3, none⟩ = some (.int .i64 t268)) (ds := []) #[false, false, false, false, false, false, false, false, false, false, false, false, false, false, false] (by kernel_rfl) rfl rfl ⟨(blk_cell BK254.out 0).trans rfl, (blk_cell BK254.out 1).trans rfl, (blk_cell BK254.out 2).trans rfl, (blk_cell BK262.out 0).trans rfl, (blk_cell BK262.out 1).trans rfl, (blk_cell BK262.out 2).trans rfl, (blk_cell BK262.out 3).trans rfl⟩ (fun hHeld => ?_); refine with_tabW hopmeshlaw47_GossipOnce.tab12 hopmeshlaw47_GossipOnce.bits12 (fun HT_ HW_ => ?_)
                          generalize w45.drew = w46 at BK254 BK262 BK264 HB hHeld ⊢
                          refine pure_ (i := 0) (N := some 61) (v := ?_) (a' := ?_) #[true, false, false, false, false, false, false, false, false, false, false, false, false, false, false] rfl rfl (any_of HT_.out (by kernel_rfl)) (fun _ _ _ h => h) (Or.inl ⟨by rfl, ?_⟩) ?_ ?_
                          rotate_left
                          · intro w'
                            go_simp
                            with_reducible rfl
                          rotate_left
                          · simp only [Act.put, List.setIfInBounds_toArray, List.set_cons_zero, List.set_cons_succ, i64_w, i32_w]
                            rfl
                          refine pure_ (i := 1) (N := some 62) (v := ?_) (a' := ?_) #[true, true, false, false, false, false, false, false, false, false, false, false, false, false, false] rfl rfl (any_of HT_.out (by kernel_rfl)) (fun _ _ _ h => h) (Or.inl ⟨by rfl, ?_⟩) ?_ ?_
                          rotate_left
                          · intro w'
                            go_simp
                            with_reducible rfl
                          rotate_left
                          · simp only [Act.put, List.setIfInBounds_toArray, List.set_cons_zero, List.set_cons_succ, i64_w, i32_w]
                            rfl
                          refine pure_ (i := 2) (N := some 63) (v := ?_) (a' := ?_) #[true, true, true, false, false, false, false, false, false, false, false, false, false, false, false] rfl rfl (any_of HT_.out (by kernel_rfl)) (fun _ _ _ h => h) (Or.inl ⟨by rfl, ?_⟩) ?_ ?_
                          rotate_left
                          · intro w'
                            go_simp
                            with_reducible rfl
                          rotate_left
                          · simp only [Act.put, List.setIfInBounds_toArray, List.set_cons_zero, List.set_cons_succ, i64_w, i32_w]
                            rfl
                          refine take_ (i := 3) (N := some 64) (v := ?_) (a' := ?_) #[true, true, true, true, false, false, false, false, false, false, false, false, false, false, false] rfl rfl (take_ofW HT_.out HW_.out (by kernel_rfl)) (fun _ _ _ h => h) (Or.inl ⟨by rfl, ?_⟩) hHeld ?_ ?_
                          rotate_left
                          · rintro w' ⟨s0, s1, s2, s3, s4, s5, s6⟩
                            go_simp
                            with_reducible rfl
                          rotate_left
                          · simp only [Act.put, List.setIfInBounds_toArray, List.set_cons_zero, List.set_cons_succ, i64_w, i32_w]
                            rfl
                          refine take_ (i := 4) (N := some 65) (v := ?_) (a' := ?_) #[true, true, true, true, true, false, false, false, false, false, false, false, false, false, false] rfl rfl (take_ofW HT_.out HW_.out (by kernel_rfl)) (fun _ _ _ h => h) (Or.inl ⟨by rfl, ?_⟩) hHeld ?_ ?_
                          rotate_left
                          · rintro w' ⟨s0, s1, s2, s3, s4, s5, s6⟩
                            go_simp
                            with_reducible rfl
                          rotate_left
                          · simp only [Act.put, List.setIfInBounds_toArray, List.set_cons_zero, List.set_cons_succ, i64_w, i32_w]
                            rfl
                          refine one_ (i := 5) (N := some 66) #[true, true, true, true, true, true, false, false, false, false, false, false, false, false, false] rfl rfl (one_of HT_.out (by kernel_rfl)) (by decide) (fun K hK => ?_)
                          refine goes_ Try.func16 (by kernel_rfl) rfl #[.agg #[.int .i64 a0_0, .int .i64 a0_1, .int .i64 a0_2], .agg #[.int .i64 t265, .int .i64 t266, .int .i64 t267, .int .i64 t268]] (by rfl) rfl rfl (by (try simp only [List.map_toArray, List.map_cons, List.map_nil]); first | done | rfl | (simp only [List.length_drop, List.length_take]; rfl)) ?_
                          with_reducible refine (gossip_Valid.calls k2 a0_0 a0_1 a0_2 t265 t266 t267 t268 t271 _ A38.out).mono ?_
                          rintro e w47 ⟨rfl, hb⟩
                          refine ⟨_, rfl, ?_⟩
                          have n0_ := Aside0.mk (blk_below (g := gb254) (o := .cells #[.int .i64 a0_0, .int .i64 a0_1, .int .i64 a0_2] 23 (0, 0)) (by (with_reducible repeat (first | refine blk_drewN ?_ _ | refine blk_drew ?_ | refine blk_alloc ?_ _)); exact BK254.out) hb)
                          have n1_ := Aside0.mk (blk_below (g := gb262) (o := .cells #[.int .i64 t265, .int .i64 t266, .int .i64 t267, .int .i64 t268] 28 (0, 0)) (by (with_reducible repeat (first | refine blk_drewN ?_ _ | refine blk_drew ?_ | refine blk_alloc ?_ _)); exact BK262.out) hb)
                          have n2_ := Aside0.mk (blk_below (g := gb264) (o := .cells #[.bool ((rd_T33 l3 x44_2).f0), .bool ((rd_T33 l3 x44_2).f1), .int .u32 ((rd_T33 l3 x44_2).f2)] 33 (0, 0)) (by (with_reducible repeat (first | refine blk_drewN ?_ _ | refine blk_drew ?_ | refine blk_alloc ?_ _)); exact BK264.out) hb)
                          have n3_ := Aside0.mk (below_step (by repeat (first | (with_reducible first | exact HB.out | apply below_alloc | apply pw_below_drewN | apply below_drew1 | refine below_set ?_ GE254.out | refine below_set ?_ GE262.out | refine below_set ?_ GE264.out) | exact HB.out)) hb)
                          clear BK254
                          clear BK262
                          clear BK264
                          clear HB
                          have BK254 := n0_
                          have BK262 := n1_
                          have BK264 := n2_
                          have HB := n3_
                          clear n0_ n1_ n2_ n3_
                          (try clear hb)
                          (try clear hb2)
                          (try clear hk)
                          (try clear hi)
                          refine hK.out _ _ ⟨(blk_cell BK254.out 0).trans rfl, (blk_cell BK254.out 1).trans rfl, (blk_cell BK254.out 2).trans rfl, (blk_cell BK262.out 0).trans rfl, (blk_cell BK262.out 1).trans rfl, (blk_cell BK262.out 2).trans rfl, (blk_cell BK262.out 3).trans rfl⟩ (fun hHeld => ?_)
                          clear hK K
                          refine norm_ (a' := ?_) ?_ ?_
                          rotate_left
                          · show Act.put _ (some 66) _ = _
                            simp only [Act.put, List.setIfInBounds_toArray, List.set_cons_zero, List.set_cons_succ, i64_w, i32_w]
                            rfl
                          refine pure_ (i := 6) (N := some 67) (v := ?_) (a' := ?_) #[true, true, true, true, true, true, true, false, false, false, false, false, false, false, false] rfl rfl (any_of HT_.out (by kernel_rfl)) (fun _ _ _ h => h) (Or.inl ⟨by rfl, ?_⟩) ?_ ?_
                          rotate_left
                          · intro w'
                            go_simp
                            with_reducible rfl
                          rotate_left
                          · simp only [Act.put, List.setIfInBounds_toArray, List.set_cons_zero, List.set_cons_succ, i64_w, i32_w]
                            rfl
                          refine pure_ (i := 7) (N := some 68) (v := ?_) (a' := ?_) #[true, true, true, true, true, true, true, true, false, false, false, false, false, false, false] rfl rfl (any_of HT_.out (by kernel_rfl)) (fun _ _ _ h => h) (Or.inl ⟨by rfl, ?_⟩) ?_ ?_
                          rotate_left
                          · intro w'
                            go_simp
                            with_reducible rfl
                          rotate_left
                          · simp only [Act.put, List.setIfInBounds_toArray, List.set_cons_zero, List.set_cons_succ, i64_w, i32_w]
                            rfl
                          refine pure_ (i := 8) (N := some 69) (v := ?_) (a' := ?_) #[true, true, true, true, true, true, true, true, true, false, false, false, false, false, false] rfl rfl (any_of HT_.out (by kernel_rfl)) (fun _ _ _ h => h) (Or.inl ⟨by rfl, ?_⟩) ?_ ?_
                          rotate_left
                          · intro w'
                            go_simp
                            with_reducible rfl
                          rotate_left
                          · simp only [Act.put, List.setIfInBounds_toArray, List.set_cons_zero, List.set_cons_succ, i64_w, i32_w]
                            rfl
                          refine pure_ (i := 9) (N := some 70) (v := undef) (a' := ?_) #[true, true, true, true, true, true, true, true, true, true, false, false, false, false, false] rfl rfl (any_of HT_.out (by kernel_rfl)) (fun _ _ _ h => h) (Or.inr ⟨by rfl, rfl⟩) ?_ ?_
                          rotate_left
                          · simp only [Act.put, List.setIfInBounds_toArray, List.set_cons_zero, List.set_cons_succ, i64_w, i32_w]
                            rfl
                          refine pure_ (i := 10) (N := some 71) (v := undef) (a' := ?_) #[true, true, true, true, true, true, true, true, true, true, true, false, false, false, false] rfl rfl (any_of HT_.out (by kernel_rfl)) (fun _ _ _ h => h) (Or.inr ⟨by rfl, rfl⟩) ?_ ?_
                          rotate_left
                          · simp only [Act.put, List.setIfInBounds_toArray, List.set_cons_zero, List.set_cons_succ, i64_w, i32_w]
                            rfl
                          refine pure_ (i := 11) (N := some 72) (v := undef) (a' := ?_) #[true, true, true, true, true, true, true, true, true, true, true, true, false, false, false] rfl rfl (any_of HT_.out (by kernel_rfl)) (fun _ _ _ h => h) (Or.inr ⟨by rfl, rfl⟩) ?_ ?_
                          rotate_left
                          · simp only [Act.put, List.setIfInBounds_toArray, List.set_cons_zero, List.set_cons_succ, i64_w, i32_w]
                            rfl
                          refine pure_ (i := 12) (N := some 73) (v := undef) (a' := ?_) #[true, true, true, true, true, true, true, true, true, true, true, true, true, false, false] rfl rfl (any_of HT_.out (by kernel_rfl)) (fun _ _ _ h => h) (Or.inr ⟨by rfl, rfl⟩) ?_ ?_
                          rotate_left
                          · simp only [Act.put, List.setIfInBounds_toArray, List.set_cons_zero, List.set_cons_succ, i64_w, i32_w]
                            rfl
                          refine pure_ (i := 13) (N := some 74) (v := undef) (a' := ?_) #[true, true, true, true, true, true, true, true, true, true, true, true, true, true, false] rfl rfl (any_of HT_.out (by kernel_rfl)) (fun _ _ _ h => h) (Or.inr ⟨by rfl, rfl⟩) ?_ ?_
                          rotate_left
                          · simp only [Act.put, List.setIfInBounds_toArray, List.set_cons_zero, List.set_cons_succ, i64_w, i32_w]
                            rfl
                          refine pure_ (i := 14) (N := some 75) (v := ?_) (a' := ?_) #[true, true, true, true, true, true, true, true, true, true, true, true, true, true, true] rfl rfl (any_of HT_.out (by kernel_rfl)) (fun _ _ _ h => h) (Or.inl ⟨by rfl, ?_⟩) ?_ ?_
                          rotate_left
                          · intro w'
                            go_simp
                            with_reducible rfl
                          rotate_left
                          · simp only [Act.put, List.setIfInBounds_toArray, List.set_cons_zero, List.set_cons_succ, i64_w, i32_w]
                            rfl
                          refine done_ (done_of HT_.out (by kernel_rfl)) ?_
                          try go_wp2
                          go_meet
                          case rel => exact ⟨_, (true), (by first | rfl | (simp; done) | (simp [*]; done)), H', ⟨by have := HJ4.out; have := HK2.out; first | omega | exact Nat.le_refl _⟩, ⟨by (with_reducible repeat (first | refine blk_drewN ?_ _ | refine blk_drew ?_ | refine blk_alloc ?_ _)); exact BK254.out⟩, ⟨by (with_reducible repeat (first | refine blk_drewN ?_ _ | refine blk_drew ?_ | refine blk_alloc ?_ _)); exact BK262.out⟩, ⟨by (with_reducible repeat (first | refine blk_drewN ?_ _ | refine blk_drew ?_ | refine blk_alloc ?_ _)); exact BK264.out⟩, ⟨by repeat (first | (with_reducible first | exact HB.out | apply below_alloc | apply pw_below_drewN | apply below_drew1 | refine below_set ?_ GE254.out | refine below_set ?_ GE262.out | refine below_set ?_ GE264.out) | exact HB.out)⟩⟩
                      · rw [if_neg c37] at H
                        have c37b0 : (t270 == 0) = false := beq_eq_false_iff_ne.mpr c37
                        have c37b1 : (t270 != 0) = true := bne_iff_ne.mpr c37
                        (first | rw [c37b0] | (simp only [i64_w, i32_w]; rw [c37b0]) | skip)
                        have H' := Aside0.mk H
                        clear H
                        try go_wp2
                        have n0_ : Aside0 (((((w35.setCell ⟨gb262, 0, none⟩ (.int .i64 t265)).setCell ⟨gb262, 1, none⟩ (.int .i64 t266)).setCell ⟨gb262, 2, none⟩ (.int .i64 t267)).setCell ⟨gb262, 3, none⟩ (.int .i64 t268)).heap[gb254]? = some (.cells #[.int .i64 a0_0, .int .i64 a0_1, .int .i64 a0_2] 23 (0, 0))) := ⟨by (with_reducible repeat (first | refine blk_drewN ?_ _ | refine blk_drew ?_ | refine blk_alloc ?_ _)); refine blk_far ?_ NB254_262.out _; (with_reducible repeat (first | refine blk_drewN ?_ _ | refine blk_drew ?_ | refine blk_alloc ?_ _)); refine blk_far ?_ NB254_262.out _; (with_reducible repeat (first | refine blk_drewN ?_ _ | refine blk_drew ?_ | refine blk_alloc ?_ _)); refine blk_far ?_ NB254_262.out _; (with_reducible repeat (first | refine blk_drewN ?_ _ | refine blk_drew ?_ | refine blk_alloc ?_ _)); refine blk_far ?_ NB254_262.out _; (with_reducible repeat (first | refine blk_drewN ?_ _ | refine blk_drew ?_ | refine blk_alloc ?_ _)); exact BK254.out⟩
                        have n1_ : Aside0 (((((w35.setCell ⟨gb262, 0, none⟩ (.int .i64 t265)).setCell ⟨gb262, 1, none⟩ (.int .i64 t266)).setCell ⟨gb262, 2, none⟩ (.int .i64 t267)).setCell ⟨gb262, 3, none⟩ (.int .i64 t268)).heap[gb262]? = some (.cells #[.int .i64 t265, .int .i64 t266, .int .i64 t267, .int .i64 t268] 28 (0, 0))) := ⟨by (with_reducible repeat (first | refine blk_drewN ?_ _ | refine blk_drew ?_ | refine blk_alloc ?_ _)); refine blk_put (cs := #[.int .i64 t265, .int .i64 t266, .int .i64 t267, .int .i64 x263003_2]) ?_ 3 _ rfl; (with_reducible repeat (first | refine blk_drewN ?_ _ | refine blk_drew ?_ | refine blk_alloc ?_ _)); refine blk_put (cs := #[.int .i64 t265, .int .i64 t266, .int .i64 x263002_2, .int .i64 x263003_2]) ?_ 2 _ rfl; (with_reducible repeat (first | refine blk_drewN ?_ _ | refine blk_drew ?_ | refine blk_alloc ?_ _)); refine blk_put (cs := #[.int .i64 t265, .int .i64 x263001_2, .int .i64 x263002_2, .int .i64 x263003_2]) ?_ 1 _ rfl; (with_reducible repeat (first | refine blk_drewN ?_ _ | refine blk_drew ?_ | refine blk_alloc ?_ _)); refine blk_put (cs := #[.int .i64 x263000_2, .int .i64 x263001_2, .int .i64 x263002_2, .int .i64 x263003_2]) ?_ 0 _ rfl; (with_reducible repeat (first | refine blk_drewN ?_ _ | refine blk_drew ?_ | refine blk_alloc ?_ _)); exact BK262.out⟩
                        have n2_ : Aside0 (((((w35.setCell ⟨gb262, 0, none⟩ (.int .i64 t265)).setCell ⟨gb262, 1, none⟩ (.int .i64 t266)).setCell ⟨gb262, 2, none⟩ (.int .i64 t267)).setCell ⟨gb262, 3, none⟩ (.int .i64 t268)).heap[gb264]? = some (.cells #[.bool ((rd_T33 l3 x44_2).f0), .bool ((rd_T33 l3 x44_2).f1), .int .u32 ((rd_T33 l3 x44_2).f2)] 33 (0, 0))) := ⟨by (with_reducible repeat (first | refine blk_drewN ?_ _ | refine blk_drew ?_ | refine blk_alloc ?_ _)); refine blk_far ?_ NB264_262.out _; (with_reducible repeat (first | refine blk_drewN ?_ _ | refine blk_drew ?_ | refine blk_alloc ?_ _)); refine blk_far ?_ NB264_262.out _; (with_reducible repeat (first | refine blk_drewN ?_ _ | refine blk_drew ?_ | refine blk_alloc ?_ _)); refine blk_far ?_ NB264_262.out _; (with_reducible repeat (first | refine blk_drewN ?_ _ | refine blk_drew ?_ | refine blk_alloc ?_ _)); refine blk_far ?_ NB264_262.out _; (with_reducible repeat (first | refine blk_drewN ?_ _ | refine blk_drew ?_ | refine blk_alloc ?_ _)); exact BK264.out⟩
                        have n3_ : Aside0 (Below w.heap.size w ((((w35.setCell ⟨gb262, 0, none⟩ (.int .i64 t265)).setCell ⟨gb262, 1, none⟩ (.int .i64 t266)).setCell ⟨gb262, 2, none⟩ (.int .i64 t267)).setCell ⟨gb262, 3, none⟩ (.int .i64 t268))) := ⟨by repeat (first | (with_reducible first | exact HB.out | apply below_alloc | apply pw_below_drewN | apply below_drew1 | refine below_set ?_ GE254.out | refine below_set ?_ GE262.out | refine below_set ?_ GE264.out) | exact HB.out)⟩
                        (try clear BK254)
                        (try clear BK262)
                        (try clear BK264)
                        (try clear HB)
                        generalize ((((w35.setCell ⟨gb262, 0, none⟩ (.int .i64 t265)).setCell ⟨gb262, 1, none⟩ (.int .i64 t266)).setCell ⟨gb262, 2, none⟩ (.int .i64 t267)).setCell ⟨gb262, 3, none⟩ (.int .i64 t268)) = w48 at n0_ n1_ n2_ n3_ ⊢
                        have BK254 := n0_
                        have BK262 := n1_
                        have BK264 := n2_
                        have HB := n3_
                        clear n0_ n1_ n2_ n3_
                        have n0_ := Aside0.mk (blk_drew BK254.out)
                        have n1_ := Aside0.mk (blk_drew BK262.out)
                        have n2_ := Aside0.mk (blk_drew BK264.out)
                        have n3_ := Aside0.mk (below_drew1 HB.out)
                        clear BK254
                        clear BK262
                        clear BK264
                        clear HB
                        have BK254 := n0_
                        have BK262 := n1_
                        have BK264 := n2_
                        have HB := n3_
                        clear n0_ n1_ n2_ n3_
                        refine start_ (n := 15) (S := fun w' => True) (ds := []) #[false, false, false, false, false, false, false, false, false, false, false, false, false, false, false] (by kernel_rfl) rfl rfl trivial (fun hHeld => ?_); refine with_tabW hopmeshlaw47_GossipOnce.tab12 hopmeshlaw47_GossipOnce.bits12 (fun HT_ HW_ => ?_)
                        generalize w48.drew = w49 at BK254 BK262 BK264 HB hHeld ⊢
                        refine pure_ (i := 0) (N := some 61) (v := ?_) (a' := ?_) #[true, false, false, false, false, false, false, false, false, false, false, false, false, false, false] rfl rfl (any_of HT_.out (by kernel_rfl)) (fun _ _ _ h => h) (Or.inl ⟨by rfl, ?_⟩) ?_ ?_
                        rotate_left
                        · intro w'
                          go_simp
                          with_reducible rfl
                        rotate_left
                        · simp only [Act.put, List.setIfInBounds_toArray, List.set_cons_zero, List.set_cons_succ, i64_w, i32_w]
                          rfl
                        refine pure_ (i := 1) (N := some 62) (v := ?_) (a' := ?_) #[true, true, false, false, false, false, false, false, false, false, false, false, false, false, false] rfl rfl (any_of HT_.out (by kernel_rfl)) (fun _ _ _ h => h) (Or.inl ⟨by rfl, ?_⟩) ?_ ?_
                        rotate_left
                        · intro w'
                          go_simp
                          with_reducible rfl
                        rotate_left
                        · simp only [Act.put, List.setIfInBounds_toArray, List.set_cons_zero, List.set_cons_succ, i64_w, i32_w]
                          rfl
                        refine pure_ (i := 2) (N := some 63) (v := ?_) (a' := ?_) #[true, true, true, false, false, false, false, false, false, false, false, false, false, false, false] rfl rfl (any_of HT_.out (by kernel_rfl)) (fun _ _ _ h => h) (Or.inl ⟨by rfl, ?_⟩) ?_ ?_
                        rotate_left
                        · intro w'
                          go_simp
                          with_reducible rfl
                        rotate_left
                        · simp only [Act.put, List.setIfInBounds_toArray, List.set_cons_zero, List.set_cons_succ, i64_w, i32_w]
                          rfl
                        refine pure_ (i := 3) (N := some 64) (v := undef) (a' := ?_) #[true, true, true, true, false, false, false, false, false, false, false, false, false, false, false] rfl rfl (any_of HT_.out (by kernel_rfl)) (fun _ _ _ h => h) (Or.inr ⟨by rfl, rfl⟩) ?_ ?_
                        rotate_left
                        · simp only [Act.put, List.setIfInBounds_toArray, List.set_cons_zero, List.set_cons_succ, i64_w, i32_w]
                          rfl
                        refine pure_ (i := 4) (N := some 65) (v := undef) (a' := ?_) #[true, true, true, true, true, false, false, false, false, false, false, false, false, false, false] rfl rfl (any_of HT_.out (by kernel_rfl)) (fun _ _ _ h => h) (Or.inr ⟨by rfl, rfl⟩) ?_ ?_
                        rotate_left
                        · simp only [Act.put, List.setIfInBounds_toArray, List.set_cons_zero, List.set_cons_succ, i64_w, i32_w]
                          rfl
                        refine pure_ (i := 5) (N := some 66) (v := undef) (a' := ?_) #[true, true, true, true, true, true, false, false, false, false, false, false, false, false, false] rfl rfl (any_of HT_.out (by kernel_rfl)) (fun _ _ _ h => h) (Or.inr ⟨by rfl, rfl⟩) ?_ ?_
                        rotate_left
                        · simp only [Act.put, List.setIfInBounds_toArray, List.set_cons_zero, List.set_cons_succ, i64_w, i32_w]
                          rfl
                        refine pure_ (i := 6) (N := some 67) (v := undef) (a' := ?_) #[true, true, true, true, true, true, true, false, false, false, false, false, false, false, false] rfl rfl (any_of HT_.out (by kernel_rfl)) (fun _ _ _ h => h) (Or.inr ⟨by rfl, rfl⟩) ?_ ?_
                        rotate_left
                        · simp only [Act.put, List.setIfInBounds_toArray, List.set_cons_zero, List.set_cons_succ, i64_w, i32_w]
                          rfl
                        refine pure_ (i := 7) (N := some 68) (v := ?_) (a' := ?_) #[true, true, true, true, true, true, true, true, false, false, false, false, false, false, false] rfl rfl (any_of HT_.out (by kernel_rfl)) (fun _ _ _ h => h) (Or.inl ⟨by rfl, ?_⟩) ?_ ?_
                        rotate_left
                        · intro w'
                          go_simp
                          with_reducible rfl
                        rotate_left
                        · simp only [Act.put, List.setIfInBounds_toArray, List.set_cons_zero, List.set_cons_succ, i64_w, i32_w]
                          rfl
                        refine pure_ (i := 8) (N := some 69) (v := ?_) (a' := ?_) #[true, true, true, true, true, true, true, true, true, false, false, false, false, false, false] rfl rfl (any_of HT_.out (by kernel_rfl)) (fun _ _ _ h => h) (Or.inl ⟨by rfl, ?_⟩) ?_ ?_
                        rotate_left
                        · intro w'
                          go_simp
                          with_reducible rfl
                        rotate_left
                        · simp only [Act.put, List.setIfInBounds_toArray, List.set_cons_zero, List.set_cons_succ, i64_w, i32_w]
                          rfl
                        refine pure_ (i := 9) (N := some 70) (v := undef) (a' := ?_) #[true, true, true, true, true, true, true, true, true, true, false, false, false, false, false] rfl rfl (any_of HT_.out (by kernel_rfl)) (fun _ _ _ h => h) (Or.inr ⟨by rfl, rfl⟩) ?_ ?_
                        rotate_left
                        · simp only [Act.put, List.setIfInBounds_toArray, List.set_cons_zero, List.set_cons_succ, i64_w, i32_w]
                          rfl
                        refine pure_ (i := 10) (N := some 71) (v := undef) (a' := ?_) #[true, true, true, true, true, true, true, true, true, true, true, false, false, false, false] rfl rfl (any_of HT_.out (by kernel_rfl)) (fun _ _ _ h => h) (Or.inr ⟨by rfl, rfl⟩) ?_ ?_
                        rotate_left
                        · simp only [Act.put, List.setIfInBounds_toArray, List.set_cons_zero, List.set_cons_succ, i64_w, i32_w]
                          rfl
                        refine pure_ (i := 11) (N := some 72) (v := undef) (a' := ?_) #[true, true, true, true, true, true, true, true, true, true, true, true, false, false, false] rfl rfl (any_of HT_.out (by kernel_rfl)) (fun _ _ _ h => h) (Or.inr ⟨by rfl, rfl⟩) ?_ ?_
                        rotate_left
                        · simp only [Act.put, List.setIfInBounds_toArray, List.set_cons_zero, List.set_cons_succ, i64_w, i32_w]
                          rfl
                        refine pure_ (i := 12) (N := some 73) (v := undef) (a' := ?_) #[true, true, true, true, true, true, true, true, true, true, true, true, true, false, false] rfl rfl (any_of HT_.out (by kernel_rfl)) (fun _ _ _ h => h) (Or.inr ⟨by rfl, rfl⟩) ?_ ?_
                        rotate_left
                        · simp only [Act.put, List.setIfInBounds_toArray, List.set_cons_zero, List.set_cons_succ, i64_w, i32_w]
                          rfl
                        refine pure_ (i := 13) (N := some 74) (v := undef) (a' := ?_) #[true, true, true, true, true, true, true, true, true, true, true, true, true, true, false] rfl rfl (any_of HT_.out (by kernel_rfl)) (fun _ _ _ h => h) (Or.inr ⟨by rfl, rfl⟩) ?_ ?_
                        rotate_left
                        · simp only [Act.put, List.setIfInBounds_toArray, List.set_cons_zero, List.set_cons_succ, i64_w, i32_w]
                          rfl
                        refine pure_ (i := 14) (N := some 75) (v := ?_) (a' := ?_) #[true, true, true, true, true, true, true, true, true, true, true, true, true, true, true] rfl rfl (any_of HT_.out (by kernel_rfl)) (fun _ _ _ h => h) (Or.inl ⟨by rfl, ?_⟩) ?_ ?_
                        rotate_left
                        · intro w'
                          go_simp
                          with_reducible rfl
                        rotate_left
                        · simp only [Act.put, List.setIfInBounds_toArray, List.set_cons_zero, List.set_cons_succ, i64_w, i32_w]
                          rfl
                        refine done_ (done_of HT_.out (by kernel_rfl)) ?_
                        try go_wp2
                        go_meet
                        case rel => exact ⟨_, (true), (by first | rfl | (simp; done) | (simp [*]; done)), H', ⟨by have := HJ4.out; have := HK2.out; first | omega | exact Nat.le_refl _⟩, ⟨by (with_reducible repeat (first | refine blk_drewN ?_ _ | refine blk_drew ?_ | refine blk_alloc ?_ _)); exact BK254.out⟩, ⟨by (with_reducible repeat (first | refine blk_drewN ?_ _ | refine blk_drew ?_ | refine blk_alloc ?_ _)); exact BK262.out⟩, ⟨by (with_reducible repeat (first | refine blk_drewN ?_ _ | refine blk_drew ?_ | refine blk_alloc ?_ _)); exact BK264.out⟩, ⟨by repeat (first | (with_reducible first | exact HB.out | apply below_alloc | apply pw_below_drewN | apply below_drew1 | refine below_set ?_ GE254.out | refine below_set ?_ GE262.out | refine below_set ?_ GE264.out) | exact HB.out)⟩⟩
                    case rest =>
                      clear HC27
                      try clear c1
                      try clear c2
                      try clear p2
                      try clear q2
                      try clear hx2
                      try clear c3
                      try clear c4
                      try clear p6
                      try clear c8
                      try clear c9
                      try clear c9b0
                      try clear c9b1
                      try clear c10
                      try clear c12
                      try clear c13
                      try clear c16
                      try clear c17
                      try clear c17b0
                      try clear c17b1
                      try clear c21
                      try clear c23
                      try clear c23b0
                      try clear c24
                      try clear c24b0
                      try clear c25
                      try clear c25b0
                      try clear p26
                      try clear q26
                      try clear hx26
                      try clear c29
                      try clear c30
                      try clear c32
                      try clear c37
                      try clear c37b0
                      try clear c37b1
                      try clear c39
                      try clear c39b0
                      try clear c39b1
                      try clear hcz18_0
                      try clear hcz18_1
                      try clear hcz18_2
                      try clear hcz22_0
                      try clear hcz22_1
                      try clear hcz22_2
                      try clear hcz22_3
                      try clear hcz31_0
                      try clear hcz31_1
                      try clear hcz31_2
                      try clear hcz33_0
                      try clear hcz33_1
                      try clear hcz33_2
                      try clear hcz34_0
                      try clear hcz34_1
                      try clear hcz34_2
                      try clear hcz34_3
                      try clear hcz36_0
                      try clear hcz36_1
                      try clear hcz36_2
                      try clear hcz36_3
                      try clear hfz18_0
                      try clear hfz18_1
                      try clear hfz18_2
                      try clear hfz22_0
                      try clear hfz22_1
                      try clear hfz22_2
                      try clear hfz22_3
                      try clear hfz31_0
                      try clear hfz31_1
                      try clear hfz31_2
                      try clear hfz33_0
                      try clear hfz33_1
                      try clear hfz33_2
                      try clear hfz34_0
                      try clear hfz34_1
                      try clear hfz34_2
                      try clear hfz34_3
                      try clear hfz36_0
                      try clear hfz36_1
                      try clear hfz36_2
                      try clear hfz36_3
                      try clear hx263_0
                      try clear hx263_1
                      try clear hx263_2
                      try clear p2
                      try clear p263
                      try clear q263
                      obtain ⟨kq, x75_26, rfl, HA, HJ26, BK254, BK262, BK264, HB⟩ := hcut
                      cases kq with
                      | zero => exact absurd HA.out (by simp [hopmeshlaw47_GossipOnce.j2])
                      | succ kj26 =>
                        have H := HA.out
                        clear HA
                        simp only [hopmeshlaw47_GossipOnce.j2] at H
                        by_cases c50 : x75_26 = true
                        · subst c50
                          have H1 : (some false) = some r := by rw [if_pos rfl] at H; exact H
                          clear H
                          have H := H1
                          clear H1
                          exact absurd (H.trans (congrArg some HRT.out)) (by simp)
                        · replace c50 := Bool.eq_false_iff.mpr c50
                          subst c50
                          have H1 : (if t266 = x11_2 then (hopmeshlaw47_GossipOnce.j3 kj26 a1 x11_2 x12_2 x44_2 t269 l3 (l3.length : Int) x44_2 a0_0 a0_1 a0_2 t265 t266 t267 t268 ((rd_T33 l3 x44_2).f0) ((rd_T33 l3 x44_2).f1) ((rd_T33 l3 x44_2).f2)) else (hopmeshlaw47_GossipOnce.j3 kj26 a1 t266 0 x44_2 t269 l3 (l3.length : Int) x44_2 a0_0 a0_1 a0_2 t265 t266 t267 t268 ((rd_T33 l3 x44_2).f0) ((rd_T33 l3 x44_2).f1) ((rd_T33 l3 x44_2).f2))) = some r := by rw [if_neg (show ¬ (false = true) by decide)] at H; exact H
                          clear H
                          have H := H1
                          clear H1
                          have HC51 := Aside0.mk H
                          clear H
                          have hnb52 := NB262_254.out
                          have hnc52 := NB254_262.out
                          have hnb53 := NB262_264.out
                          have hnc53 := NB264_262.out
                          have hcz54_0 : wc.cell? ⟨gb262, 0, none⟩ = some (.int .i64 t265) := (blk_cell BK262.out 0).trans rfl
                          have hcz54_1 : wc.cell? ⟨gb262, 1, none⟩ = some (.int .i64 t266) := (blk_cell BK262.out 1).trans rfl
                          have hcz54_2 : wc.cell? ⟨gb262, 2, none⟩ = some (.int .i64 t267) := (blk_cell BK262.out 2).trans rfl
                          have hcz54_3 : wc.cell? ⟨gb262, 3, none⟩ = some (.int .i64 t268) := (blk_cell BK262.out 3).trans rfl
                          have hfz54_0 := blk_frozen BK262.out 0
                          have hfz54_1 := blk_frozen BK262.out 1
                          have hfz54_2 := blk_frozen BK262.out 2
                          have hfz54_3 := blk_frozen BK262.out 3
                          go_upto_if 79 with (fail)
                          go_cut [11, 12] (fun v11 v12 wc => ∃ (kq : Nat) (x11_50 : Int) (x12_50 : Int), v11 = .int .i64 x11_50 ∧ v12 = .int .i64 x12_50 ∧ Aside0 (hopmeshlaw47_GossipOnce.j3 kq a1 x11_50 x12_50 x44_2 t269 l3 (l3.length : Int) x44_2 a0_0 a0_1 a0_2 t265 t266 t267 t268 ((rd_T33 l3 x44_2).f0) ((rd_T33 l3 x44_2).f1) ((rd_T33 l3 x44_2).f2) = some r) ∧ Aside0 (kq ≤ kj26) ∧ Aside0 (wc.heap[gb254]? = some (.cells #[.int .i64 a0_0, .int .i64 a0_1, .int .i64 a0_2] 23 (0, 0))) ∧ Aside0 (wc.heap[gb262]? = some (.cells #[.int .i64 t265, .int .i64 t266, .int .i64 t267, .int .i64 t268] 28 (0, 0))) ∧ Aside0 (wc.heap[gb264]? = some (.cells #[.bool ((rd_T33 l3 x44_2).f0), .bool ((rd_T33 l3 x44_2).f1), .int .u32 ((rd_T33 l3 x44_2).f2)] 33 (0, 0))) ∧ Aside0 (Below w.heap.size w wc))
                          case first =>
                            have H := HC51.out
                            clear HC51
                            by_cases c55 : t266 = x11_2
                            · rw [if_pos c55] at H
                              have c55b0 : (t266 == x11_2) = true := beq_iff_eq.mpr c55
                              have c55b1 : (t266 != x11_2) = false := bne_eq_false_iff_eq.mpr c55
                              clear c55
                              (first | rw [c55b0] | (simp only [i64_w, i32_w]; rw [c55b0]) | skip)
                              have H' := Aside0.mk H
                              clear H
                              go_wp2
                              go_meet
                              case rel => exact ⟨_, (x11_2), (x12_2), (by first | rfl | (simp; done) | (simp [*]; done)), (by first | rfl | (simp; done) | (simp [*]; done)), H', ⟨by have := HJ4.out; have := HK2.out; have := HJ26.out; first | omega | exact Nat.le_refl _⟩, ⟨by (with_reducible repeat (first | refine blk_drewN ?_ _ | refine blk_drew ?_ | refine blk_alloc ?_ _)); exact BK254.out⟩, ⟨by (with_reducible repeat (first | refine blk_drewN ?_ _ | refine blk_drew ?_ | refine blk_alloc ?_ _)); exact BK262.out⟩, ⟨by (with_reducible repeat (first | refine blk_drewN ?_ _ | refine blk_drew ?_ | refine blk_alloc ?_ _)); exact BK264.out⟩, ⟨by repeat (first | (with_reducible first | exact HB.out | apply below_alloc | apply pw_below_drewN | apply below_drew1 | refine below_set ?_ GE254.out | refine below_set ?_ GE262.out | refine below_set ?_ GE264.out) | exact HB.out)⟩⟩
                            · rw [if_neg c55] at H
                              have c55b0 : (t266 == x11_2) = false := beq_eq_false_iff_ne.mpr c55
                              have c55b1 : (t266 != x11_2) = true := bne_iff_ne.mpr c55
                              (first | rw [c55b0] | (simp only [i64_w, i32_w]; rw [c55b0]) | skip)
                              have H' := Aside0.mk H
                              clear H
                              have hnb56 := NB262_254.out
                              have hnc56 := NB254_262.out
                              have hnb57 := NB262_264.out
                              have hnc57 := NB264_262.out
                              have hcz58_0 : wc.cell? ⟨gb262, 0, none⟩ = some (.int .i64 t265) := (blk_cell BK262.out 0).trans rfl
                              have hcz58_1 : wc.cell? ⟨gb262, 1, none⟩ = some (.int .i64 t266) := (blk_cell BK262.out 1).trans rfl
                              have hcz58_2 : wc.cell? ⟨gb262, 2, none⟩ = some (.int .i64 t267) := (blk_cell BK262.out 2).trans rfl
                              have hcz58_3 : wc.cell? ⟨gb262, 3, none⟩ = some (.int .i64 t268) := (blk_cell BK262.out 3).trans rfl
                              have hfz58_0 := blk_frozen BK262.out 0
                              have hfz58_1 := blk_frozen BK262.out 1
                              have hfz58_2 := blk_frozen BK262.out 2
                              have hfz58_3 := blk_frozen BK262.out 3
                              go_wp2
                              go_meet
                              case rel => exact ⟨_, (t266), (0), (by first | rfl | (simp; done) | (simp [*]; done)), (by first | rfl | (simp; done) | (simp [*]; done)), H', ⟨by have := HJ4.out; have := HK2.out; have := HJ26.out; first | omega | exact Nat.le_refl _⟩, ⟨by (with_reducible repeat (first | refine blk_drewN ?_ _ | refine blk_drew ?_ | refine blk_alloc ?_ _)); exact BK254.out⟩, ⟨by (with_reducible repeat (first | refine blk_drewN ?_ _ | refine blk_drew ?_ | refine blk_alloc ?_ _)); exact BK262.out⟩, ⟨by (with_reducible repeat (first | refine blk_drewN ?_ _ | refine blk_drew ?_ | refine blk_alloc ?_ _)); exact BK264.out⟩, ⟨by repeat (first | (with_reducible first | exact HB.out | apply below_alloc | apply pw_below_drewN | apply below_drew1 | refine below_set ?_ GE254.out | refine below_set ?_ GE262.out | refine below_set ?_ GE264.out) | exact HB.out)⟩⟩
                          case rest =>
                            clear HC51
                            try clear c1
                            try clear c2
                            try clear p2
                            try clear q2
                            try clear hx2
                            try clear c3
                            try clear c4
                            try clear c5
                            try clear p6
                            try clear c8
                            try clear c9
                            try clear c9b0
                            try clear c9b1
                            try clear c10
                            try clear c12
                            try clear c13
                            try clear c16
                            try clear c17
                            try clear c17b0
                            try clear c17b1
                            try clear c21
                            try clear c23
                            try clear c23b0
                            try clear c24
                            try clear c24b0
                            try clear c25
                            try clear c25b0
                            try clear p26
                            try clear q26
                            try clear hx26
                            try clear c29
                            try clear c30
                            try clear c32
                            try clear c37
                            try clear c37b0
                            try clear c37b1
                            try clear c39
                            try clear c39b0
                            try clear c39b1
                            try clear c50
                            try clear c52
                            try clear c53
                            try clear c55
                            try clear c55b0
                            try clear c55b1
                            try clear c56
                            try clear c57
                            try clear hcz18_0
                            try clear hcz18_1
                            try clear hcz18_2
                            try clear hcz22_0
                            try clear hcz22_1
                            try clear hcz22_2
                            try clear hcz22_3
                            try clear hcz31_0
                            try clear hcz31_1
                            try clear hcz31_2
                            try clear hcz33_0
                            try clear hcz33_1
                            try clear hcz33_2
                            try clear hcz34_0
                            try clear hcz34_1
                            try clear hcz34_2
                            try clear hcz34_3
                            try clear hcz36_0
                            try clear hcz36_1
                            try clear hcz36_2
                            try clear hcz36_3
                            try clear hcz54_0
                            try clear hcz54_1
                            try clear hcz54_2
                            try clear hcz54_3
                            try clear hcz58_0
                            try clear hcz58_1
                            try clear hcz58_2
                            try clear hcz58_3
                            try clear hfz18_0
                            try clear hfz18_1
                            try clear hfz18_2
                            try clear hfz22_0
                            try clear hfz22_1
                            try clear hfz22_2
                            try clear hfz22_3
                            try clear hfz31_0
                            try clear hfz31_1
                            try clear hfz31_2
                            try clear hfz33_0
                            try clear hfz33_1
                            try clear hfz33_2
                            try clear hfz34_0
                            try clear hfz34_1
                            try clear hfz34_2
                            try clear hfz34_3
                            try clear hfz36_0
                            try clear hfz36_1
                            try clear hfz36_2
                            try clear hfz36_3
                            try clear hfz54_0
                            try clear hfz54_1
                            try clear hfz54_2
                            try clear hfz54_3
                            try clear hfz58_0
                            try clear hfz58_1
                            try clear hfz58_2
                            try clear hfz58_3
                            try clear hx263_0
                            try clear hx263_1
                            try clear hx263_2
                            try clear p2
                            try clear p26
                            try clear p263
                            try clear p6
                            try clear q2
                            try clear q26
                            try clear q263
                            obtain ⟨kq, x11_50, x12_50, rfl, rfl, HA, HJ50, BK254, BK262, BK264, HB⟩ := hcut
                            cases kq with
                            | zero => exact absurd HA.out (by simp [hopmeshlaw47_GossipOnce.j3])
                            | succ kj50 =>
                              have H := HA.out
                              clear HA
                              simp only [hopmeshlaw47_GossipOnce.j3] at H
                              have HC59 := Aside0.mk H
                              clear H
                              go_upto_if 82 with (fail)
                              go_cut [12] (fun v12 wc => ∃ (kq : Nat) (x12_58 : Int), v12 = .int .i64 x12_58 ∧ Aside0 (hopmeshlaw47_GossipOnce.j4 kq a1 x11_50 x12_58 x44_2 t269 l3 (l3.length : Int) x44_2 a0_0 a0_1 a0_2 t265 t266 t267 t268 ((rd_T33 l3 x44_2).f0) ((rd_T33 l3 x44_2).f1) ((rd_T33 l3 x44_2).f2) = some r) ∧ Aside0 (kq ≤ kj50) ∧ Aside0 (wc.heap[gb254]? = some (.cells #[.int .i64 a0_0, .int .i64 a0_1, .int .i64 a0_2] 23 (0, 0))) ∧ Aside0 (wc.heap[gb262]? = some (.cells #[.int .i64 t265, .int .i64 t266, .int .i64 t267, .int .i64 t268] 28 (0, 0))) ∧ Aside0 (wc.heap[gb264]? = some (.cells #[.bool ((rd_T33 l3 x44_2).f0), .bool ((rd_T33 l3 x44_2).f1), .int .u32 ((rd_T33 l3 x44_2).f2)] 33 (0, 0))) ∧ Aside0 (Below w.heap.size w wc))
                              case first =>
                                have H := HC59.out
                                clear HC59
                                by_cases c60 : t269 = true
                                · subst c60
                                  have H1 : (hopmeshlaw47_GossipOnce.j4 kj50 a1 x11_50 (wrap64 (x12_50 + 1)) x44_2 true l3 (l3.length : Int) x44_2 a0_0 a0_1 a0_2 t265 t266 t267 t268 ((rd_T33 l3 x44_2).f0) ((rd_T33 l3 x44_2).f1) ((rd_T33 l3 x44_2).f2)) = some r := by rw [if_pos rfl] at H; exact H
                                  clear H
                                  have H := H1
                                  clear H1
                                  have H' := Aside0.mk H
                                  clear H
                                  go_wp2
                                  go_meet
                                  case rel => exact ⟨_, (wrap64 (x12_50 + 1)), (by first | rfl | (simp; done) | (simp [*]; done)), H', ⟨by have := HJ4.out; have := HK2.out; have := HJ26.out; have := HJ50.out; first | omega | exact Nat.le_refl _⟩, ⟨by (with_reducible repeat (first | refine blk_drewN ?_ _ | refine blk_drew ?_ | refine blk_alloc ?_ _)); exact BK254.out⟩, ⟨by (with_reducible repeat (first | refine blk_drewN ?_ _ | refine blk_drew ?_ | refine blk_alloc ?_ _)); exact BK262.out⟩, ⟨by (with_reducible repeat (first | refine blk_drewN ?_ _ | refine blk_drew ?_ | refine blk_alloc ?_ _)); exact BK264.out⟩, ⟨by repeat (first | (with_reducible first | exact HB.out | apply below_alloc | apply pw_below_drewN | apply below_drew1 | refine below_set ?_ GE254.out | refine below_set ?_ GE262.out | refine below_set ?_ GE264.out) | exact HB.out)⟩⟩
                                · replace c60 := Bool.eq_false_iff.mpr c60
                                  subst c60
                                  have H1 : (hopmeshlaw47_GossipOnce.j4 kj50 a1 x11_50 x12_50 x44_2 false l3 (l3.length : Int) x44_2 a0_0 a0_1 a0_2 t265 t266 t267 t268 ((rd_T33 l3 x44_2).f0) ((rd_T33 l3 x44_2).f1) ((rd_T33 l3 x44_2).f2)) = some r := by rw [if_neg (show ¬ (false = true) by decide)] at H; exact H
                                  clear H
                                  have H := H1
                                  clear H1
                                  have H' := Aside0.mk H
                                  clear H
                                  go_wp2
                                  go_meet
                                  case rel => exact ⟨_, (x12_50), (by first | rfl | (simp; done) | (simp [*]; done)), H', ⟨by have := HJ4.out; have := HK2.out; have := HJ26.out; have := HJ50.out; first | omega | exact Nat.le_refl _⟩, ⟨by (with_reducible repeat (first | refine blk_drewN ?_ _ | refine blk_drew ?_ | refine blk_alloc ?_ _)); exact BK254.out⟩, ⟨by (with_reducible repeat (first | refine blk_drewN ?_ _ | refine blk_drew ?_ | refine blk_alloc ?_ _)); exact BK262.out⟩, ⟨by (with_reducible repeat (first | refine blk_drewN ?_ _ | refine blk_drew ?_ | refine blk_alloc ?_ _)); exact BK264.out⟩, ⟨by repeat (first | (with_reducible first | exact HB.out | apply below_alloc | apply pw_below_drewN | apply below_drew1 | refine below_set ?_ GE254.out | refine below_set ?_ GE262.out | refine below_set ?_ GE264.out) | exact HB.out)⟩⟩
                              case rest =>
                                clear HC59
                                try clear c1
                                try clear c2
                                try clear p2
                                try clear q2
                                try clear hx2
                                try clear c3
                                try clear c4
                                try clear c5
                                try clear c6
                                try clear p6
                                try clear c8
                                try clear c9
                                try clear c9b0
                                try clear c9b1
                                try clear c10
                                try clear c12
                                try clear c13
                                try clear c16
                                try clear c17
                                try clear c17b0
                                try clear c17b1
                                try clear c21
                                try clear c23
                                try clear c23b0
                                try clear c24
                                try clear c24b0
                                try clear c25
                                try clear c25b0
                                try clear p26
                                try clear q26
                                try clear hx26
                                try clear c29
                                try clear c30
                                try clear c32
                                try clear c37
                                try clear c37b0
                                try clear c37b1
                                try clear c39
                                try clear c39b0
                                try clear c39b1
                                try clear c50
                                try clear c52
                                try clear c53
                                try clear c55
                                try clear c55b0
                                try clear c55b1
                                try clear c56
                                try clear c57
                                try clear c60
                                try clear hcz18_0
                                try clear hcz18_1
                                try clear hcz18_2
                                try clear hcz22_0
                                try clear hcz22_1
                                try clear hcz22_2
                                try clear hcz22_3
                                try clear hcz31_0
                                try clear hcz31_1
                                try clear hcz31_2
                                try clear hcz33_0
                                try clear hcz33_1
                                try clear hcz33_2
                                try clear hcz34_0
                                try clear hcz34_1
                                try clear hcz34_2
                                try clear hcz34_3
                                try clear hcz36_0
                                try clear hcz36_1
                                try clear hcz36_2
                                try clear hcz36_3
                                try clear hcz54_0
                                try clear hcz54_1
                                try clear hcz54_2
                                try clear hcz54_3
                                try clear hcz58_0
                                try clear hcz58_1
                                try clear hcz58_2
                                try clear hcz58_3
                                try clear hfz18_0
                                try clear hfz18_1
                                try clear hfz18_2
                                try clear hfz22_0
                                try clear hfz22_1
                                try clear hfz22_2
                                try clear hfz22_3
                                try clear hfz31_0
                                try clear hfz31_1
                                try clear hfz31_2
                                try clear hfz33_0
                                try clear hfz33_1
                                try clear hfz33_2
                                try clear hfz34_0
                                try clear hfz34_1
                                try clear hfz34_2
                                try clear hfz34_3
                                try clear hfz36_0
                                try clear hfz36_1
                                try clear hfz36_2
                                try clear hfz36_3
                                try clear hfz54_0
                                try clear hfz54_1
                                try clear hfz54_2
                                try clear hfz54_3
                                try clear hfz58_0
                                try clear hfz58_1
                                try clear hfz58_2
                                try clear hfz58_3
                                try clear hx263_0
                                try clear hx263_1
                                try clear hx263_2
                                try clear p2
                                try clear p26
                                try clear p263
                                try clear p6
                                try clear q2
                                try clear q26
                                try clear q263
                                obtain ⟨kq, x12_58, rfl, HA, HJ58, BK254, BK262, BK264, HB⟩ := hcut
                                cases kq with
                                | zero => exact absurd HA.out (by simp [hopmeshlaw47_GossipOnce.j4])
                                | succ kj58 =>
                                  have H := HA.out
                                  clear HA
                                  simp only [hopmeshlaw47_GossipOnce.j4] at H
                                  have HC61 := Aside0.mk H
                                  clear H
                                  go_upto_region 18 with (fail)
                                  go_cut [113] (fun v113 wc => ∃ (kq : Nat) (x113_60 : Bool), v113 = .bool x113_60 ∧ Aside0 (hopmeshlaw47_GossipOnce.j5 kq a1 x11_50 x12_58 x44_2 l3 (l3.length : Int) x44_2 x113_60 a0_0 a0_1 a0_2 t265 t266 t267 t268 ((rd_T33 l3 x44_2).f0) ((rd_T33 l3 x44_2).f1) ((rd_T33 l3 x44_2).f2) = some r) ∧ Aside0 (kq ≤ kj58) ∧ Aside0 (wc.heap[gb254]? = some (.cells #[.int .i64 a0_0, .int .i64 a0_1, .int .i64 a0_2] 23 (0, 0))) ∧ Aside0 (wc.heap[gb262]? = some (.cells #[.int .i64 t265, .int .i64 t266, .int .i64 t267, .int .i64 t268] 28 (0, 0))) ∧ Aside0 (wc.heap[gb264]? = some (.cells #[.bool ((rd_T33 l3 x44_2).f0), .bool ((rd_T33 l3 x44_2).f1), .int .u32 ((rd_T33 l3 x44_2).f2)] 33 (0, 0))) ∧ Aside0 (Below w.heap.size w wc))
                                  case first =>
                                    have H := HC61.out
                                    clear HC61
                                    by_cases c62 : x12_58 > 1
                                    · rw [if_pos c62] at H
                                      have c62b0 : decide (1 < x12_58) = true := decide_eq_true c62
                                      clear c62
                                      (first | rw [c62b0] | (simp only [i64_w, i32_w]; rw [c62b0]) | skip)
                                      have H' := Aside0.mk H
                                      clear H
                                      go_wp2
                                      go_meet
                                      case rel => exact ⟨_, (true), (by first | rfl | (simp; done) | (simp [*]; done)), H', ⟨by have := HJ4.out; have := HK2.out; have := HJ26.out; have := HJ50.out; have := HJ58.out; first | omega | exact Nat.le_refl _⟩, ⟨by (with_reducible repeat (first | refine blk_drewN ?_ _ | refine blk_drew ?_ | refine blk_alloc ?_ _)); exact BK254.out⟩, ⟨by (with_reducible repeat (first | refine blk_drewN ?_ _ | refine blk_drew ?_ | refine blk_alloc ?_ _)); exact BK262.out⟩, ⟨by (with_reducible repeat (first | refine blk_drewN ?_ _ | refine blk_drew ?_ | refine blk_alloc ?_ _)); exact BK264.out⟩, ⟨by repeat (first | (with_reducible first | exact HB.out | apply below_alloc | apply pw_below_drewN | apply below_drew1 | refine below_set ?_ GE254.out | refine below_set ?_ GE262.out | refine below_set ?_ GE264.out) | exact HB.out)⟩⟩
                                    · rw [if_neg c62] at H
                                      have c62b0 : decide (1 < x12_58) = false := decide_eq_false c62
                                      clear c62
                                      (first | rw [c62b0] | (simp only [i64_w, i32_w]; rw [c62b0]) | skip)
                                      by_cases c63 : t269 = true
                                      · subst c63
                                        have H1 : (if (wrap64 ((wrap64 (2 * (wrap64 ((wrap64 (a1 + x44_2)) - t266)))) + 1)) < t265 then (hopmeshlaw47_GossipOnce.j5 kj58 a1 x11_50 x12_58 x44_2 l3 (l3.length : Int) x44_2 true a0_0 a0_1 a0_2 t265 t266 t267 t268 ((rd_T33 l3 x44_2).f0) ((rd_T33 l3 x44_2).f1) ((rd_T33 l3 x44_2).f2)) else (hopmeshlaw47_GossipOnce.j5 kj58 a1 x11_50 x12_58 x44_2 l3 (l3.length : Int) x44_2 (decide ((wrap64 (a1 + x44_2)) ≥ (wrap64 (t266 + t265)))) a0_0 a0_1 a0_2 t265 t266 t267 t268 ((rd_T33 l3 x44_2).f0) ((rd_T33 l3 x44_2).f1) ((rd_T33 l3 x44_2).f2))) = some r := by rw [if_pos rfl] at H; exact H
                                        clear H
                                        have H := H1
                                        clear H1
                                        by_cases c64 : (wrap64 ((wrap64 (2 * (wrap64 ((wrap64 (a1 + x44_2)) - t266)))) + 1)) < t265
                                        · rw [if_pos c64] at H
                                          have c64b0 : decide ((wrap64 ((wrap64 (2 * (wrap64 ((wrap64 (a1 + x44_2)) - t266)))) + 1)) < t265) = true := decide_eq_true c64
                                          clear c64
                                          have H' := Aside0.mk H
                                          clear H
                                          have hnb65 := NB262_254.out
                                          have hnc65 := NB254_262.out
                                          have hnb66 := NB262_264.out
                                          have hnc66 := NB264_262.out
                                          have hcz67_0 : wc.cell? ⟨gb262, 0, none⟩ = some (.int .i64 t265) := (blk_cell BK262.out 0).trans rfl
                                          have hcz67_1 : wc.cell? ⟨gb262, 1, none⟩ = some (.int .i64 t266) := (blk_cell BK262.out 1).trans rfl
                                          have hcz67_2 : wc.cell? ⟨gb262, 2, none⟩ = some (.int .i64 t267) := (blk_cell BK262.out 2).trans rfl
                                          have hcz67_3 : wc.cell? ⟨gb262, 3, none⟩ = some (.int .i64 t268) := (blk_cell BK262.out 3).trans rfl
                                          have hfz67_0 := blk_frozen BK262.out 0
                                          have hfz67_1 := blk_frozen BK262.out 1
                                          have hfz67_2 := blk_frozen BK262.out 2
                                          have hfz67_3 := blk_frozen BK262.out 3
                                          go_wp2
                                          go_meet
                                          case rel => exact ⟨_, (true), (by first | rfl | (simp; done) | (simp [*]; done)), H', ⟨by have := HJ4.out; have := HK2.out; have := HJ26.out; have := HJ50.out; have := HJ58.out; first | omega | exact Nat.le_refl _⟩, ⟨by (with_reducible repeat (first | refine blk_drewN ?_ _ | refine blk_drew ?_ | refine blk_alloc ?_ _)); exact BK254.out⟩, ⟨by (with_reducible repeat (first | refine blk_drewN ?_ _ | refine blk_drew ?_ | refine blk_alloc ?_ _)); exact BK262.out⟩, ⟨by (with_reducible repeat (first | refine blk_drewN ?_ _ | refine blk_drew ?_ | refine blk_alloc ?_ _)); exact BK264.out⟩, ⟨by repeat (first | (with_reducible first | exact HB.out | apply below_alloc | apply pw_below_drewN | apply below_drew1 | refine below_set ?_ GE254.out | refine below_set ?_ GE262.out | refine below_set ?_ GE264.out) | exact HB.out)⟩⟩
                                        · rw [if_neg c64] at H
                                          have c64b0 : decide ((wrap64 ((wrap64 (2 * (wrap64 ((wrap64 (a1 + x44_2)) - t266)))) + 1)) < t265) = false := decide_eq_false c64
                                          clear c64
                                          have H' := Aside0.mk H
                                          clear H
                                          have hnb68 := NB262_254.out
                                          have hnc68 := NB254_262.out
                                          have hnb69 := NB262_264.out
                                          have hnc69 := NB264_262.out
                                          have hcz70_0 : wc.cell? ⟨gb262, 0, none⟩ = some (.int .i64 t265) := (blk_cell BK262.out 0).trans rfl
                                          have hcz70_1 : wc.cell? ⟨gb262, 1, none⟩ = some (.int .i64 t266) := (blk_cell BK262.out 1).trans rfl
                                          have hcz70_2 : wc.cell? ⟨gb262, 2, none⟩ = some (.int .i64 t267) := (blk_cell BK262.out 2).trans rfl
                                          have hcz70_3 : wc.cell? ⟨gb262, 3, none⟩ = some (.int .i64 t268) := (blk_cell BK262.out 3).trans rfl
                                          have hfz70_0 := blk_frozen BK262.out 0
                                          have hfz70_1 := blk_frozen BK262.out 1
                                          have hfz70_2 := blk_frozen BK262.out 2
                                          have hfz70_3 := blk_frozen BK262.out 3
                                          go_wp2
                                          go_meet
                                          case rel => exact ⟨_, (decide ((wrap64 (a1 + x44_2)) ≥ (wrap64 (t266 + t265)))), (by first | rfl | (simp; done) | (simp [*]; done)), H', ⟨by have := HJ4.out; have := HK2.out; have := HJ26.out; have := HJ50.out; have := HJ58.out; first | omega | exact Nat.le_refl _⟩, ⟨by (with_reducible repeat (first | refine blk_drewN ?_ _ | refine blk_drew ?_ | refine blk_alloc ?_ _)); exact BK254.out⟩, ⟨by (with_reducible repeat (first | refine blk_drewN ?_ _ | refine blk_drew ?_ | refine blk_alloc ?_ _)); exact BK262.out⟩, ⟨by (with_reducible repeat (first | refine blk_drewN ?_ _ | refine blk_drew ?_ | refine blk_alloc ?_ _)); exact BK264.out⟩, ⟨by repeat (first | (with_reducible first | exact HB.out | apply below_alloc | apply pw_below_drewN | apply below_drew1 | refine below_set ?_ GE254.out | refine below_set ?_ GE262.out | refine below_set ?_ GE264.out) | exact HB.out)⟩⟩
                                      · replace c63 := Bool.eq_false_iff.mpr c63
                                        subst c63
                                        have H1 : (hopmeshlaw47_GossipOnce.j5 kj58 a1 x11_50 x12_58 x44_2 l3 (l3.length : Int) x44_2 false a0_0 a0_1 a0_2 t265 t266 t267 t268 ((rd_T33 l3 x44_2).f0) ((rd_T33 l3 x44_2).f1) ((rd_T33 l3 x44_2).f2)) = some r := by rw [if_neg (show ¬ (false = true) by decide)] at H; exact H
                                        clear H
                                        have H := H1
                                        clear H1
                                        have H' := Aside0.mk H
                                        clear H
                                        go_wp2
                                        go_meet
                                        case rel => exact ⟨_, (false), (by first | rfl | (simp; done) | (simp [*]; done)), H', ⟨by have := HJ4.out; have := HK2.out; have := HJ26.out; have := HJ50.out; have := HJ58.out; first | omega | exact Nat.le_refl _⟩, ⟨by (with_reducible repeat (first | refine blk_drewN ?_ _ | refine blk_drew ?_ | refine blk_alloc ?_ _)); exact BK254.out⟩, ⟨by (with_reducible repeat (first | refine blk_drewN ?_ _ | refine blk_drew ?_ | refine blk_alloc ?_ _)); exact BK262.out⟩, ⟨by (with_reducible repeat (first | refine blk_drewN ?_ _ | refine blk_drew ?_ | refine blk_alloc ?_ _)); exact BK264.out⟩, ⟨by repeat (first | (with_reducible first | exact HB.out | apply below_alloc | apply pw_below_drewN | apply below_drew1 | refine below_set ?_ GE254.out | refine below_set ?_ GE262.out | refine below_set ?_ GE264.out) | exact HB.out)⟩⟩
                                  case rest =>
                                    clear HC61
                                    try clear c1
                                    try clear c2
                                    try clear p2
                                    try clear q2
                                    try clear hx2
                                    try clear c3
                                    try clear c4
                                    try clear c5
                                    try clear c6
                                    try clear p6
                                    try clear c8
                                    try clear c9
                                    try clear c9b0
                                    try clear c9b1
                                    try clear c10
                                    try clear c12
                                    try clear c13
                                    try clear c16
                                    try clear c17
                                    try clear c17b0
                                    try clear c17b1
                                    try clear c21
                                    try clear c23
                                    try clear c23b0
                                    try clear c24
                                    try clear c24b0
                                    try clear c25
                                    try clear c25b0
                                    try clear p26
                                    try clear q26
                                    try clear hx26
                                    try clear c29
                                    try clear c30
                                    try clear c32
                                    try clear c37
                                    try clear c37b0
                                    try clear c37b1
                                    try clear c39
                                    try clear c39b0
                                    try clear c39b1
                                    try clear c50
                                    try clear c52
                                    try clear c53
                                    try clear c55
                                    try clear c55b0
                                    try clear c55b1
                                    try clear c56
                                    try clear c57
                                    try clear c60
                                    try clear c62
                                    try clear c62b0
                                    try clear c63
                                    try clear c64
                                    try clear c64b0
                                    try clear p64
                                    try clear c65
                                    try clear c66
                                    try clear c68
                                    try clear c69
                                    try clear hcz18_0
                                    try clear hcz18_1
                                    try clear hcz18_2
                                    try clear hcz22_0
                                    try clear hcz22_1
                                    try clear hcz22_2
                                    try clear hcz22_3
                                    try clear hcz31_0
                                    try clear hcz31_1
                                    try clear hcz31_2
                                    try clear hcz33_0
                                    try clear hcz33_1
                                    try clear hcz33_2
                                    try clear hcz34_0
                                    try clear hcz34_1
                                    try clear hcz34_2
                                    try clear hcz34_3
                                    try clear hcz36_0
                                    try clear hcz36_1
                                    try clear hcz36_2
                                    try clear hcz36_3
                                    try clear hcz54_0
                                    try clear hcz54_1
                                    try clear hcz54_2
                                    try clear hcz54_3
                                    try clear hcz58_0
                                    try clear hcz58_1
                                    try clear hcz58_2
                                    try clear hcz58_3
                                    try clear hcz67_0
                                    try clear hcz67_1
                                    try clear hcz67_2
                                    try clear hcz67_3
                                    try clear hcz70_0
                                    try clear hcz70_1
                                    try clear hcz70_2
                                    try clear hcz70_3
                                    try clear hfz18_0
                                    try clear hfz18_1
                                    try clear hfz18_2
                                    try clear hfz22_0
                                    try clear hfz22_1
                                    try clear hfz22_2
                                    try clear hfz22_3
                                    try clear hfz31_0
                                    try clear hfz31_1
                                    try clear hfz31_2
                                    try clear hfz33_0
                                    try clear hfz33_1
                                    try clear hfz33_2
                                    try clear hfz34_0
                                    try clear hfz34_1
                                    try clear hfz34_2
                                    try clear hfz34_3
                                    try clear hfz36_0
                                    try clear hfz36_1
                                    try clear hfz36_2
                                    try clear hfz36_3
                                    try clear hfz54_0
                                    try clear hfz54_1
                                    try clear hfz54_2
                                    try clear hfz54_3
                                    try clear hfz58_0
                                    try clear hfz58_1
                                    try clear hfz58_2
                                    try clear hfz58_3
                                    try clear hfz67_0
                                    try clear hfz67_1
                                    try clear hfz67_2
                                    try clear hfz67_3
                                    try clear hfz70_0
                                    try clear hfz70_1
                                    try clear hfz70_2
                                    try clear hfz70_3
                                    try clear hx263_0
                                    try clear hx263_1
                                    try clear hx263_2
                                    try clear p2
                                    try clear p26
                                    try clear p263
                                    try clear p6
                                    try clear q2
                                    try clear q26
                                    try clear q263
                                    obtain ⟨kq, x113_60, rfl, HA, HJ60, BK254, BK262, BK264, HB⟩ := hcut
                                    cases kq with
                                    | zero => exact absurd HA.out (by simp [hopmeshlaw47_GossipOnce.j5])
                                    | succ kj60 =>
                                      have H := HA.out
                                      clear HA
                                      simp only [hopmeshlaw47_GossipOnce.j5] at H
                                      by_cases c71 : x113_60 = true
                                      · subst c71
                                        have H1 : (some false) = some r := by rw [if_pos rfl] at H; exact H
                                        clear H
                                        have H := H1
                                        clear H1
                                        exact absurd (H.trans (congrArg some HRT.out)) (by simp)
                                      · replace c71 := Bool.eq_false_iff.mpr c71
                                        subst c71
                                        have H1 : (if ((rd_T33 l3 x44_2).f0) = true then ((gossip_Hear.f kj60 a0_0 a0_1 a0_2 t265 t266 t267 t268 ((rd_T33 l3 x44_2).f1) (wrap64 (a1 + x44_2)) ((rd_T33 l3 x44_2).f2)).bind fun bt273 => (if bt273.2.2.2.2 = 0 then ((gossip_Valid.f kj60 a0_0 a0_1 a0_2 bt273.1 bt273.2.1 bt273.2.2.1 bt273.2.2.2.1).bind fun t278 => (if t278 = 0 then (if bt273.2.1 = x11_50 then (hopmeshlaw47_GossipOnce.l0 kj60 a1 x11_50 x12_58 l3 (l3.length : Int) (wrap64 (x44_2 + 1)) a0_0 a0_1 a0_2 bt273.1 bt273.2.1 bt273.2.2.1 bt273.2.2.2.1) else (hopmeshlaw47_GossipOnce.l0 kj60 a1 bt273.2.1 0 l3 (l3.length : Int) (wrap64 (x44_2 + 1)) a0_0 a0_1 a0_2 bt273.1 bt273.2.1 bt273.2.2.1 bt273.2.2.2.1)) else (some false))) else (some false))) else (hopmeshlaw47_GossipOnce.l0 kj60 a1 x11_50 x12_58 l3 (l3.length : Int) (wrap64 (x44_2 + 1)) a0_0 a0_1 a0_2 t265 t266 t267 t268)) = some r := by rw [if_neg (show ¬ (false = true) by decide)] at H; exact H
                                        clear H
                                        have H := H1
                                        clear H1
                                        by_cases c72 : ((rd_T33 l3 x44_2).f0) = true
                                        · rw [if_pos c72] at H
                                          have c72b0 : ((rd_T33 l3 x44_2).f0) = true := c72
                                          clear c72
                                          replace H := Option.bind_eq_some_iff.mp H
                                          obtain ⟨⟨t273, t274, t275, t276, t277⟩, A730, H⟩ := H
                                          replace H : (if t277 = 0 then ((gossip_Valid.f kj60 a0_0 a0_1 a0_2 t273 t274 t275 t276).bind fun t278 => (if t278 = 0 then (if t274 = x11_50 then (hopmeshlaw47_GossipOnce.l0 kj60 a1 x11_50 x12_58 l3 (l3.length : Int) (wrap64 (x44_2 + 1)) a0_0 a0_1 a0_2 t273 t274 t275 t276) else (hopmeshlaw47_GossipOnce.l0 kj60 a1 t274 0 l3 (l3.length : Int) (wrap64 (x44_2 + 1)) a0_0 a0_1 a0_2 t273 t274 t275 t276)) else (some false))) else (some false)) = some r := H
                                          have A73 := Aside0.mk A730
                                          clear A730
                                          by_cases c74 : t277 = 0
                                          · rw [if_pos c74] at H
                                            have c74b0 : (t277 == 0) = true := beq_iff_eq.mpr c74
                                            have c74b1 : (t277 != 0) = false := bne_eq_false_iff_eq.mpr c74
                                            clear c74
                                            replace H := Option.bind_eq_some_iff.mp H
                                            obtain ⟨t278, A750, H⟩ := H
                                            replace H : (if t278 = 0 then (if t274 = x11_50 then (hopmeshlaw47_GossipOnce.l0 kj60 a1 x11_50 x12_58 l3 (l3.length : Int) (wrap64 (x44_2 + 1)) a0_0 a0_1 a0_2 t273 t274 t275 t276) else (hopmeshlaw47_GossipOnce.l0 kj60 a1 t274 0 l3 (l3.length : Int) (wrap64 (x44_2 + 1)) a0_0 a0_1 a0_2 t273 t274 t275 t276)) else (some false)) = some r := H
                                            have A75 := Aside0.mk A750
                                            clear A750
                                            by_cases c76 : t278 = 0
                                            · rw [if_pos c76] at H
                                              have c76b0 : (t278 == 0) = true := beq_iff_eq.mpr c76
                                              have c76b1 : (t278 != 0) = false := bne_eq_false_iff_eq.mpr c76
                                              clear c76
                                              by_cases c77 : t274 = x11_50
                                              · rw [if_pos c77] at H
                                                have c77b0 : (t274 == x11_50) = true := beq_iff_eq.mpr c77
                                                have c77b1 : (t274 != x11_50) = false := bne_eq_false_iff_eq.mpr c77
                                                clear c77
                                                have H' := Aside0.mk H
                                                clear H
                                                have hnb78 := NB264_254.out
                                                have hnc78 := NB254_264.out
                                                have hnb79 := NB264_262.out
                                                have hnc79 := NB262_264.out
                                                have hcz80_0 : wc.cell? ⟨gb264, 0, none⟩ = some (.bool ((rd_T33 l3 x44_2).f0)) := (blk_cell BK264.out 0).trans rfl
                                                have hcz80_1 : wc.cell? ⟨gb264, 1, none⟩ = some (.bool ((rd_T33 l3 x44_2).f1)) := (blk_cell BK264.out 1).trans rfl
                                                have hcz80_2 : wc.cell? ⟨gb264, 2, none⟩ = some (.int .u32 ((rd_T33 l3 x44_2).f2)) := (blk_cell BK264.out 2).trans rfl
                                                have hfz80_0 := blk_frozen BK264.out 0
                                                have hfz80_1 := blk_frozen BK264.out 1
                                                have hfz80_2 := blk_frozen BK264.out 2
                                                have hnb81 := NB254_262.out
                                                have hnc81 := NB262_254.out
                                                have hcz82_0 : wc.cell? ⟨gb254, 0, none⟩ = some (.int .i64 a0_0) := (blk_cell BK254.out 0).trans rfl
                                                have hcz82_1 : wc.cell? ⟨gb254, 1, none⟩ = some (.int .i64 a0_1) := (blk_cell BK254.out 1).trans rfl
                                                have hcz82_2 : wc.cell? ⟨gb254, 2, none⟩ = some (.int .i64 a0_2) := (blk_cell BK254.out 2).trans rfl
                                                have hfz82_0 := blk_frozen BK254.out 0
                                                have hfz82_1 := blk_frozen BK254.out 1
                                                have hfz82_2 := blk_frozen BK254.out 2
                                                have hcz83_0 : wc.cell? ⟨gb262, 0, none⟩ = some (.int .i64 t265) := (blk_cell BK262.out 0).trans rfl
                                                have hcz83_1 : wc.cell? ⟨gb262, 1, none⟩ = some (.int .i64 t266) := (blk_cell BK262.out 1).trans rfl
                                                have hcz83_2 : wc.cell? ⟨gb262, 2, none⟩ = some (.int .i64 t267) := (blk_cell BK262.out 2).trans rfl
                                                have hcz83_3 : wc.cell? ⟨gb262, 3, none⟩ = some (.int .i64 t268) := (blk_cell BK262.out 3).trans rfl
                                                have hfz83_0 := blk_frozen BK262.out 0
                                                have hfz83_1 := blk_frozen BK262.out 1
                                                have hfz83_2 := blk_frozen BK262.out 2
                                                have hfz83_3 := blk_frozen BK262.out 3
                                                go_wp2_with (first | ((with_reducible refine gate_callee (f := 14) rfl ?_); refine goesL_ (some 126) rfl rfl Try.func14 (by kernel_rfl) rfl #[.agg #[.int .i64 a0_0, .int .i64 a0_1, .int .i64 a0_2], .agg #[.int .i64 t265, .int .i64 t266, .int .i64 t267, .int .i64 t268], .bool ((rd_T33 l3 x44_2).f1), .int .i64 (wrap64 (a1 + x44_2)), .int .u32 ((rd_T33 l3 x44_2).f2)] rfl (by (try simp only [List.map_toArray, List.map_cons, List.map_nil]); first | done | rfl | (simp only [List.length_drop, List.length_take]; rfl)) ?_; (with_reducible refine (gossip_Hear.calls kj60 a0_0 a0_1 a0_2 t265 t266 t267 t268 ((rd_T33 l3 x44_2).f1) (wrap64 (a1 + x44_2)) ((rd_T33 l3 x44_2).f2) t273 t274 t275 t276 t277 _ A73.out).mono ?_); rintro e w84 ⟨rfl, hb⟩; refine ⟨_, rfl, ?_⟩; have n0_ := Aside0.mk (blk_below (g := gb254) (o := .cells #[.int .i64 a0_0, .int .i64 a0_1, .int .i64 a0_2] 23 (0, 0)) (by (with_reducible repeat (first | refine blk_drewN ?_ _ | refine blk_drew ?_ | refine blk_alloc ?_ _)); exact BK254.out) hb); have n1_ := Aside0.mk (blk_below (g := gb262) (o := .cells #[.int .i64 t265, .int .i64 t266, .int .i64 t267, .int .i64 t268] 28 (0, 0)) (by (with_reducible repeat (first | refine blk_drewN ?_ _ | refine blk_drew ?_ | refine blk_alloc ?_ _)); exact BK262.out) hb); have n2_ := Aside0.mk (blk_below (g := gb264) (o := .cells #[.bool ((rd_T33 l3 x44_2).f0), .bool ((rd_T33 l3 x44_2).f1), .int .u32 ((rd_T33 l3 x44_2).f2)] 33 (0, 0)) (by (with_reducible repeat (first | refine blk_drewN ?_ _ | refine blk_drew ?_ | refine blk_alloc ?_ _)); exact BK264.out) hb); have n3_ := Aside0.mk (below_step (by repeat (first | (with_reducible first | exact HB.out | apply below_alloc | apply pw_below_drewN | apply below_drew1 | refine below_set ?_ GE254.out | refine below_set ?_ GE262.out | refine below_set ?_ GE264.out) | exact HB.out)) hb); clear BK254; clear BK262; clear BK264; clear HB; have BK254 := n0_; have BK262 := n1_; have BK264 := n2_; have HB := n3_; clear n0_ n1_ n2_ n3_; (try clear hb); (try clear hb2); (try clear hk); (try clear hi); have hcz85_0 : w84.cell? ⟨gb262, 0, none⟩ = some (.int .i64 t265) := (blk_cell BK262.out 0).trans rfl; have hcz85_1 : w84.cell? ⟨gb262, 1, none⟩ = some (.int .i64 t266) := (blk_cell BK262.out 1).trans rfl; have hcz85_2 : w84.cell? ⟨gb262, 2, none⟩ = some (.int .i64 t267) := (blk_cell BK262.out 2).trans rfl; have hcz85_3 : w84.cell? ⟨gb262, 3, none⟩ = some (.int .i64 t268) := (blk_cell BK262.out 3).trans rfl; have hfz85_0 := blk_frozen BK262.out 0; have hfz85_1 := blk_frozen BK262.out 1; have hfz85_2 := blk_frozen BK262.out 2; have hfz85_3 := blk_frozen BK262.out 3; have hcz86_0 : w84.cell? ⟨gb254, 0, none⟩ = some (.int .i64 a0_0) := (blk_cell BK254.out 0).trans rfl; have hcz86_1 : w84.cell? ⟨gb254, 1, none⟩ = some (.int .i64 a0_1) := (blk_cell BK254.out 1).trans rfl; have hcz86_2 : w84.cell? ⟨gb254, 2, none⟩ = some (.int .i64 a0_2) := (blk_cell BK254.out 2).trans rfl; have hfz86_0 := blk_frozen BK254.out 0; have hfz86_1 := blk_frozen BK254.out 1; have hfz86_2 := blk_frozen BK254.out 2) | (go_at_call 16; (with_reducible refine (gossip_Valid.calls kj60 a0_0 a0_1 a0_2 t273 t274 t275 t276 t278 _ A75.out).mono ?_); rintro e w87 ⟨rfl, hb⟩; have n0_ := Aside0.mk (blk_below (g := gb254) (o := .cells #[.int .i64 a0_0, .int .i64 a0_1, .int .i64 a0_2] 23 (0, 0)) (by (with_reducible repeat (first | refine blk_drewN ?_ _ | refine blk_drew ?_ | refine blk_alloc ?_ _)); refine blk_far ?_ NB254_262.out _; (with_reducible repeat (first | refine blk_drewN ?_ _ | refine blk_drew ?_ | refine blk_alloc ?_ _)); refine blk_far ?_ NB254_262.out _; (with_reducible repeat (first | refine blk_drewN ?_ _ | refine blk_drew ?_ | refine blk_alloc ?_ _)); refine blk_far ?_ NB254_262.out _; (with_reducible repeat (first | refine blk_drewN ?_ _ | refine blk_drew ?_ | refine blk_alloc ?_ _)); refine blk_far ?_ NB254_262.out _; (with_reducible repeat (first | refine blk_drewN ?_ _ | refine blk_drew ?_ | refine blk_alloc ?_ _)); exact BK254.out) hb); have n1_ := Aside0.mk (blk_below (g := gb262) (o := .cells #[.int .i64 t273, .int .i64 t274, .int .i64 t275, .int .i64 t276] 28 (0, 0)) (by (with_reducible repeat (first | refine blk_drewN ?_ _ | refine blk_drew ?_ | refine blk_alloc ?_ _)); refine blk_put (cs := #[.int .i64 t273, .int .i64 t274, .int .i64 t275, .int .i64 t268]) ?_ 3 _ rfl; (with_reducible repeat (first | refine blk_drewN ?_ _ | refine blk_drew ?_ | refine blk_alloc ?_ _)); refine blk_put (cs := #[.int .i64 t273, .int .i64 t274, .int .i64 t267, .int .i64 t268]) ?_ 2 _ rfl; (with_reducible repeat (first | refine blk_drewN ?_ _ | refine blk_drew ?_ | refine blk_alloc ?_ _)); refine blk_put (cs := #[.int .i64 t273, .int .i64 t266, .int .i64 t267, .int .i64 t268]) ?_ 1 _ rfl; (with_reducible repeat (first | refine blk_drewN ?_ _ | refine blk_drew ?_ | refine blk_alloc ?_ _)); refine blk_put (cs := #[.int .i64 t265, .int .i64 t266, .int .i64 t267, .int .i64 t268]) ?_ 0 _ rfl; (with_reducible repeat (first | refine blk_drewN ?_ _ | refine blk_drew ?_ | refine blk_alloc ?_ _)); exact BK262.out) hb); have n2_ := Aside0.mk (blk_below (g := gb264) (o := .cells #[.bool ((rd_T33 l3 x44_2).f0), .bool ((rd_T33 l3 x44_2).f1), .int .u32 ((rd_T33 l3 x44_2).f2)] 33 (0, 0)) (by (with_reducible repeat (first | refine blk_drewN ?_ _ | refine blk_drew ?_ | refine blk_alloc ?_ _)); refine blk_far ?_ NB264_262.out _; (with_reducible repeat (first | refine blk_drewN ?_ _ | refine blk_drew ?_ | refine blk_alloc ?_ _)); refine blk_far ?_ NB264_262.out _; (with_reducible repeat (first | refine blk_drewN ?_ _ | refine blk_drew ?_ | refine blk_alloc ?_ _)); refine blk_far ?_ NB264_262.out _; (with_reducible repeat (first | refine blk_drewN ?_ _ | refine blk_drew ?_ | refine blk_alloc ?_ _)); refine blk_far ?_ NB264_262.out _; (with_reducible repeat (first | refine blk_drewN ?_ _ | refine blk_drew ?_ | refine blk_alloc ?_ _)); exact BK264.out) hb); have n3_ := Aside0.mk (below_step (by repeat (first | (with_reducible first | exact HB.out | apply below_alloc | apply pw_below_drewN | apply below_drew1 | refine below_set ?_ GE254.out | refine below_set ?_ GE262.out | refine below_set ?_ GE264.out) | exact HB.out)) hb); clear BK254; clear BK262; clear BK264; clear HB; have BK254 := n0_; have BK262 := n1_; have BK264 := n2_; have HB := n3_; clear n0_ n1_ n2_ n3_; (try clear hb); (try clear hb2); (try clear hk); (try clear hi); have hcz88_0 : w87.cell? ⟨gb262, 0, none⟩ = some (.int .i64 t273) := (blk_cell BK262.out 0).trans rfl; have hcz88_1 : w87.cell? ⟨gb262, 1, none⟩ = some (.int .i64 t274) := (blk_cell BK262.out 1).trans rfl; have hcz88_2 : w87.cell? ⟨gb262, 2, none⟩ = some (.int .i64 t275) := (blk_cell BK262.out 2).trans rfl; have hcz88_3 : w87.cell? ⟨gb262, 3, none⟩ = some (.int .i64 t276) := (blk_cell BK262.out 3).trans rfl; have hfz88_0 := blk_frozen BK262.out 0; have hfz88_1 := blk_frozen BK262.out 1; have hfz88_2 := blk_frozen BK262.out 2; have hfz88_3 := blk_frozen BK262.out 3))
                                                go_roundg kj60
                                                case measure => have := HJ4.out; have := HK2.out; have := HJ26.out; have := HJ50.out; have := HJ58.out; have := HJ60.out; omega
                                                case rel => exact ⟨(x11_50), (x12_58), (wrap64 (x44_2 + 1)), (t273), (t274), (t275), (t276), (by first | rfl | (simp; done) | (simp [*]; done)), (by first | rfl | (simp; done) | (simp [*]; done)), (by first | rfl | (simp; done) | (simp [*]; done)), H', ⟨by have := HJ4.out; have := HK2.out; have := HJ26.out; have := HJ50.out; have := HJ58.out; have := HJ60.out; omega⟩, ⟨by (with_reducible repeat (first | refine blk_drewN ?_ _ | refine blk_drew ?_ | refine blk_alloc ?_ _)); exact BK254.out⟩, ⟨by (with_reducible repeat (first | refine blk_drewN ?_ _ | refine blk_drew ?_ | refine blk_alloc ?_ _)); exact BK262.out⟩, ⟨by repeat (first | (with_reducible first | exact HB.out | apply below_alloc | apply pw_below_drewN | apply below_drew1 | refine below_set ?_ GE254.out | refine below_set ?_ GE262.out | refine below_set ?_ GE264.out) | exact HB.out)⟩⟩
                                              · rw [if_neg c77] at H
                                                have c77b0 : (t274 == x11_50) = false := beq_eq_false_iff_ne.mpr c77
                                                have c77b1 : (t274 != x11_50) = true := bne_iff_ne.mpr c77
                                                have H' := Aside0.mk H
                                                clear H
                                                have hnb89 := NB264_254.out
                                                have hnc89 := NB254_264.out
                                                have hnb90 := NB264_262.out
                                                have hnc90 := NB262_264.out
                                                have hcz91_0 : wc.cell? ⟨gb264, 0, none⟩ = some (.bool ((rd_T33 l3 x44_2).f0)) := (blk_cell BK264.out 0).trans rfl
                                                have hcz91_1 : wc.cell? ⟨gb264, 1, none⟩ = some (.bool ((rd_T33 l3 x44_2).f1)) := (blk_cell BK264.out 1).trans rfl
                                                have hcz91_2 : wc.cell? ⟨gb264, 2, none⟩ = some (.int .u32 ((rd_T33 l3 x44_2).f2)) := (blk_cell BK264.out 2).trans rfl
                                                have hfz91_0 := blk_frozen BK264.out 0
                                                have hfz91_1 := blk_frozen BK264.out 1
                                                have hfz91_2 := blk_frozen BK264.out 2
                                                have hnb92 := NB254_262.out
                                                have hnc92 := NB262_254.out
                                                have hcz93_0 : wc.cell? ⟨gb254, 0, none⟩ = some (.int .i64 a0_0) := (blk_cell BK254.out 0).trans rfl
                                                have hcz93_1 : wc.cell? ⟨gb254, 1, none⟩ = some (.int .i64 a0_1) := (blk_cell BK254.out 1).trans rfl
                                                have hcz93_2 : wc.cell? ⟨gb254, 2, none⟩ = some (.int .i64 a0_2) := (blk_cell BK254.out 2).trans rfl
                                                have hfz93_0 := blk_frozen BK254.out 0
                                                have hfz93_1 := blk_frozen BK254.out 1
                                                have hfz93_2 := blk_frozen BK254.out 2
                                                have hcz94_0 : wc.cell? ⟨gb262, 0, none⟩ = some (.int .i64 t265) := (blk_cell BK262.out 0).trans rfl
                                                have hcz94_1 : wc.cell? ⟨gb262, 1, none⟩ = some (.int .i64 t266) := (blk_cell BK262.out 1).trans rfl
                                                have hcz94_2 : wc.cell? ⟨gb262, 2, none⟩ = some (.int .i64 t267) := (blk_cell BK262.out 2).trans rfl
                                                have hcz94_3 : wc.cell? ⟨gb262, 3, none⟩ = some (.int .i64 t268) := (blk_cell BK262.out 3).trans rfl
                                                have hfz94_0 := blk_frozen BK262.out 0
                                                have hfz94_1 := blk_frozen BK262.out 1
                                                have hfz94_2 := blk_frozen BK262.out 2
                                                have hfz94_3 := blk_frozen BK262.out 3
                                                go_wp2_with (first | ((with_reducible refine gate_callee (f := 14) rfl ?_); refine goesL_ (some 126) rfl rfl Try.func14 (by kernel_rfl) rfl #[.agg #[.int .i64 a0_0, .int .i64 a0_1, .int .i64 a0_2], .agg #[.int .i64 t265, .int .i64 t266, .int .i64 t267, .int .i64 t268], .bool ((rd_T33 l3 x44_2).f1), .int .i64 (wrap64 (a1 + x44_2)), .int .u32 ((rd_T33 l3 x44_2).f2)] rfl (by (try simp only [List.map_toArray, List.map_cons, List.map_nil]); first | done | rfl | (simp only [List.length_drop, List.length_take]; rfl)) ?_; (with_reducible refine (gossip_Hear.calls kj60 a0_0 a0_1 a0_2 t265 t266 t267 t268 ((rd_T33 l3 x44_2).f1) (wrap64 (a1 + x44_2)) ((rd_T33 l3 x44_2).f2) t273 t274 t275 t276 t277 _ A73.out).mono ?_); rintro e w95 ⟨rfl, hb⟩; refine ⟨_, rfl, ?_⟩; have n0_ := Aside0.mk (blk_below (g := gb254) (o := .cells #[.int .i64 a0_0, .int .i64 a0_1, .int .i64 a0_2] 23 (0, 0)) (by (with_reducible repeat (first | refine blk_drewN ?_ _ | refine blk_drew ?_ | refine blk_alloc ?_ _)); exact BK254.out) hb); have n1_ := Aside0.mk (blk_below (g := gb262) (o := .cells #[.int .i64 t265, .int .i64 t266, .int .i64 t267, .int .i64 t268] 28 (0, 0)) (by (with_reducible repeat (first | refine blk_drewN ?_ _ | refine blk_drew ?_ | refine blk_alloc ?_ _)); exact BK262.out) hb); have n2_ := Aside0.mk (blk_below (g := gb264) (o := .cells #[.bool ((rd_T33 l3 x44_2).f0), .bool ((rd_T33 l3 x44_2).f1), .int .u32 ((rd_T33 l3 x44_2).f2)] 33 (0, 0)) (by (with_reducible repeat (first | refine blk_drewN ?_ _ | refine blk_drew ?_ | refine blk_alloc ?_ _)); exact BK264.out) hb); have n3_ := Aside0.mk (below_step (by repeat (first | (with_reducible first | exact HB.out | apply below_alloc | apply pw_below_drewN | apply below_drew1 | refine below_set ?_ GE254.out | refine below_set ?_ GE262.out | refine below_set ?_ GE264.out) | exact HB.out)) hb); clear BK254; clear BK262; clear BK264; clear HB; have BK254 := n0_; have BK262 := n1_; have BK264 := n2_; have HB := n3_; clear n0_ n1_ n2_ n3_; (try clear hb); (try clear hb2); (try clear hk); (try clear hi); have hcz96_0 : w95.cell? ⟨gb262, 0, none⟩ = some (.int .i64 t265) := (blk_cell BK262.out 0).trans rfl; have hcz96_1 : w95.cell? ⟨gb262, 1, none⟩ = some (.int .i64 t266) := (blk_cell BK262.out 1).trans rfl; have hcz96_2 : w95.cell? ⟨gb262, 2, none⟩ = some (.int .i64 t267) := (blk_cell BK262.out 2).trans rfl; have hcz96_3 : w95.cell? ⟨gb262, 3, none⟩ = some (.int .i64 t268) := (blk_cell BK262.out 3).trans rfl; have hfz96_0 := blk_frozen BK262.out 0; have hfz96_1 := blk_frozen BK262.out 1; have hfz96_2 := blk_frozen BK262.out 2; have hfz96_3 := blk_frozen BK262.out 3; have hcz97_0 : w95.cell? ⟨gb254, 0, none⟩ = some (.int .i64 a0_0) := (blk_cell BK254.out 0).trans rfl; have hcz97_1 : w95.cell? ⟨gb254, 1, none⟩ = some (.int .i64 a0_1) := (blk_cell BK254.out 1).trans rfl; have hcz97_2 : w95.cell? ⟨gb254, 2, none⟩ = some (.int .i64 a0_2) := (blk_cell BK254.out 2).trans rfl; have hfz97_0 := blk_frozen BK254.out 0; have hfz97_1 := blk_frozen BK254.out 1; have hfz97_2 := blk_frozen BK254.out 2) | (go_at_call 16; (with_reducible refine (gossip_Valid.calls kj60 a0_0 a0_1 a0_2 t273 t274 t275 t276 t278 _ A75.out).mono ?_); rintro e w98 ⟨rfl, hb⟩; have n0_ := Aside0.mk (blk_below (g := gb254) (o := .cells #[.int .i64 a0_0, .int .i64 a0_1, .int .i64 a0_2] 23 (0, 0)) (by (with_reducible repeat (first | refine blk_drewN ?_ _ | refine blk_drew ?_ | refine blk_alloc ?_ _)); refine blk_far ?_ NB254_262.out _; (with_reducible repeat (first | refine blk_drewN ?_ _ | refine blk_drew ?_ | refine blk_alloc ?_ _)); refine blk_far ?_ NB254_262.out _; (with_reducible repeat (first | refine blk_drewN ?_ _ | refine blk_drew ?_ | refine blk_alloc ?_ _)); refine blk_far ?_ NB254_262.out _; (with_reducible repeat (first | refine blk_drewN ?_ _ | refine blk_drew ?_ | refine blk_alloc ?_ _)); refine blk_far ?_ NB254_262.out _; (with_reducible repeat (first | refine blk_drewN ?_ _ | refine blk_drew ?_ | refine blk_alloc ?_ _)); exact BK254.out) hb); have n1_ := Aside0.mk (blk_below (g := gb262) (o := .cells #[.int .i64 t273, .int .i64 t274, .int .i64 t275, .int .i64 t276] 28 (0, 0)) (by (with_reducible repeat (first | refine blk_drewN ?_ _ | refine blk_drew ?_ | refine blk_alloc ?_ _)); refine blk_put (cs := #[.int .i64 t273, .int .i64 t274, .int .i64 t275, .int .i64 t268]) ?_ 3 _ rfl; (with_reducible repeat (first | refine blk_drewN ?_ _ | refine blk_drew ?_ | refine blk_alloc ?_ _)); refine blk_put (cs := #[.int .i64 t273, .int .i64 t274, .int .i64 t267, .int .i64 t268]) ?_ 2 _ rfl; (with_reducible repeat (first | refine blk_drewN ?_ _ | refine blk_drew ?_ | refine blk_alloc ?_ _)); refine blk_put (cs := #[.int .i64 t273, .int .i64 t266, .int .i64 t267, .int .i64 t268]) ?_ 1 _ rfl; (with_reducible repeat (first | refine blk_drewN ?_ _ | refine blk_drew ?_ | refine blk_alloc ?_ _)); refine blk_put (cs := #[.int .i64 t265, .int .i64 t266, .int .i64 t267, .int .i64 t268]) ?_ 0 _ rfl; (with_reducible repeat (first | refine blk_drewN ?_ _ | refine blk_drew ?_ | refine blk_alloc ?_ _)); exact BK262.out) hb); have n2_ := Aside0.mk (blk_below (g := gb264) (o := .cells #[.bool ((rd_T33 l3 x44_2).f0), .bool ((rd_T33 l3 x44_2).f1), .int .u32 ((rd_T33 l3 x44_2).f2)] 33 (0, 0)) (by (with_reducible repeat (first | refine blk_drewN ?_ _ | refine blk_drew ?_ | refine blk_alloc ?_ _)); refine blk_far ?_ NB264_262.out _; (with_reducible repeat (first | refine blk_drewN ?_ _ | refine blk_drew ?_ | refine blk_alloc ?_ _)); refine blk_far ?_ NB264_262.out _; (with_reducible repeat (first | refine blk_drewN ?_ _ | refine blk_drew ?_ | refine blk_alloc ?_ _)); refine blk_far ?_ NB264_262.out _; (with_reducible repeat (first | refine blk_drewN ?_ _ | refine blk_drew ?_ | refine blk_alloc ?_ _)); refine blk_far ?_ NB264_262.out _; (with_reducible repeat (first | refine blk_drewN ?_ _ | refine blk_drew ?_ | refine blk_alloc ?_ _)); exact BK264.out) hb); have n3_ := Aside0.mk (below_step (by repeat (first | (with_reducible first | exact HB.out | apply below_alloc | apply pw_below_drewN | apply below_drew1 | refine below_set ?_ GE254.out | refine below_set ?_ GE262.out | refine below_set ?_ GE264.out) | exact HB.out)) hb); clear BK254; clear BK262; clear BK264; clear HB; have BK254 := n0_; have BK262 := n1_; have BK264 := n2_; have HB := n3_; clear n0_ n1_ n2_ n3_; (try clear hb); (try clear hb2); (try clear hk); (try clear hi); have hcz99_0 : w98.cell? ⟨gb262, 0, none⟩ = some (.int .i64 t273) := (blk_cell BK262.out 0).trans rfl; have hcz99_1 : w98.cell? ⟨gb262, 1, none⟩ = some (.int .i64 t274) := (blk_cell BK262.out 1).trans rfl; have hcz99_2 : w98.cell? ⟨gb262, 2, none⟩ = some (.int .i64 t275) := (blk_cell BK262.out 2).trans rfl; have hcz99_3 : w98.cell? ⟨gb262, 3, none⟩ = some (.int .i64 t276) := (blk_cell BK262.out 3).trans rfl; have hfz99_0 := blk_frozen BK262.out 0; have hfz99_1 := blk_frozen BK262.out 1; have hfz99_2 := blk_frozen BK262.out 2; have hfz99_3 := blk_frozen BK262.out 3))
                                                go_roundg kj60
                                                case measure => have := HJ4.out; have := HK2.out; have := HJ26.out; have := HJ50.out; have := HJ58.out; have := HJ60.out; omega
                                                case rel => exact ⟨(t274), (0), (wrap64 (x44_2 + 1)), (t273), (t274), (t275), (t276), (by first | rfl | (simp; done) | (simp [*]; done)), (by first | rfl | (simp; done) | (simp [*]; done)), (by first | rfl | (simp; done) | (simp [*]; done)), H', ⟨by have := HJ4.out; have := HK2.out; have := HJ26.out; have := HJ50.out; have := HJ58.out; have := HJ60.out; omega⟩, ⟨by (with_reducible repeat (first | refine blk_drewN ?_ _ | refine blk_drew ?_ | refine blk_alloc ?_ _)); exact BK254.out⟩, ⟨by (with_reducible repeat (first | refine blk_drewN ?_ _ | refine blk_drew ?_ | refine blk_alloc ?_ _)); exact BK262.out⟩, ⟨by repeat (first | (with_reducible first | exact HB.out | apply below_alloc | apply pw_below_drewN | apply below_drew1 | refine below_set ?_ GE254.out | refine below_set ?_ GE262.out | refine below_set ?_ GE264.out) | exact HB.out)⟩⟩
                                            · rw [if_neg c76] at H
                                              have c76b0 : (t278 == 0) = false := beq_eq_false_iff_ne.mpr c76
                                              have c76b1 : (t278 != 0) = true := bne_iff_ne.mpr c76
                                              exact absurd (H.trans (congrArg some HRT.out)) (by simp)
                                          · rw [if_neg c74] at H
                                            have c74b0 : (t277 == 0) = false := beq_eq_false_iff_ne.mpr c74
                                            have c74b1 : (t277 != 0) = true := bne_iff_ne.mpr c74
                                            exact absurd (H.trans (congrArg some HRT.out)) (by simp)
                                        · rw [if_neg c72] at H
                                          have c72b0 : ((rd_T33 l3 x44_2).f0) = false := by simpa using c72
                                          clear c72
                                          have H' := Aside0.mk H
                                          clear H
                                          have hnb100 := NB264_254.out
                                          have hnc100 := NB254_264.out
                                          have hnb101 := NB264_262.out
                                          have hnc101 := NB262_264.out
                                          have hcz102_0 : wc.cell? ⟨gb264, 0, none⟩ = some (.bool ((rd_T33 l3 x44_2).f0)) := (blk_cell BK264.out 0).trans rfl
                                          have hcz102_1 : wc.cell? ⟨gb264, 1, none⟩ = some (.bool ((rd_T33 l3 x44_2).f1)) := (blk_cell BK264.out 1).trans rfl
                                          have hcz102_2 : wc.cell? ⟨gb264, 2, none⟩ = some (.int .u32 ((rd_T33 l3 x44_2).f2)) := (blk_cell BK264.out 2).trans rfl
                                          have hfz102_0 := blk_frozen BK264.out 0
                                          have hfz102_1 := blk_frozen BK264.out 1
                                          have hfz102_2 := blk_frozen BK264.out 2
                                          go_wp2
                                          go_roundg kj60
                                          case measure => have := HJ4.out; have := HK2.out; have := HJ26.out; have := HJ50.out; have := HJ58.out; have := HJ60.out; omega
                                          case rel => exact ⟨(x11_50), (x12_58), (wrap64 (x44_2 + 1)), (t265), (t266), (t267), (t268), (by first | rfl | (simp; done) | (simp [*]; done)), (by first | rfl | (simp; done) | (simp [*]; done)), (by first | rfl | (simp; done) | (simp [*]; done)), H', ⟨by have := HJ4.out; have := HK2.out; have := HJ26.out; have := HJ50.out; have := HJ58.out; have := HJ60.out; omega⟩, ⟨by (with_reducible repeat (first | refine blk_drewN ?_ _ | refine blk_drew ?_ | refine blk_alloc ?_ _)); exact BK254.out⟩, ⟨by (with_reducible repeat (first | refine blk_drewN ?_ _ | refine blk_drew ?_ | refine blk_alloc ?_ _)); exact BK262.out⟩, ⟨by repeat (first | (with_reducible first | exact HB.out | apply below_alloc | apply pw_below_drewN | apply below_drew1 | refine below_set ?_ GE254.out | refine below_set ?_ GE262.out | refine below_set ?_ GE264.out) | exact HB.out)⟩⟩
                  · rw [if_neg c25] at H
                    exact absurd H (by simp)
                · rw [if_neg c24] at H
                  exact absurd H (by simp)
              · rw [if_neg c23] at H
                have c23b0 : decide (x44_2 < (l3.length : Int)) = false := decide_eq_false c23
                clear c23
                obtain rfl := Option.some.inj H
                go_wp2
                go_ret
                exact ⟨by first | rfl | (simp [errW_none, errW_some] <;> rfl) | (simp [*, errW_none, errW_some] <;> rfl), by repeat (first | (with_reducible first | exact HB.out | apply below_alloc | apply pw_below_drewN | apply below_drew1 | refine below_set ?_ GE254.out | refine below_set ?_ GE262.out) | exact HB.out)⟩
        · rw [if_neg c17] at H
          have c17b0 : (t261 == 0) = false := beq_eq_false_iff_ne.mpr c17
          have c17b1 : (t261 != 0) = true := bne_iff_ne.mpr c17
          obtain rfl := Option.some.inj H
          have hcz103_0 : wc.cell? ⟨gb254, 0, none⟩ = some (.int .i64 a0_0) := (blk_cell BK254.out 0).trans rfl
          have hcz103_1 : wc.cell? ⟨gb254, 1, none⟩ = some (.int .i64 a0_1) := (blk_cell BK254.out 1).trans rfl
          have hcz103_2 : wc.cell? ⟨gb254, 2, none⟩ = some (.int .i64 a0_2) := (blk_cell BK254.out 2).trans rfl
          have hfz103_0 := blk_frozen BK254.out 0
          have hfz103_1 := blk_frozen BK254.out 1
          have hfz103_2 := blk_frozen BK254.out 2
          go_wp2_with (first | ((with_reducible refine gate_callee (f := 10) rfl ?_); refine goesL_ (some 32) rfl rfl Try.func10 (by kernel_rfl) rfl #[.agg #[.int .i64 a0_0, .int .i64 a0_1, .int .i64 a0_2], .int .i64 a1, .int .u32 a2] rfl (by (try simp only [List.map_toArray, List.map_cons, List.map_nil]); first | done | rfl | (simp only [List.length_drop, List.length_take]; rfl)) ?_; (with_reducible refine (gossip_Start.calls a0_0 a0_1 a0_2 a1 a2 t257 t258 t259 t260 t261 _ A16.out).mono ?_); rintro e w104 ⟨rfl, hb⟩; refine ⟨_, rfl, ?_⟩; have n0_ := Aside0.mk (blk_below (g := gb254) (o := .cells #[.int .i64 a0_0, .int .i64 a0_1, .int .i64 a0_2] 23 (0, 0)) (by (with_reducible repeat (first | refine blk_drewN ?_ _ | refine blk_drew ?_ | refine blk_alloc ?_ _)); exact BK254.out) hb); have n1_ := Aside0.mk (below_step (by repeat (first | (with_reducible first | exact HB.out | apply below_alloc | apply pw_below_drewN | apply below_drew1 | refine below_set ?_ GE254.out) | exact HB.out)) hb); clear BK254; clear HB; have BK254 := n0_; have HB := n1_; clear n0_ n1_; (try clear hb); (try clear hb2); (try clear hk); (try clear hi)) | ((with_reducible refine gate_dst (N := 9) rfl ?_); (try (refine gate_guard (by rfl) ?_; dsimp only)); refine box_event ?hg (N := 9) ?hd (cs := #[.int .i64 0, .int .i64 0, .int .i64 0, .int .i64 0]) (t := 28) ?hr ?_; (case hd => rfl); (case hg => rfl); (case hr => first | (go_simp; done) | (go_simp; rfl)); intro gb262 hg w105 hbox hb; have n0_ := Aside0.mk (blk_below (g := gb254) (o := .cells #[.int .i64 a0_0, .int .i64 a0_1, .int .i64 a0_2] 23 (0, 0)) (by (with_reducible repeat (first | refine blk_drewN ?_ _ | refine blk_drew ?_ | refine blk_alloc ?_ _)); exact BK254.out) hb); have n1_ := Aside0.mk (below_step (by repeat (first | (with_reducible first | exact HB.out | apply below_alloc | apply pw_below_drewN | apply below_drew1 | refine below_set ?_ GE254.out) | exact HB.out)) hb); have n2_ := Aside0.mk (hbox); have n3_ := Aside0.mk ((by rw [hg]; exact (below_size (by repeat (first | (with_reducible first | exact HB.out | apply below_alloc | apply pw_below_drewN | apply below_drew1 | refine below_set ?_ GE254.out) | exact HB.out))) : w.heap.size ≤ gb262)); have n4_ := Aside0.mk ((by rw [hg]; exact (below_size (by repeat (first | (with_reducible first | exact HB.out | apply below_alloc | apply pw_below_drewN | apply below_drew1 | refine below_set ?_ GE254.out) | exact HB.out))) : w.heap.size ≤ gb262)); have n5_ := Aside0.mk ((by rw [hg]; exact Nat.ne_of_lt (blk_lt (g := gb254) (o := .cells #[.int .i64 a0_0, .int .i64 a0_1, .int .i64 a0_2] 23 (0, 0)) (by (with_reducible repeat (first | refine blk_drewN ?_ _ | refine blk_drew ?_ | refine blk_alloc ?_ _)); exact BK254.out)) : gb254 ≠ gb262)); have n6_ := Aside0.mk ((by rw [hg]; exact Nat.ne_of_gt (blk_lt (g := gb254) (o := .cells #[.int .i64 a0_0, .int .i64 a0_1, .int .i64 a0_2] 23 (0, 0)) (by (with_reducible repeat (first | refine blk_drewN ?_ _ | refine blk_drew ?_ | refine blk_alloc ?_ _)); exact BK254.out)) : gb262 ≠ gb254)); clear BK254; clear HB; have BK254 := n0_; have HB := n1_; have BK262 := n2_; have GW262 := n3_; have GE262 := n4_; have NB254_262 := n5_; have NB262_254 := n6_; clear n0_ n1_ n2_ n3_ n4_ n5_ n6_; clear hb hbox hg; have hnb106 := NB262_254.out; have hnc106 := NB254_262.out; have hcz107_0 : w105.cell? ⟨gb262, 0, none⟩ = some (.int .i64 0) := (blk_cell BK262.out 0).trans rfl; have hcz107_1 : w105.cell? ⟨gb262, 1, none⟩ = some (.int .i64 0) := (blk_cell BK262.out 1).trans rfl; have hcz107_2 : w105.cell? ⟨gb262, 2, none⟩ = some (.int .i64 0) := (blk_cell BK262.out 2).trans rfl; have hcz107_3 : w105.cell? ⟨gb262, 3, none⟩ = some (.int .i64 0) := (blk_cell BK262.out 3).trans rfl; have hfz107_0 := blk_frozen BK262.out 0; have hfz107_1 := blk_frozen BK262.out 1; have hfz107_2 := blk_frozen BK262.out 2; have hfz107_3 := blk_frozen BK262.out 3))
          go_ret
          exact ⟨by first | rfl | (simp [errW_none, errW_some] <;> rfl) | (simp [*, errW_none, errW_some] <;> rfl), by repeat (first | (with_reducible first | exact HB.out | apply below_alloc | apply pw_below_drewN | apply below_drew1 | refine below_set ?_ GE254.out | refine below_set ?_ GE262.out) | exact HB.out)⟩

end Go.Proofs.Ytmmknoaapllcmaa.PA
