-- Written by a program of this session (mkprint.py: the kit's print, changed) for this claim. Not trusted: Lean checks it.
import Derived.Test.YtmmknoaapllcmaaPAx0
import Derived.Test.YtmmknoaapllcmaaPAx1
import Derived.Test.YtmmknoaapllcmaaPAx2
import Derived.Test.YtmmknoaapllcmaaPAx5
import Derived.Test.YtmmknoaapllcmaaPAx6
import Derived.Test.YtmmknoaapllcmaaPAx7
import Derived.Test.YtmmknoaapllcmaaPAx10
import Derived.Test.YtmmknoaapllcmaaPAx11
namespace Go.Proofs.Ytmmknoaapllcmaa.PA
open Go.RowKit Go.Proofs.YtmmknoaapllcmaaW.PrintWords Go.Proofs.YtmmknoaapllcmaaW.PrintLast Go.Proofs.YtmmknoaapllcmaaW.PrintMore
attribute [local go_sem] max2_int min2_int max_two min_two max_three min_three max_four min_four   -- for this text's walks alone
set_option linter.unusedVariables false
set_option linter.unusedSimpArgs false

attribute [local go_sem high] eqA28
/-! ### hopmeshlaw47_GossipRuns: function 3 -/
mutual
def hopmeshlaw47_GossipRuns.j0 : Nat → Int → Int → List (S33) → Bool → Int → Int → Int → Option (Bool)
  | 0, _, _, _, _, _, _, _ => none
  | k + 1, x1, x2, x3, x23, x216000, x216001, x216002 => if x23 = true then ((hopmeshlaw47_awake.f).bind fun t217 => (some t217)) else ((gossip_Start.f x216000 x216001 x216002 x1 x2).bind fun bt218 => ((hopmeshref47_Start.f x216000 x216001 x216002 x1 x2).bind fun bt224 => (if (!(bt218.1 == bt224.1) || (!(bt218.2.1 == bt224.2.1) || (!(bt218.2.2.1 == bt224.2.2.1) || (!(bt218.2.2.2.1 == bt224.2.2.2.1))))) = true then (hopmeshlaw47_GossipRuns.j1 k x1 x3 bt218.2.2.2.2 bt224.2.2.2.2 true x216000 x216001 x216002 bt218.1 bt218.2.1 bt218.2.2.1 bt218.2.2.2.1 bt224.1 bt224.2.1 bt224.2.2.1 bt224.2.2.2.1) else (if bt218.2.2.2.2 = bt224.2.2.2.2 then (hopmeshlaw47_GossipRuns.j1 k x1 x3 bt218.2.2.2.2 bt224.2.2.2.2 (bt218.2.2.2.2 != 0) x216000 x216001 x216002 bt218.1 bt218.2.1 bt218.2.2.1 bt218.2.2.2.1 bt224.1 bt224.2.1 bt224.2.2.1 bt224.2.2.2.1) else (hopmeshlaw47_GossipRuns.j1 k x1 x3 bt218.2.2.2.2 bt224.2.2.2.2 true x216000 x216001 x216002 bt218.1 bt218.2.1 bt218.2.2.1 bt218.2.2.2.1 bt224.1 bt224.2.1 bt224.2.2.1 bt224.2.2.2.1)))))
def hopmeshlaw47_GossipRuns.j1 : Nat → Int → List (S33) → Int → Int → Bool → Int → Int → Int → Int → Int → Int → Int → Int → Int → Int → Int → Option (Bool)
  | 0, _, _, _, _, _, _, _, _, _, _, _, _, _, _, _, _ => none
  | k + 1, x1, x3, x10, x12, x50, x216000, x216001, x216002, x224000, x224001, x224002, x224003, x230000, x230001, x230002, x230003 => if x50 = true then (if (x224000 == x230000 && (x224001 == x230001 && (x224002 == x230002 && (x224003 == x230003)))) = true then (some (x10 == x12)) else (some false)) else (hopmeshlaw47_GossipRuns.l0 k x1 x3 (x3.length : Int) 0 x216000 x216001 x216002 x224000 x224001 x224002 x224003 x230000 x230001 x230002 x230003)
def hopmeshlaw47_GossipRuns.l0 : Nat → Int → List (S33) → Int → Int → Int → Int → Int → Int → Int → Int → Int → Int → Int → Int → Int → Option (Bool)
  | 0, _, _, _, _, _, _, _, _, _, _, _, _, _, _, _ => none
  | k + 1, x1, x59, x60, x61, x216000, x216001, x216002, x224000, x224001, x224002, x224003, x230000, x230001, x230002, x230003 => if x61 < x60 then (if 0 ≤ x61 then (if x61 < (x59.length : Int) then ((gossip_Step.f k x216000 x216001 x216002 x224000 x224001 x224002 x224003 (wrap64 (x1 + x61)) ((rd_T33 x59 x61).f2)).bind fun bt232 => ((hopmeshref47_Step.f k x216000 x216001 x216002 x230000 x230001 x230002 x230003 (wrap64 (x1 + x61)) ((rd_T33 x59 x61).f2)).bind fun bt238 => (if (!(bt232.1 == bt238.1) || (!(bt232.2.1 == bt238.2.1) || (!(bt232.2.2.1 == bt238.2.2.1) || (!(bt232.2.2.2.1 == bt238.2.2.2.1))))) = true then (hopmeshlaw47_GossipRuns.j3 k x1 bt232.2.2.2.2.2 bt238.2.2.2.2.2 x61 x59 x60 x61 true x216000 x216001 x216002 bt232.1 bt232.2.1 bt232.2.2.1 bt232.2.2.2.1 bt238.1 bt238.2.1 bt238.2.2.1 bt238.2.2.2.1 ((rd_T33 x59 x61).f0) ((rd_T33 x59 x61).f1) ((rd_T33 x59 x61).f2)) else (if (bt232.2.2.2.2.1 != bt238.2.2.2.2.1) = true then (hopmeshlaw47_GossipRuns.j3 k x1 bt232.2.2.2.2.2 bt238.2.2.2.2.2 x61 x59 x60 x61 true x216000 x216001 x216002 bt232.1 bt232.2.1 bt232.2.2.1 bt232.2.2.2.1 bt238.1 bt238.2.1 bt238.2.2.1 bt238.2.2.2.1 ((rd_T33 x59 x61).f0) ((rd_T33 x59 x61).f1) ((rd_T33 x59 x61).f2)) else (hopmeshlaw47_GossipRuns.j3 k x1 bt232.2.2.2.2.2 bt238.2.2.2.2.2 x61 x59 x60 x61 (bt232.2.2.2.2.2 != bt238.2.2.2.2.2) x216000 x216001 x216002 bt232.1 bt232.2.1 bt232.2.2.1 bt232.2.2.2.1 bt238.1 bt238.2.1 bt238.2.2.1 bt238.2.2.2.1 ((rd_T33 x59 x61).f0) ((rd_T33 x59 x61).f1) ((rd_T33 x59 x61).f2)))))) else (none)) else (none)) else (some true)
def hopmeshlaw47_GossipRuns.j3 : Nat → Int → Int → Int → Int → List (S33) → Int → Int → Bool → Int → Int → Int → Int → Int → Int → Int → Int → Int → Int → Int → Bool → Bool → Int → Option (Bool)
  | 0, _, _, _, _, _, _, _, _, _, _, _, _, _, _, _, _, _, _, _, _, _, _ => none
  | k + 1, x1, x10, x12, x13, x59, x60, x61, x102, x216000, x216001, x216002, x224000, x224001, x224002, x224003, x230000, x230001, x230002, x230003, x232000, x232001, x232002 => if x102 = true then (some false) else (if x10 = 0 then (hopmeshlaw47_GossipRuns.j4 k x1 x10 x12 x13 x59 x60 x61 x232000 x216000 x216001 x216002 x224000 x224001 x224002 x224003 x230000 x230001 x230002 x230003 x232000 x232001 x232002) else (hopmeshlaw47_GossipRuns.j4 k x1 x10 x12 x13 x59 x60 x61 false x216000 x216001 x216002 x224000 x224001 x224002 x224003 x230000 x230001 x230002 x230003 x232000 x232001 x232002))
def hopmeshlaw47_GossipRuns.j4 : Nat → Int → Int → Int → Int → List (S33) → Int → Int → Bool → Int → Int → Int → Int → Int → Int → Int → Int → Int → Int → Int → Bool → Bool → Int → Option (Bool)
  | 0, _, _, _, _, _, _, _, _, _, _, _, _, _, _, _, _, _, _, _, _, _, _ => none
  | k + 1, x1, x10, x12, x13, x59, x60, x61, x108, x216000, x216001, x216002, x224000, x224001, x224002, x224003, x230000, x230001, x230002, x230003, x232000, x232001, x232002 => if x108 = true then ((gossip_Hear.f k x216000 x216001 x216002 x224000 x224001 x224002 x224003 x232001 (wrap64 (x1 + x13)) x232002).bind fun bt244 => ((hopmeshref47_Hear.f k x216000 x216001 x216002 x230000 x230001 x230002 x230003 x232001 (wrap64 (x1 + x13)) x232002).bind fun bt249 => (if (!(bt244.1 == bt249.1) || (!(bt244.2.1 == bt249.2.1) || (!(bt244.2.2.1 == bt249.2.2.1) || (!(bt244.2.2.2.1 == bt249.2.2.2.1))))) = true then (some false) else (if bt244.2.2.2.2 = bt249.2.2.2.2 then (if bt244.2.2.2.2 = 0 then (hopmeshlaw47_GossipRuns.l0 k x1 x59 x60 (wrap64 (x61 + 1)) x216000 x216001 x216002 bt244.1 bt244.2.1 bt244.2.2.1 bt244.2.2.2.1 bt249.1 bt249.2.1 bt249.2.2.1 bt249.2.2.2.1) else (some true)) else (some false))))) else (if (!(x224000 == x230000) || (!(x224001 == x230001) || (!(x224002 == x230002) || (!(x224003 == x230003))))) = true then (some false) else (if x10 = x12 then (if x10 = 0 then (hopmeshlaw47_GossipRuns.l0 k x1 x59 x60 (wrap64 (x61 + 1)) x216000 x216001 x216002 x224000 x224001 x224002 x224003 x230000 x230001 x230002 x230003) else (some true)) else (some false)))
end
def hopmeshlaw47_GossipRuns.f (k : Nat) (a0_0 : Int) (a0_1 : Int) (a0_2 : Int) (a1 : Int) (a2 : Int) (l3 : List (S33)) : Option (Bool) := (hopmeshlaw47_awake.f).bind fun t216 => (if t216 = true then (hopmeshlaw47_GossipRuns.j0 k a1 a2 l3 (decide ((l3.length : Int) > 200)) a0_0 a0_1 a0_2) else (hopmeshlaw47_GossipRuns.j0 k a1 a2 l3 true a0_0 a0_1 a0_2))
theorem hopmeshlaw47_GossipRuns.mono_l : ∀ k, (∀ y0 y1 y2 y3 y4 y5 y6, LeO (hopmeshlaw47_GossipRuns.j0 k y0 y1 y2 y3 y4 y5 y6) (hopmeshlaw47_GossipRuns.j0 (k + 1) y0 y1 y2 y3 y4 y5 y6)) ∧ (∀ y0 y1 y2 y3 y4 y5 y6 y7 y8 y9 y10 y11 y12 y13 y14 y15, LeO (hopmeshlaw47_GossipRuns.j1 k y0 y1 y2 y3 y4 y5 y6 y7 y8 y9 y10 y11 y12 y13 y14 y15) (hopmeshlaw47_GossipRuns.j1 (k + 1) y0 y1 y2 y3 y4 y5 y6 y7 y8 y9 y10 y11 y12 y13 y14 y15)) ∧ (∀ y0 y1 y2 y3 y4 y5 y6 y7 y8 y9 y10 y11 y12 y13 y14, LeO (hopmeshlaw47_GossipRuns.l0 k y0 y1 y2 y3 y4 y5 y6 y7 y8 y9 y10 y11 y12 y13 y14) (hopmeshlaw47_GossipRuns.l0 (k + 1) y0 y1 y2 y3 y4 y5 y6 y7 y8 y9 y10 y11 y12 y13 y14)) ∧ (∀ y0 y1 y2 y3 y4 y5 y6 y7 y8 y9 y10 y11 y12 y13 y14 y15 y16 y17 y18 y19 y20 y21, LeO (hopmeshlaw47_GossipRuns.j3 k y0 y1 y2 y3 y4 y5 y6 y7 y8 y9 y10 y11 y12 y13 y14 y15 y16 y17 y18 y19 y20 y21) (hopmeshlaw47_GossipRuns.j3 (k + 1) y0 y1 y2 y3 y4 y5 y6 y7 y8 y9 y10 y11 y12 y13 y14 y15 y16 y17 y18 y19 y20 y21)) ∧ (∀ y0 y1 y2 y3 y4 y5 y6 y7 y8 y9 y10 y11 y12 y13 y14 y15 y16 y17 y18 y19 y20 y21, LeO (hopmeshlaw47_GossipRuns.j4 k y0 y1 y2 y3 y4 y5 y6 y7 y8 y9 y10 y11 y12 y13 y14 y15 y16 y17 y18 y19 y20 y21) (hopmeshlaw47_GossipRuns.j4 (k + 1) y0 y1 y2 y3 y4 y5 y6 y7 y8 y9 y10 y11 y12 y13 y14 y15 y16 y17 y18 y19 y20 y21))
  | 0 => ⟨fun _ _ _ _ _ _ _ r h => by simp [hopmeshlaw47_GossipRuns.j0] at h, fun _ _ _ _ _ _ _ _ _ _ _ _ _ _ _ _ r h => by simp [hopmeshlaw47_GossipRuns.j1] at h, fun _ _ _ _ _ _ _ _ _ _ _ _ _ _ _ r h => by simp [hopmeshlaw47_GossipRuns.l0] at h, fun _ _ _ _ _ _ _ _ _ _ _ _ _ _ _ _ _ _ _ _ _ _ r h => by simp [hopmeshlaw47_GossipRuns.j3] at h, fun _ _ _ _ _ _ _ _ _ _ _ _ _ _ _ _ _ _ _ _ _ _ r h => by simp [hopmeshlaw47_GossipRuns.j4] at h⟩
  | k + 1 => by
    obtain ⟨ih0, ih1, ih2, ih3, ih4⟩ := hopmeshlaw47_GossipRuns.mono_l k
    refine ⟨?_, ?_, ?_, ?_, ?_⟩
    · intro y0 y1 y2 y3 y4 y5 y6
      unfold hopmeshlaw47_GossipRuns.j0
      repeat' first
      | (with_reducible exact ih0 _ _ _ _ _ _ _)
      | (with_reducible exact ih1 _ _ _ _ _ _ _ _ _ _ _ _ _ _ _ _)
      | (with_reducible exact ih2 _ _ _ _ _ _ _ _ _ _ _ _ _ _ _)
      | (with_reducible exact ih3 _ _ _ _ _ _ _ _ _ _ _ _ _ _ _ _ _ _ _ _ _ _)
      | (with_reducible exact ih4 _ _ _ _ _ _ _ _ _ _ _ _ _ _ _ _ _ _ _ _ _ _)
      | (with_reducible exact gossip_Hear.mono _ _ _ _ _ _ _ _ _ _ _)
      | (with_reducible exact gossip_Step.mono _ _ _ _ _ _ _ _ _ _)
      | (with_reducible exact hopmeshref47_Hear.mono _ _ _ _ _ _ _ _ _ _ _)
      | (with_reducible exact hopmeshref47_Step.mono _ _ _ _ _ _ _ _ _ _)
      | (with_reducible exact LeO.refl _)
      | (with_reducible exact LeO.none _)
      | (with_reducible refine LeO.ite ?_ ?_)
      | (with_reducible refine LeO.bind ?_ (fun _ => ?_))
      | exact ih0 _ _ _ _ _ _ _
      | exact ih1 _ _ _ _ _ _ _ _ _ _ _ _ _ _ _ _
      | exact ih2 _ _ _ _ _ _ _ _ _ _ _ _ _ _ _
      | exact ih3 _ _ _ _ _ _ _ _ _ _ _ _ _ _ _ _ _ _ _ _ _ _
      | exact ih4 _ _ _ _ _ _ _ _ _ _ _ _ _ _ _ _ _ _ _ _ _ _
      | exact gossip_Hear.mono _ _ _ _ _ _ _ _ _ _ _
      | exact gossip_Step.mono _ _ _ _ _ _ _ _ _ _
      | exact hopmeshref47_Hear.mono _ _ _ _ _ _ _ _ _ _ _
      | exact hopmeshref47_Step.mono _ _ _ _ _ _ _ _ _ _
      | exact LeO.none _
      | refine LeO.ite ?_ ?_
      | refine LeO.bind ?_ (fun _ => ?_)
    · intro y0 y1 y2 y3 y4 y5 y6 y7 y8 y9 y10 y11 y12 y13 y14 y15
      unfold hopmeshlaw47_GossipRuns.j1
      repeat' first
      | (with_reducible exact ih0 _ _ _ _ _ _ _)
      | (with_reducible exact ih1 _ _ _ _ _ _ _ _ _ _ _ _ _ _ _ _)
      | (with_reducible exact ih2 _ _ _ _ _ _ _ _ _ _ _ _ _ _ _)
      | (with_reducible exact ih3 _ _ _ _ _ _ _ _ _ _ _ _ _ _ _ _ _ _ _ _ _ _)
      | (with_reducible exact ih4 _ _ _ _ _ _ _ _ _ _ _ _ _ _ _ _ _ _ _ _ _ _)
      | (with_reducible exact gossip_Hear.mono _ _ _ _ _ _ _ _ _ _ _)
      | (with_reducible exact gossip_Step.mono _ _ _ _ _ _ _ _ _ _)
      | (with_reducible exact hopmeshref47_Hear.mono _ _ _ _ _ _ _ _ _ _ _)
      | (with_reducible exact hopmeshref47_Step.mono _ _ _ _ _ _ _ _ _ _)
      | (with_reducible exact LeO.refl _)
      | (with_reducible exact LeO.none _)
      | (with_reducible refine LeO.ite ?_ ?_)
      | (with_reducible refine LeO.bind ?_ (fun _ => ?_))
      | exact ih0 _ _ _ _ _ _ _
      | exact ih1 _ _ _ _ _ _ _ _ _ _ _ _ _ _ _ _
      | exact ih2 _ _ _ _ _ _ _ _ _ _ _ _ _ _ _
      | exact ih3 _ _ _ _ _ _ _ _ _ _ _ _ _ _ _ _ _ _ _ _ _ _
      | exact ih4 _ _ _ _ _ _ _ _ _ _ _ _ _ _ _ _ _ _ _ _ _ _
      | exact gossip_Hear.mono _ _ _ _ _ _ _ _ _ _ _
      | exact gossip_Step.mono _ _ _ _ _ _ _ _ _ _
      | exact hopmeshref47_Hear.mono _ _ _ _ _ _ _ _ _ _ _
      | exact hopmeshref47_Step.mono _ _ _ _ _ _ _ _ _ _
      | exact LeO.none _
      | refine LeO.ite ?_ ?_
      | refine LeO.bind ?_ (fun _ => ?_)
    · intro y0 y1 y2 y3 y4 y5 y6 y7 y8 y9 y10 y11 y12 y13 y14
      unfold hopmeshlaw47_GossipRuns.l0
      repeat' first
      | (with_reducible exact ih0 _ _ _ _ _ _ _)
      | (with_reducible exact ih1 _ _ _ _ _ _ _ _ _ _ _ _ _ _ _ _)
      | (with_reducible exact ih2 _ _ _ _ _ _ _ _ _ _ _ _ _ _ _)
      | (with_reducible exact ih3 _ _ _ _ _ _ _ _ _ _ _ _ _ _ _ _ _ _ _ _ _ _)
      | (with_reducible exact ih4 _ _ _ _ _ _ _ _ _ _ _ _ _ _ _ _ _ _ _ _ _ _)
      | (with_reducible exact gossip_Hear.mono _ _ _ _ _ _ _ _ _ _ _)
      | (with_reducible exact gossip_Step.mono _ _ _ _ _ _ _ _ _ _)
      | (with_reducible exact hopmeshref47_Hear.mono _ _ _ _ _ _ _ _ _ _ _)
      | (with_reducible exact hopmeshref47_Step.mono _ _ _ _ _ _ _ _ _ _)
      | (with_reducible exact LeO.refl _)
      | (with_reducible exact LeO.none _)
      | (with_reducible refine LeO.ite ?_ ?_)
      | (with_reducible refine LeO.bind ?_ (fun _ => ?_))
      | exact ih0 _ _ _ _ _ _ _
      | exact ih1 _ _ _ _ _ _ _ _ _ _ _ _ _ _ _ _
      | exact ih2 _ _ _ _ _ _ _ _ _ _ _ _ _ _ _
      | exact ih3 _ _ _ _ _ _ _ _ _ _ _ _ _ _ _ _ _ _ _ _ _ _
      | exact ih4 _ _ _ _ _ _ _ _ _ _ _ _ _ _ _ _ _ _ _ _ _ _
      | exact gossip_Hear.mono _ _ _ _ _ _ _ _ _ _ _
      | exact gossip_Step.mono _ _ _ _ _ _ _ _ _ _
      | exact hopmeshref47_Hear.mono _ _ _ _ _ _ _ _ _ _ _
      | exact hopmeshref47_Step.mono _ _ _ _ _ _ _ _ _ _
      | exact LeO.none _
      | refine LeO.ite ?_ ?_
      | refine LeO.bind ?_ (fun _ => ?_)
    · intro y0 y1 y2 y3 y4 y5 y6 y7 y8 y9 y10 y11 y12 y13 y14 y15 y16 y17 y18 y19 y20 y21
      unfold hopmeshlaw47_GossipRuns.j3
      repeat' first
      | (with_reducible exact ih0 _ _ _ _ _ _ _)
      | (with_reducible exact ih1 _ _ _ _ _ _ _ _ _ _ _ _ _ _ _ _)
      | (with_reducible exact ih2 _ _ _ _ _ _ _ _ _ _ _ _ _ _ _)
      | (with_reducible exact ih3 _ _ _ _ _ _ _ _ _ _ _ _ _ _ _ _ _ _ _ _ _ _)
      | (with_reducible exact ih4 _ _ _ _ _ _ _ _ _ _ _ _ _ _ _ _ _ _ _ _ _ _)
      | (with_reducible exact gossip_Hear.mono _ _ _ _ _ _ _ _ _ _ _)
      | (with_reducible exact gossip_Step.mono _ _ _ _ _ _ _ _ _ _)
      | (with_reducible exact hopmeshref47_Hear.mono _ _ _ _ _ _ _ _ _ _ _)
      | (with_reducible exact hopmeshref47_Step.mono _ _ _ _ _ _ _ _ _ _)
      | (with_reducible exact LeO.refl _)
      | (with_reducible exact LeO.none _)
      | (with_reducible refine LeO.ite ?_ ?_)
      | (with_reducible refine LeO.bind ?_ (fun _ => ?_))
      | exact ih0 _ _ _ _ _ _ _
      | exact ih1 _ _ _ _ _ _ _ _ _ _ _ _ _ _ _ _
      | exact ih2 _ _ _ _ _ _ _ _ _ _ _ _ _ _ _
      | exact ih3 _ _ _ _ _ _ _ _ _ _ _ _ _ _ _ _ _ _ _ _ _ _
      | exact ih4 _ _ _ _ _ _ _ _ _ _ _ _ _ _ _ _ _ _ _ _ _ _
      | exact gossip_Hear.mono _ _ _ _ _ _ _ _ _ _ _
      | exact gossip_Step.mono _ _ _ _ _ _ _ _ _ _
      | exact hopmeshref47_Hear.mono _ _ _ _ _ _ _ _ _ _ _
      | exact hopmeshref47_Step.mono _ _ _ _ _ _ _ _ _ _
      | exact LeO.none _
      | refine LeO.ite ?_ ?_
      | refine LeO.bind ?_ (fun _ => ?_)
    · intro y0 y1 y2 y3 y4 y5 y6 y7 y8 y9 y10 y11 y12 y13 y14 y15 y16 y17 y18 y19 y20 y21
      unfold hopmeshlaw47_GossipRuns.j4
      repeat' first
      | (with_reducible exact ih0 _ _ _ _ _ _ _)
      | (with_reducible exact ih1 _ _ _ _ _ _ _ _ _ _ _ _ _ _ _ _)
      | (with_reducible exact ih2 _ _ _ _ _ _ _ _ _ _ _ _ _ _ _)
      | (with_reducible exact ih3 _ _ _ _ _ _ _ _ _ _ _ _ _ _ _ _ _ _ _ _ _ _)
      | (with_reducible exact ih4 _ _ _ _ _ _ _ _ _ _ _ _ _ _ _ _ _ _ _ _ _ _)
      | (with_reducible exact gossip_Hear.mono _ _ _ _ _ _ _ _ _ _ _)
      | (with_reducible exact gossip_Step.mono _ _ _ _ _ _ _ _ _ _)
      | (with_reducible exact hopmeshref47_Hear.mono _ _ _ _ _ _ _ _ _ _ _)
      | (with_reducible exact hopmeshref47_Step.mono _ _ _ _ _ _ _ _ _ _)
      | (with_reducible exact LeO.refl _)
      | (with_reducible exact LeO.none _)
      | (with_reducible refine LeO.ite ?_ ?_)
      | (with_reducible refine LeO.bind ?_ (fun _ => ?_))
      | exact ih0 _ _ _ _ _ _ _
      | exact ih1 _ _ _ _ _ _ _ _ _ _ _ _ _ _ _ _
      | exact ih2 _ _ _ _ _ _ _ _ _ _ _ _ _ _ _
      | exact ih3 _ _ _ _ _ _ _ _ _ _ _ _ _ _ _ _ _ _ _ _ _ _
      | exact ih4 _ _ _ _ _ _ _ _ _ _ _ _ _ _ _ _ _ _ _ _ _ _
      | exact gossip_Hear.mono _ _ _ _ _ _ _ _ _ _ _
      | exact gossip_Step.mono _ _ _ _ _ _ _ _ _ _
      | exact hopmeshref47_Hear.mono _ _ _ _ _ _ _ _ _ _ _
      | exact hopmeshref47_Step.mono _ _ _ _ _ _ _ _ _ _
      | exact LeO.none _
      | refine LeO.ite ?_ ?_
      | refine LeO.bind ?_ (fun _ => ?_)
theorem hopmeshlaw47_GossipRuns.mono : ∀ a0 a1 a2 a3 a4 a5 k, LeO (hopmeshlaw47_GossipRuns.f k a0 a1 a2 a3 a4 a5) (hopmeshlaw47_GossipRuns.f (k + 1) a0 a1 a2 a3 a4 a5) := by
  intro a0 a1 a2 a3 a4 a5 k
  obtain ⟨ih0, ih1, ih2, ih3, ih4⟩ := hopmeshlaw47_GossipRuns.mono_l k
  unfold hopmeshlaw47_GossipRuns.f
  repeat' first
      | (with_reducible exact ih0 _ _ _ _ _ _ _)
      | (with_reducible exact ih1 _ _ _ _ _ _ _ _ _ _ _ _ _ _ _ _)
      | (with_reducible exact ih2 _ _ _ _ _ _ _ _ _ _ _ _ _ _ _)
      | (with_reducible exact ih3 _ _ _ _ _ _ _ _ _ _ _ _ _ _ _ _ _ _ _ _ _ _)
      | (with_reducible exact ih4 _ _ _ _ _ _ _ _ _ _ _ _ _ _ _ _ _ _ _ _ _ _)
      | (with_reducible exact gossip_Hear.mono _ _ _ _ _ _ _ _ _ _ _)
      | (with_reducible exact gossip_Step.mono _ _ _ _ _ _ _ _ _ _)
      | (with_reducible exact hopmeshref47_Hear.mono _ _ _ _ _ _ _ _ _ _ _)
      | (with_reducible exact hopmeshref47_Step.mono _ _ _ _ _ _ _ _ _ _)
      | (with_reducible exact LeO.refl _)
      | (with_reducible exact LeO.none _)
      | (with_reducible refine LeO.ite ?_ ?_)
      | (with_reducible refine LeO.bind ?_ (fun _ => ?_))
      | exact ih0 _ _ _ _ _ _ _
      | exact ih1 _ _ _ _ _ _ _ _ _ _ _ _ _ _ _ _
      | exact ih2 _ _ _ _ _ _ _ _ _ _ _ _ _ _ _
      | exact ih3 _ _ _ _ _ _ _ _ _ _ _ _ _ _ _ _ _ _ _ _ _ _
      | exact ih4 _ _ _ _ _ _ _ _ _ _ _ _ _ _ _ _ _ _ _ _ _ _
      | exact gossip_Hear.mono _ _ _ _ _ _ _ _ _ _ _
      | exact gossip_Step.mono _ _ _ _ _ _ _ _ _ _
      | exact hopmeshref47_Hear.mono _ _ _ _ _ _ _ _ _ _ _
      | exact hopmeshref47_Step.mono _ _ _ _ _ _ _ _ _ _
      | exact LeO.none _
      | refine LeO.ite ?_ ?_
      | refine LeO.bind ?_ (fun _ => ?_)
set_option maxHeartbeats 8000000 in
set_option maxRecDepth 100000 in
theorem hopmeshlaw47_GossipRuns.calls (k : Nat) (a0_0 : Int) (a0_1 : Int) (a0_2 : Int) (a1 : Int) (a2 : Int) (A3 : Option Addr) (c3 : Nat) (l3 : List (S33)) (r : Bool) (w : World) (hr3 : Kd.C k33 w A3 l3.length l3) (hc3 : l3.length ≤ c3) (h : hopmeshlaw47_GossipRuns.f k a0_0 a0_1 a0_2 a1 a2 l3 = some r) (hr_ : r = true) :
    Calls Try.prog 3 #[.agg #[.int .i64 a0_0, .int .i64 a0_1, .int .i64 a0_2], .int .i64 a1, .int .u32 a2, .slice A3 l3.length c3] w fun e w' => e = .returned (.bool r) ∧ Below w.heap.size w w' := by
  have hu23 := Try.underlying23
  have hu28 := Try.underlying28
  have hu33 := Try.underlying33
  have HRT := Aside0.mk hr_
  clear hr_
  have HR3 := Aside0.mk hr3
  have HC3 := Aside0.mk hc3
  clear hr3 hc3
  have HB := Aside0.mk (Below.refl w.heap.size w)
  have H : ((hopmeshlaw47_awake.f).bind fun t216 => (if t216 = true then (hopmeshlaw47_GossipRuns.j0 k a1 a2 l3 (decide ((l3.length : Int) > 200)) a0_0 a0_1 a0_2) else (hopmeshlaw47_GossipRuns.j0 k a1 a2 l3 true a0_0 a0_1 a0_2))) = some r := h
  clear h
  have HC5 := Aside0.mk H
  clear H
  go_enter Try.func3, Try.ntmps3
  go_upto_region 1 with (first | ((with_reducible refine gate_dst (N := 4) rfl ?_); (try (refine gate_guard (by rfl) ?_; dsimp only)); refine box_event ?hg (N := 4) ?hd (cs := #[.int .i64 a0_0, .int .i64 a0_1, .int .i64 a0_2]) (t := 23) ?hr ?_; (case hd => rfl); (case hg => rfl); (case hr => first | (go_simp; done) | (go_simp; rfl)); intro gb215 hg w6 hbox hb; have n0_ := Aside0.mk (below_step (by repeat (first | (with_reducible first | exact HB.out | apply below_alloc | apply pw_below_drewN | apply below_drew1) | exact HB.out)) hb); have n1_ := Aside0.mk (hbox); have n2_ := Aside0.mk ((by rw [hg]; exact (below_size (by repeat (first | (with_reducible first | exact HB.out | apply below_alloc | apply pw_below_drewN | apply below_drew1) | exact HB.out))) : w.heap.size ≤ gb215)); have n3_ := Aside0.mk ((by rw [hg]; exact (below_size (by repeat (first | (with_reducible first | exact HB.out | apply below_alloc | apply pw_below_drewN | apply below_drew1) | exact HB.out))) : w.heap.size ≤ gb215)); clear HB; have HB := n0_; have BK215 := n1_; have GW215 := n2_; have GE215 := n3_; clear n0_ n1_ n2_ n3_; clear hb hbox hg))
  (try simp only [Act.put, List.setIfInBounds_toArray, List.set_cons_zero, List.set_cons_succ])
  go_cut [23] (fun v23 wc => ∃ (kq : Nat) (x23_4 : Bool), v23 = .bool x23_4 ∧ Aside0 (hopmeshlaw47_GossipRuns.j0 kq a1 a2 l3 x23_4 a0_0 a0_1 a0_2 = some r) ∧ Aside0 (kq ≤ k) ∧ Aside0 (wc.heap[gb215]? = some (.cells #[.int .i64 a0_0, .int .i64 a0_1, .int .i64 a0_2] 23 (0, 0))) ∧ Aside0 (Below w.heap.size w wc))
  case first =>
    have H := HC5.out
    clear HC5
    replace H := Option.bind_eq_some_iff.mp H
    obtain ⟨t216, A70, H⟩ := H
    replace H : (if t216 = true then (hopmeshlaw47_GossipRuns.j0 k a1 a2 l3 (decide ((l3.length : Int) > 200)) a0_0 a0_1 a0_2) else (hopmeshlaw47_GossipRuns.j0 k a1 a2 l3 true a0_0 a0_1 a0_2)) = some r := H
    have A7 := Aside0.mk A70
    clear A70
    by_cases c8 : t216 = true
    · subst c8
      have H1 : (hopmeshlaw47_GossipRuns.j0 k a1 a2 l3 (decide ((l3.length : Int) > 200)) a0_0 a0_1 a0_2) = some r := by rw [if_pos rfl] at H; exact H
      clear H
      have H := H1
      clear H1
      have H' := Aside0.mk H
      clear H
      go_wp2_with (first | ((with_reducible refine gate_callee (f := 9) rfl ?_); refine goesL_ (some 17) rfl rfl Try.func9 (by kernel_rfl) rfl #[] rfl (by (try simp only [List.map_toArray, List.map_cons, List.map_nil]); first | done | rfl | (simp only [List.length_drop, List.length_take]; rfl)) ?_; (with_reducible refine (hopmeshlaw47_awake.calls  true _ A7.out).mono ?_); rintro e w9 ⟨rfl, hb⟩; refine ⟨_, rfl, ?_⟩; have n0_ := Aside0.mk (blk_below (g := gb215) (o := .cells #[.int .i64 a0_0, .int .i64 a0_1, .int .i64 a0_2] 23 (0, 0)) (by (with_reducible repeat (first | refine blk_drewN ?_ _ | refine blk_drew ?_ | refine blk_alloc ?_ _)); exact BK215.out) hb); have n1_ := Aside0.mk (below_step (by repeat (first | (with_reducible first | exact HB.out | apply below_alloc | apply pw_below_drewN | apply below_drew1 | refine below_set ?_ GE215.out) | exact HB.out)) hb); clear BK215; clear HB; have BK215 := n0_; have HB := n1_; clear n0_ n1_; (try clear hb); (try clear hb2); (try clear hk); (try clear hi)))
      go_meet
      case rel => exact ⟨_, (decide ((l3.length : Int) > 200)), (by first | rfl | (simp; done) | (simp [*]; done)), H', ⟨by first | omega | exact Nat.le_refl _⟩, ⟨by (with_reducible repeat (first | refine blk_drewN ?_ _ | refine blk_drew ?_ | refine blk_alloc ?_ _)); exact BK215.out⟩, ⟨by repeat (first | (with_reducible first | exact HB.out | apply below_alloc | apply pw_below_drewN | apply below_drew1 | refine below_set ?_ GE215.out) | exact HB.out)⟩⟩
    · replace c8 := Bool.eq_false_iff.mpr c8
      subst c8
      have H1 : (hopmeshlaw47_GossipRuns.j0 k a1 a2 l3 true a0_0 a0_1 a0_2) = some r := by rw [if_neg (show ¬ (false = true) by decide)] at H; exact H
      clear H
      have H := H1
      clear H1
      have H' := Aside0.mk H
      clear H
      go_wp2_with (first | ((with_reducible refine gate_callee (f := 9) rfl ?_); refine goesL_ (some 17) rfl rfl Try.func9 (by kernel_rfl) rfl #[] rfl (by (try simp only [List.map_toArray, List.map_cons, List.map_nil]); first | done | rfl | (simp only [List.length_drop, List.length_take]; rfl)) ?_; (with_reducible refine (hopmeshlaw47_awake.calls  false _ A7.out).mono ?_); rintro e w10 ⟨rfl, hb⟩; refine ⟨_, rfl, ?_⟩; have n0_ := Aside0.mk (blk_below (g := gb215) (o := .cells #[.int .i64 a0_0, .int .i64 a0_1, .int .i64 a0_2] 23 (0, 0)) (by (with_reducible repeat (first | refine blk_drewN ?_ _ | refine blk_drew ?_ | refine blk_alloc ?_ _)); exact BK215.out) hb); have n1_ := Aside0.mk (below_step (by repeat (first | (with_reducible first | exact HB.out | apply below_alloc | apply pw_below_drewN | apply below_drew1 | refine below_set ?_ GE215.out) | exact HB.out)) hb); clear BK215; clear HB; have BK215 := n0_; have HB := n1_; clear n0_ n1_; (try clear hb); (try clear hb2); (try clear hk); (try clear hi)))
      go_meet
      case rel => exact ⟨_, (true), (by first | rfl | (simp; done) | (simp [*]; done)), H', ⟨by first | omega | exact Nat.le_refl _⟩, ⟨by (with_reducible repeat (first | refine blk_drewN ?_ _ | refine blk_drew ?_ | refine blk_alloc ?_ _)); exact BK215.out⟩, ⟨by repeat (first | (with_reducible first | exact HB.out | apply below_alloc | apply pw_below_drewN | apply below_drew1 | refine below_set ?_ GE215.out) | exact HB.out)⟩⟩
  case rest =>
    clear HC5
    try clear p2
    try clear c3
    try clear c8
    try clear c9
    obtain ⟨kq, x23_4, rfl, HA, HJ4, BK215, HB⟩ := hcut
    cases kq with
    | zero => exact absurd HA.out (by simp [hopmeshlaw47_GossipRuns.j0])
    | succ kj4 =>
      have H := HA.out
      clear HA
      simp only [hopmeshlaw47_GossipRuns.j0] at H
      by_cases c11 : x23_4 = true
      · subst c11
        have H1 : ((hopmeshlaw47_awake.f).bind fun t217 => (some t217)) = some r := by rw [if_pos rfl] at H; exact H
        clear H
        have H := H1
        clear H1
        replace H := Option.bind_eq_some_iff.mp H
        obtain ⟨t217, A120, H⟩ := H
        replace H : (some t217) = some r := H
        have A12 := Aside0.mk A120
        clear A120
        obtain rfl := Option.some.inj H
        go_wp2_with (first | ((with_reducible refine gate_callee (f := 9) rfl ?_); refine goesL_ (some 24) rfl rfl Try.func9 (by kernel_rfl) rfl #[] rfl (by (try simp only [List.map_toArray, List.map_cons, List.map_nil]); first | done | rfl | (simp only [List.length_drop, List.length_take]; rfl)) ?_; (with_reducible refine (hopmeshlaw47_awake.calls  t217 _ A12.out).mono ?_); rintro e w13 ⟨rfl, hb⟩; refine ⟨_, rfl, ?_⟩; have n0_ := Aside0.mk (blk_below (g := gb215) (o := .cells #[.int .i64 a0_0, .int .i64 a0_1, .int .i64 a0_2] 23 (0, 0)) (by (with_reducible repeat (first | refine blk_drewN ?_ _ | refine blk_drew ?_ | refine blk_alloc ?_ _)); exact BK215.out) hb); have n1_ := Aside0.mk (below_step (by repeat (first | (with_reducible first | exact HB.out | apply below_alloc | apply pw_below_drewN | apply below_drew1 | refine below_set ?_ GE215.out) | exact HB.out)) hb); clear BK215; clear HB; have BK215 := n0_; have HB := n1_; clear n0_ n1_; (try clear hb); (try clear hb2); (try clear hk); (try clear hi)))
        go_ret
        exact ⟨by first | rfl | (simp [errW_none, errW_some] <;> rfl) | (simp [*, errW_none, errW_some] <;> rfl), by repeat (first | (with_reducible first | exact HB.out | apply below_alloc | apply pw_below_drewN | apply below_drew1 | refine below_set ?_ GE215.out) | exact HB.out)⟩
      · replace c11 := Bool.eq_false_iff.mpr c11
        subst c11
        have H1 : ((gossip_Start.f a0_0 a0_1 a0_2 a1 a2).bind fun bt218 => ((hopmeshref47_Start.f a0_0 a0_1 a0_2 a1 a2).bind fun bt224 => (if (!(bt218.1 == bt224.1) || (!(bt218.2.1 == bt224.2.1) || (!(bt218.2.2.1 == bt224.2.2.1) || (!(bt218.2.2.2.1 == bt224.2.2.2.1))))) = true then (hopmeshlaw47_GossipRuns.j1 kj4 a1 l3 bt218.2.2.2.2 bt224.2.2.2.2 true a0_0 a0_1 a0_2 bt218.1 bt218.2.1 bt218.2.2.1 bt218.2.2.2.1 bt224.1 bt224.2.1 bt224.2.2.1 bt224.2.2.2.1) else (if bt218.2.2.2.2 = bt224.2.2.2.2 then (hopmeshlaw47_GossipRuns.j1 kj4 a1 l3 bt218.2.2.2.2 bt224.2.2.2.2 (bt218.2.2.2.2 != 0) a0_0 a0_1 a0_2 bt218.1 bt218.2.1 bt218.2.2.1 bt218.2.2.2.1 bt224.1 bt224.2.1 bt224.2.2.1 bt224.2.2.2.1) else (hopmeshlaw47_GossipRuns.j1 kj4 a1 l3 bt218.2.2.2.2 bt224.2.2.2.2 true a0_0 a0_1 a0_2 bt218.1 bt218.2.1 bt218.2.2.1 bt218.2.2.2.1 bt224.1 bt224.2.1 bt224.2.2.1 bt224.2.2.2.1))))) = some r := by rw [if_neg (show ¬ (false = true) by decide)] at H; exact H
        clear H
        have H := H1
        clear H1
        replace H := Option.bind_eq_some_iff.mp H
        obtain ⟨⟨t218, t219, t220, t221, t222⟩, A140, H⟩ := H
        replace H : ((hopmeshref47_Start.f a0_0 a0_1 a0_2 a1 a2).bind fun bt224 => (if (!(t218 == bt224.1) || (!(t219 == bt224.2.1) || (!(t220 == bt224.2.2.1) || (!(t221 == bt224.2.2.2.1))))) = true then (hopmeshlaw47_GossipRuns.j1 kj4 a1 l3 t222 bt224.2.2.2.2 true a0_0 a0_1 a0_2 t218 t219 t220 t221 bt224.1 bt224.2.1 bt224.2.2.1 bt224.2.2.2.1) else (if t222 = bt224.2.2.2.2 then (hopmeshlaw47_GossipRuns.j1 kj4 a1 l3 t222 bt224.2.2.2.2 (t222 != 0) a0_0 a0_1 a0_2 t218 t219 t220 t221 bt224.1 bt224.2.1 bt224.2.2.1 bt224.2.2.2.1) else (hopmeshlaw47_GossipRuns.j1 kj4 a1 l3 t222 bt224.2.2.2.2 true a0_0 a0_1 a0_2 t218 t219 t220 t221 bt224.1 bt224.2.1 bt224.2.2.1 bt224.2.2.2.1)))) = some r := H
        have A14 := Aside0.mk A140
        clear A140
        replace H := Option.bind_eq_some_iff.mp H
        obtain ⟨⟨t224, t225, t226, t227, t228⟩, A150, H⟩ := H
        replace H : (if (!(t218 == t224) || (!(t219 == t225) || (!(t220 == t226) || (!(t221 == t227))))) = true then (hopmeshlaw47_GossipRuns.j1 kj4 a1 l3 t222 t228 true a0_0 a0_1 a0_2 t218 t219 t220 t221 t224 t225 t226 t227) else (if t222 = t228 then (hopmeshlaw47_GossipRuns.j1 kj4 a1 l3 t222 t228 (t222 != 0) a0_0 a0_1 a0_2 t218 t219 t220 t221 t224 t225 t226 t227) else (hopmeshlaw47_GossipRuns.j1 kj4 a1 l3 t222 t228 true a0_0 a0_1 a0_2 t218 t219 t220 t221 t224 t225 t226 t227))) = some r := H
        have A15 := Aside0.mk A150
        clear A150
        have HC16 := Aside0.mk H
        clear H
        have hcz17_0 : wc.cell? ⟨gb215, 0, none⟩ = some (.int .i64 a0_0) := (blk_cell BK215.out 0).trans rfl
        have hcz17_1 : wc.cell? ⟨gb215, 1, none⟩ = some (.int .i64 a0_1) := (blk_cell BK215.out 1).trans rfl
        have hcz17_2 : wc.cell? ⟨gb215, 2, none⟩ = some (.int .i64 a0_2) := (blk_cell BK215.out 2).trans rfl
        have hfz17_0 := blk_frozen BK215.out 0
        have hfz17_1 := blk_frozen BK215.out 1
        have hfz17_2 := blk_frozen BK215.out 2
        go_upto_region 5 with (first | ((with_reducible refine gate_callee (f := 10) rfl ?_); refine goesL_ (some 29) rfl rfl Try.func10 (by kernel_rfl) rfl #[.agg #[.int .i64 a0_0, .int .i64 a0_1, .int .i64 a0_2], .int .i64 a1, .int .u32 a2] rfl (by (try simp only [List.map_toArray, List.map_cons, List.map_nil]); first | done | rfl | (simp only [List.length_drop, List.length_take]; rfl)) ?_; (with_reducible refine (gossip_Start.calls a0_0 a0_1 a0_2 a1 a2 t218 t219 t220 t221 t222 _ A14.out).mono ?_); rintro e w18 ⟨rfl, hb⟩; refine ⟨_, rfl, ?_⟩; have n0_ := Aside0.mk (blk_below (g := gb215) (o := .cells #[.int .i64 a0_0, .int .i64 a0_1, .int .i64 a0_2] 23 (0, 0)) (by (with_reducible repeat (first | refine blk_drewN ?_ _ | refine blk_drew ?_ | refine blk_alloc ?_ _)); exact BK215.out) hb); have n1_ := Aside0.mk (below_step (by repeat (first | (with_reducible first | exact HB.out | apply below_alloc | apply pw_below_drewN | apply below_drew1 | refine below_set ?_ GE215.out) | exact HB.out)) hb); clear BK215; clear HB; have BK215 := n0_; have HB := n1_; clear n0_ n1_; (try clear hb); (try clear hb2); (try clear hk); (try clear hi)) | ((with_reducible refine gate_dst (N := 9) rfl ?_); (try (refine gate_guard (by rfl) ?_; dsimp only)); refine box_event ?hg (N := 9) ?hd (cs := #[.int .i64 0, .int .i64 0, .int .i64 0, .int .i64 0]) (t := 28) ?hr ?_; (case hd => rfl); (case hg => rfl); (case hr => first | (go_simp; done) | (go_simp; rfl)); intro gb223 hg w19 hbox hb; have n0_ := Aside0.mk (blk_below (g := gb215) (o := .cells #[.int .i64 a0_0, .int .i64 a0_1, .int .i64 a0_2] 23 (0, 0)) (by (with_reducible repeat (first | refine blk_drewN ?_ _ | refine blk_drew ?_ | refine blk_alloc ?_ _)); exact BK215.out) hb); have n1_ := Aside0.mk (below_step (by repeat (first | (with_reducible first | exact HB.out | apply below_alloc | apply pw_below_drewN | apply below_drew1 | refine below_set ?_ GE215.out) | exact HB.out)) hb); have n2_ := Aside0.mk (hbox); have n3_ := Aside0.mk ((by rw [hg]; exact (below_size (by repeat (first | (with_reducible first | exact HB.out | apply below_alloc | apply pw_below_drewN | apply below_drew1 | refine below_set ?_ GE215.out) | exact HB.out))) : w.heap.size ≤ gb223)); have n4_ := Aside0.mk ((by rw [hg]; exact (below_size (by repeat (first | (with_reducible first | exact HB.out | apply below_alloc | apply pw_below_drewN | apply below_drew1 | refine below_set ?_ GE215.out) | exact HB.out))) : w.heap.size ≤ gb223)); have n5_ := Aside0.mk ((by rw [hg]; exact Nat.ne_of_lt (blk_lt (g := gb215) (o := .cells #[.int .i64 a0_0, .int .i64 a0_1, .int .i64 a0_2] 23 (0, 0)) (by (with_reducible repeat (first | refine blk_drewN ?_ _ | refine blk_drew ?_ | refine blk_alloc ?_ _)); exact BK215.out)) : gb215 ≠ gb223)); have n6_ := Aside0.mk ((by rw [hg]; exact Nat.ne_of_gt (blk_lt (g := gb215) (o := .cells #[.int .i64 a0_0, .int .i64 a0_1, .int .i64 a0_2] 23 (0, 0)) (by (with_reducible repeat (first | refine blk_drewN ?_ _ | refine blk_drew ?_ | refine blk_alloc ?_ _)); exact BK215.out)) : gb223 ≠ gb215)); clear BK215; clear HB; have BK215 := n0_; have HB := n1_; have BK223 := n2_; have GW223 := n3_; have GE223 := n4_; have NB215_223 := n5_; have NB223_215 := n6_; clear n0_ n1_ n2_ n3_ n4_ n5_ n6_; clear hb hbox hg; have hnb20 := NB223_215.out; have hnc20 := NB215_223.out; have hcz21_0 : w19.cell? ⟨gb223, 0, none⟩ = some (.int .i64 0) := (blk_cell BK223.out 0).trans rfl; have hcz21_1 : w19.cell? ⟨gb223, 1, none⟩ = some (.int .i64 0) := (blk_cell BK223.out 1).trans rfl; have hcz21_2 : w19.cell? ⟨gb223, 2, none⟩ = some (.int .i64 0) := (blk_cell BK223.out 2).trans rfl; have hcz21_3 : w19.cell? ⟨gb223, 3, none⟩ = some (.int .i64 0) := (blk_cell BK223.out 3).trans rfl; have hfz21_0 := blk_frozen BK223.out 0; have hfz21_1 := blk_frozen BK223.out 1; have hfz21_2 := blk_frozen BK223.out 2; have hfz21_3 := blk_frozen BK223.out 3; have hcz22_0 : w19.cell? ⟨gb215, 0, none⟩ = some (.int .i64 a0_0) := (blk_cell BK215.out 0).trans rfl; have hcz22_1 : w19.cell? ⟨gb215, 1, none⟩ = some (.int .i64 a0_1) := (blk_cell BK215.out 1).trans rfl; have hcz22_2 : w19.cell? ⟨gb215, 2, none⟩ = some (.int .i64 a0_2) := (blk_cell BK215.out 2).trans rfl; have hfz22_0 := blk_frozen BK215.out 0; have hfz22_1 := blk_frozen BK215.out 1; have hfz22_2 := blk_frozen BK215.out 2) | ((with_reducible refine gate_callee (f := 11) rfl ?_); refine goesL_ (some 36) rfl rfl Try.func11 (by kernel_rfl) rfl #[.agg #[.int .i64 a0_0, .int .i64 a0_1, .int .i64 a0_2], .int .i64 a1, .int .u32 a2] rfl (by (try simp only [List.map_toArray, List.map_cons, List.map_nil]); first | done | rfl | (simp only [List.length_drop, List.length_take]; rfl)) ?_; (with_reducible refine (hopmeshref47_Start.calls a0_0 a0_1 a0_2 a1 a2 t224 t225 t226 t227 t228 _ A15.out).mono ?_); rintro e w23 ⟨rfl, hb⟩; refine ⟨_, rfl, ?_⟩; have n0_ := Aside0.mk (blk_below (g := gb215) (o := .cells #[.int .i64 a0_0, .int .i64 a0_1, .int .i64 a0_2] 23 (0, 0)) (by (with_reducible repeat (first | refine blk_drewN ?_ _ | refine blk_drew ?_ | refine blk_alloc ?_ _)); refine blk_far ?_ NB215_223.out _; (with_reducible repeat (first | refine blk_drewN ?_ _ | refine blk_drew ?_ | refine blk_alloc ?_ _)); refine blk_far ?_ NB215_223.out _; (with_reducible repeat (first | refine blk_drewN ?_ _ | refine blk_drew ?_ | refine blk_alloc ?_ _)); refine blk_far ?_ NB215_223.out _; (with_reducible repeat (first | refine blk_drewN ?_ _ | refine blk_drew ?_ | refine blk_alloc ?_ _)); refine blk_far ?_ NB215_223.out _; (with_reducible repeat (first | refine blk_drewN ?_ _ | refine blk_drew ?_ | refine blk_alloc ?_ _)); exact BK215.out) hb); have n1_ := Aside0.mk (blk_below (g := gb223) (o := .cells #[.int .i64 t218, .int .i64 t219, .int .i64 t220, .int .i64 t221] 28 (0, 0)) (by (with_reducible repeat (first | refine blk_drewN ?_ _ | refine blk_drew ?_ | refine blk_alloc ?_ _)); refine blk_put (cs := #[.int .i64 t218, .int .i64 t219, .int .i64 t220, .int .i64 0]) ?_ 3 _ rfl; (with_reducible repeat (first | refine blk_drewN ?_ _ | refine blk_drew ?_ | refine blk_alloc ?_ _)); refine blk_put (cs := #[.int .i64 t218, .int .i64 t219, .int .i64 0, .int .i64 0]) ?_ 2 _ rfl; (with_reducible repeat (first | refine blk_drewN ?_ _ | refine blk_drew ?_ | refine blk_alloc ?_ _)); refine blk_put (cs := #[.int .i64 t218, .int .i64 0, .int .i64 0, .int .i64 0]) ?_ 1 _ rfl; (with_reducible repeat (first | refine blk_drewN ?_ _ | refine blk_drew ?_ | refine blk_alloc ?_ _)); refine blk_put (cs := #[.int .i64 0, .int .i64 0, .int .i64 0, .int .i64 0]) ?_ 0 _ rfl; (with_reducible repeat (first | refine blk_drewN ?_ _ | refine blk_drew ?_ | refine blk_alloc ?_ _)); exact BK223.out) hb); have n2_ := Aside0.mk (below_step (by repeat (first | (with_reducible first | exact HB.out | apply below_alloc | apply pw_below_drewN | apply below_drew1 | refine below_set ?_ GE215.out | refine below_set ?_ GE223.out) | exact HB.out)) hb); clear BK215; clear BK223; clear HB; have BK215 := n0_; have BK223 := n1_; have HB := n2_; clear n0_ n1_ n2_; (try clear hb); (try clear hb2); (try clear hk); (try clear hi)) | ((with_reducible refine gate_dst (N := 11) rfl ?_); (try (refine gate_guard (by rfl) ?_; dsimp only)); refine box_event ?hg (N := 11) ?hd (cs := #[.int .i64 0, .int .i64 0, .int .i64 0, .int .i64 0]) (t := 28) ?hr ?_; (case hd => rfl); (case hg => rfl); (case hr => first | (go_simp; done) | (go_simp; rfl)); intro gb229 hg w24 hbox hb; have n0_ := Aside0.mk (blk_below (g := gb215) (o := .cells #[.int .i64 a0_0, .int .i64 a0_1, .int .i64 a0_2] 23 (0, 0)) (by (with_reducible repeat (first | refine blk_drewN ?_ _ | refine blk_drew ?_ | refine blk_alloc ?_ _)); exact BK215.out) hb); have n1_ := Aside0.mk (blk_below (g := gb223) (o := .cells #[.int .i64 t218, .int .i64 t219, .int .i64 t220, .int .i64 t221] 28 (0, 0)) (by (with_reducible repeat (first | refine blk_drewN ?_ _ | refine blk_drew ?_ | refine blk_alloc ?_ _)); exact BK223.out) hb); have n2_ := Aside0.mk (below_step (by repeat (first | (with_reducible first | exact HB.out | apply below_alloc | apply pw_below_drewN | apply below_drew1 | refine below_set ?_ GE215.out | refine below_set ?_ GE223.out) | exact HB.out)) hb); have n3_ := Aside0.mk (hbox); have n4_ := Aside0.mk ((by rw [hg]; exact (below_size (by repeat (first | (with_reducible first | exact HB.out | apply below_alloc | apply pw_below_drewN | apply below_drew1 | refine below_set ?_ GE215.out | refine below_set ?_ GE223.out) | exact HB.out))) : w.heap.size ≤ gb229)); have n5_ := Aside0.mk ((by rw [hg]; exact (below_size (by repeat (first | (with_reducible first | exact HB.out | apply below_alloc | apply pw_below_drewN | apply below_drew1 | refine below_set ?_ GE215.out | refine below_set ?_ GE223.out) | exact HB.out))) : w.heap.size ≤ gb229)); have n6_ := Aside0.mk ((by rw [hg]; exact Nat.ne_of_lt (blk_lt (g := gb215) (o := .cells #[.int .i64 a0_0, .int .i64 a0_1, .int .i64 a0_2] 23 (0, 0)) (by (with_reducible repeat (first | refine blk_drewN ?_ _ | refine blk_drew ?_ | refine blk_alloc ?_ _)); exact BK215.out)) : gb215 ≠ gb229)); have n7_ := Aside0.mk ((by rw [hg]; exact Nat.ne_of_gt (blk_lt (g := gb215) (o := .cells #[.int .i64 a0_0, .int .i64 a0_1, .int .i64 a0_2] 23 (0, 0)) (by (with_reducible repeat (first | refine blk_drewN ?_ _ | refine blk_drew ?_ | refine blk_alloc ?_ _)); exact BK215.out)) : gb229 ≠ gb215)); have n8_ := Aside0.mk ((by rw [hg]; exact Nat.ne_of_lt (blk_lt (g := gb223) (o := .cells #[.int .i64 t218, .int .i64 t219, .int .i64 t220, .int .i64 t221] 28 (0, 0)) (by (with_reducible repeat (first | refine blk_drewN ?_ _ | refine blk_drew ?_ | refine blk_alloc ?_ _)); exact BK223.out)) : gb223 ≠ gb229)); have n9_ := Aside0.mk ((by rw [hg]; exact Nat.ne_of_gt (blk_lt (g := gb223) (o := .cells #[.int .i64 t218, .int .i64 t219, .int .i64 t220, .int .i64 t221] 28 (0, 0)) (by (with_reducible repeat (first | refine blk_drewN ?_ _ | refine blk_drew ?_ | refine blk_alloc ?_ _)); exact BK223.out)) : gb229 ≠ gb223)); clear BK215; clear BK223; clear HB; have BK215 := n0_; have BK223 := n1_; have HB := n2_; have BK229 := n3_; have GW229 := n4_; have GE229 := n5_; have NB215_229 := n6_; have NB229_215 := n7_; have NB223_229 := n8_; have NB229_223 := n9_; clear n0_ n1_ n2_ n3_ n4_ n5_ n6_ n7_ n8_ n9_; clear hb hbox hg; have hnb25 := NB229_215.out; have hnc25 := NB215_229.out; have hnb26 := NB229_223.out; have hnc26 := NB223_229.out; have hcz27_0 : w24.cell? ⟨gb229, 0, none⟩ = some (.int .i64 0) := (blk_cell BK229.out 0).trans rfl; have hcz27_1 : w24.cell? ⟨gb229, 1, none⟩ = some (.int .i64 0) := (blk_cell BK229.out 1).trans rfl; have hcz27_2 : w24.cell? ⟨gb229, 2, none⟩ = some (.int .i64 0) := (blk_cell BK229.out 2).trans rfl; have hcz27_3 : w24.cell? ⟨gb229, 3, none⟩ = some (.int .i64 0) := (blk_cell BK229.out 3).trans rfl; have hfz27_0 := blk_frozen BK229.out 0; have hfz27_1 := blk_frozen BK229.out 1; have hfz27_2 := blk_frozen BK229.out 2; have hfz27_3 := blk_frozen BK229.out 3))
        (try simp only [Act.put, List.setIfInBounds_toArray, List.set_cons_zero, List.set_cons_succ])
        go_cut [50] (fun v50 wc => ∃ (kq : Nat) (x50_15 : Bool), v50 = .bool x50_15 ∧ Aside0 (hopmeshlaw47_GossipRuns.j1 kq a1 l3 t222 t228 x50_15 a0_0 a0_1 a0_2 t218 t219 t220 t221 t224 t225 t226 t227 = some r) ∧ Aside0 (kq ≤ kj4) ∧ Aside0 (wc.heap[gb215]? = some (.cells #[.int .i64 a0_0, .int .i64 a0_1, .int .i64 a0_2] 23 (0, 0))) ∧ Aside0 (wc.heap[gb223]? = some (.cells #[.int .i64 t218, .int .i64 t219, .int .i64 t220, .int .i64 t221] 28 (0, 0))) ∧ Aside0 (wc.heap[gb229]? = some (.cells #[.int .i64 t224, .int .i64 t225, .int .i64 t226, .int .i64 t227] 28 (0, 0))) ∧ Aside0 (Below w.heap.size w wc))
        case first =>
          have H := HC16.out
          clear HC16
          by_cases c28 : (!(t218 == t224) || (!(t219 == t225) || (!(t220 == t226) || (!(t221 == t227))))) = true
          · rw [if_pos c28] at H
            have c28b0 : (!(t218 == t224) || (!(t219 == t225) || (!(t220 == t226) || (!(t221 == t227))))) = true := c28
            clear c28
            (first | rw [c28b0] | (simp only [i64_w, i32_w]; rw [c28b0]) | skip)
            have H' := Aside0.mk H
            clear H
            have hnb29 := NB223_215.out
            have hnc29 := NB215_223.out
            have hnb30 := NB223_229.out
            have hnc30 := NB229_223.out
            have hcz31_0 : w24.cell? ⟨gb223, 0, none⟩ = some (.int .i64 t218) := (blk_cell BK223.out 0).trans rfl
            have hcz31_1 : w24.cell? ⟨gb223, 1, none⟩ = some (.int .i64 t219) := (blk_cell BK223.out 1).trans rfl
            have hcz31_2 : w24.cell? ⟨gb223, 2, none⟩ = some (.int .i64 t220) := (blk_cell BK223.out 2).trans rfl
            have hcz31_3 : w24.cell? ⟨gb223, 3, none⟩ = some (.int .i64 t221) := (blk_cell BK223.out 3).trans rfl
            have hfz31_0 := blk_frozen BK223.out 0
            have hfz31_1 := blk_frozen BK223.out 1
            have hfz31_2 := blk_frozen BK223.out 2
            have hfz31_3 := blk_frozen BK223.out 3
            have hnb32 := NB229_215.out
            have hnc32 := NB215_229.out
            have hcz33_0 : w24.cell? ⟨gb229, 0, none⟩ = some (.int .i64 0) := (blk_cell BK229.out 0).trans rfl
            have hcz33_1 : w24.cell? ⟨gb229, 1, none⟩ = some (.int .i64 0) := (blk_cell BK229.out 1).trans rfl
            have hcz33_2 : w24.cell? ⟨gb229, 2, none⟩ = some (.int .i64 0) := (blk_cell BK229.out 2).trans rfl
            have hcz33_3 : w24.cell? ⟨gb229, 3, none⟩ = some (.int .i64 0) := (blk_cell BK229.out 3).trans rfl
            have hfz33_0 := blk_frozen BK229.out 0
            have hfz33_1 := blk_frozen BK229.out 1
            have hfz33_2 := blk_frozen BK229.out 2
            have hfz33_3 := blk_frozen BK229.out 3
            go_wp2
            go_meet
            case rel => exact ⟨_, (true), (by first | rfl | (simp; done) | (simp [*]; done)), H', ⟨by have := HJ4.out; first | omega | exact Nat.le_refl _⟩, ⟨by (with_reducible repeat (first | refine blk_drewN ?_ _ | refine blk_drew ?_ | refine blk_alloc ?_ _)); refine blk_far ?_ NB215_229.out _; (with_reducible repeat (first | refine blk_drewN ?_ _ | refine blk_drew ?_ | refine blk_alloc ?_ _)); refine blk_far ?_ NB215_229.out _; (with_reducible repeat (first | refine blk_drewN ?_ _ | refine blk_drew ?_ | refine blk_alloc ?_ _)); refine blk_far ?_ NB215_229.out _; (with_reducible repeat (first | refine blk_drewN ?_ _ | refine blk_drew ?_ | refine blk_alloc ?_ _)); refine blk_far ?_ NB215_229.out _; (with_reducible repeat (first | refine blk_drewN ?_ _ | refine blk_drew ?_ | refine blk_alloc ?_ _)); exact BK215.out⟩, ⟨by (with_reducible repeat (first | refine blk_drewN ?_ _ | refine blk_drew ?_ | refine blk_alloc ?_ _)); refine blk_far ?_ NB223_229.out _; (with_reducible repeat (first | refine blk_drewN ?_ _ | refine blk_drew ?_ | refine blk_alloc ?_ _)); refine blk_far ?_ NB223_229.out _; (with_reducible repeat (first | refine blk_drewN ?_ _ | refine blk_drew ?_ | refine blk_alloc ?_ _)); refine blk_far ?_ NB223_229.out _; (with_reducible repeat (first | refine blk_drewN ?_ _ | refine blk_drew ?_ | refine blk_alloc ?_ _)); refine blk_far ?_ NB223_229.out _; (with_reducible repeat (first | refine blk_drewN ?_ _ | refine blk_drew ?_ | refine blk_alloc ?_ _)); exact BK223.out⟩, ⟨by (with_reducible repeat (first | refine blk_drewN ?_ _ | refine blk_drew ?_ | refine blk_alloc ?_ _)); refine blk_put (cs := #[.int .i64 t224, .int .i64 t225, .int .i64 t226, .int .i64 0]) ?_ 3 _ rfl; (with_reducible repeat (first | refine blk_drewN ?_ _ | refine blk_drew ?_ | refine blk_alloc ?_ _)); refine blk_put (cs := #[.int .i64 t224, .int .i64 t225, .int .i64 0, .int .i64 0]) ?_ 2 _ rfl; (with_reducible repeat (first | refine blk_drewN ?_ _ | refine blk_drew ?_ | refine blk_alloc ?_ _)); refine blk_put (cs := #[.int .i64 t224, .int .i64 0, .int .i64 0, .int .i64 0]) ?_ 1 _ rfl; (with_reducible repeat (first | refine blk_drewN ?_ _ | refine blk_drew ?_ | refine blk_alloc ?_ _)); refine blk_put (cs := #[.int .i64 0, .int .i64 0, .int .i64 0, .int .i64 0]) ?_ 0 _ rfl; (with_reducible repeat (first | refine blk_drewN ?_ _ | refine blk_drew ?_ | refine blk_alloc ?_ _)); exact BK229.out⟩, ⟨by repeat (first | (with_reducible first | exact HB.out | apply below_alloc | apply pw_below_drewN | apply below_drew1 | refine below_set ?_ GE215.out | refine below_set ?_ GE223.out | refine below_set ?_ GE229.out) | exact HB.out)⟩⟩
          · rw [if_neg c28] at H
            have c28b0 : (!(t218 == t224) || (!(t219 == t225) || (!(t220 == t226) || (!(t221 == t227))))) = false := by simpa using c28
            clear c28
            (first | rw [c28b0] | (simp only [i64_w, i32_w]; rw [c28b0]) | skip)
            by_cases c34 : t222 = t228
            · rw [if_pos c34] at H
              have c34b0 : (t222 == t228) = true := beq_iff_eq.mpr c34
              have c34b1 : (t222 != t228) = false := bne_eq_false_iff_eq.mpr c34
              clear c34
              have H' := Aside0.mk H
              clear H
              have hnb35 := NB223_215.out
              have hnc35 := NB215_223.out
              have hnb36 := NB223_229.out
              have hnc36 := NB229_223.out
              have hcz37_0 : w24.cell? ⟨gb223, 0, none⟩ = some (.int .i64 t218) := (blk_cell BK223.out 0).trans rfl
              have hcz37_1 : w24.cell? ⟨gb223, 1, none⟩ = some (.int .i64 t219) := (blk_cell BK223.out 1).trans rfl
              have hcz37_2 : w24.cell? ⟨gb223, 2, none⟩ = some (.int .i64 t220) := (blk_cell BK223.out 2).trans rfl
              have hcz37_3 : w24.cell? ⟨gb223, 3, none⟩ = some (.int .i64 t221) := (blk_cell BK223.out 3).trans rfl
              have hfz37_0 := blk_frozen BK223.out 0
              have hfz37_1 := blk_frozen BK223.out 1
              have hfz37_2 := blk_frozen BK223.out 2
              have hfz37_3 := blk_frozen BK223.out 3
              have hnb38 := NB229_215.out
              have hnc38 := NB215_229.out
              have hcz39_0 : w24.cell? ⟨gb229, 0, none⟩ = some (.int .i64 0) := (blk_cell BK229.out 0).trans rfl
              have hcz39_1 : w24.cell? ⟨gb229, 1, none⟩ = some (.int .i64 0) := (blk_cell BK229.out 1).trans rfl
              have hcz39_2 : w24.cell? ⟨gb229, 2, none⟩ = some (.int .i64 0) := (blk_cell BK229.out 2).trans rfl
              have hcz39_3 : w24.cell? ⟨gb229, 3, none⟩ = some (.int .i64 0) := (blk_cell BK229.out 3).trans rfl
              have hfz39_0 := blk_frozen BK229.out 0
              have hfz39_1 := blk_frozen BK229.out 1
              have hfz39_2 := blk_frozen BK229.out 2
              have hfz39_3 := blk_frozen BK229.out 3
              go_wp2
              go_meet
              case rel => exact ⟨_, ((t222 != 0)), (by first | rfl | (simp; done) | (simp [*]; done)), H', ⟨by have := HJ4.out; first | omega | exact Nat.le_refl _⟩, ⟨by (with_reducible repeat (first | refine blk_drewN ?_ _ | refine blk_drew ?_ | refine blk_alloc ?_ _)); refine blk_far ?_ NB215_229.out _; (with_reducible repeat (first | refine blk_drewN ?_ _ | refine blk_drew ?_ | refine blk_alloc ?_ _)); refine blk_far ?_ NB215_229.out _; (with_reducible repeat (first | refine blk_drewN ?_ _ | refine blk_drew ?_ | refine blk_alloc ?_ _)); refine blk_far ?_ NB215_229.out _; (with_reducible repeat (first | refine blk_drewN ?_ _ | refine blk_drew ?_ | refine blk_alloc ?_ _)); refine blk_far ?_ NB215_229.out _; (with_reducible repeat (first | refine blk_drewN ?_ _ | refine blk_drew ?_ | refine blk_alloc ?_ _)); exact BK215.out⟩, ⟨by (with_reducible repeat (first | refine blk_drewN ?_ _ | refine blk_drew ?_ | refine blk_alloc ?_ _)); refine blk_far ?_ NB223_229.out _; (with_reducible repeat (first | refine blk_drewN ?_ _ | refine blk_drew ?_ | refine blk_alloc ?_ _)); refine blk_far ?_ NB223_229.out _; (with_reducible repeat (first | refine blk_drewN ?_ _ | refine blk_drew ?_ | refine blk_alloc ?_ _)); refine blk_far ?_ NB223_229.out _; (with_reducible repeat (first | refine blk_drewN ?_ _ | refine blk_drew ?_ | refine blk_alloc ?_ _)); refine blk_far ?_ NB223_229.out _; (with_reducible repeat (first | refine blk_drewN ?_ _ | refine blk_drew ?_ | refine blk_alloc ?_ _)); exact BK223.out⟩, ⟨by (with_reducible repeat (first | refine blk_drewN ?_ _ | refine blk_drew ?_ | refine blk_alloc ?_ _)); refine blk_put (cs := #[.int .i64 t224, .int .i64 t225, .int .i64 t226, .int .i64 0]) ?_ 3 _ rfl; (with_reducible repeat (first | refine blk_drewN ?_ _ | refine blk_drew ?_ | refine blk_alloc ?_ _)); refine blk_put (cs := #[.int .i64 t224, .int .i64 t225, .int .i64 0, .int .i64 0]) ?_ 2 _ rfl; (with_reducible repeat (first | refine blk_drewN ?_ _ | refine blk_drew ?_ | refine blk_alloc ?_ _)); refine blk_put (cs := #[.int .i64 t224, .int .i64 0, .int .i64 0, .int .i64 0]) ?_ 1 _ rfl; (with_reducible repeat (first | refine blk_drewN ?_ _ | refine blk_drew ?_ | refine blk_alloc ?_ _)); refine blk_put (cs := #[.int .i64 0, .int .i64 0, .int .i64 0, .int .i64 0]) ?_ 0 _ rfl; (with_reducible repeat (first | refine blk_drewN ?_ _ | refine blk_drew ?_ | refine blk_alloc ?_ _)); exact BK229.out⟩, ⟨by repeat (first | (with_reducible first | exact HB.out | apply below_alloc | apply pw_below_drewN | apply below_drew1 | refine below_set ?_ GE215.out | refine below_set ?_ GE223.out | refine below_set ?_ GE229.out) | exact HB.out)⟩⟩
            · rw [if_neg c34] at H
              have c34b0 : (t222 == t228) = false := beq_eq_false_iff_ne.mpr c34
              have c34b1 : (t222 != t228) = true := bne_iff_ne.mpr c34
              have H' := Aside0.mk H
              clear H
              have hnb40 := NB223_215.out
              have hnc40 := NB215_223.out
              have hnb41 := NB223_229.out
              have hnc41 := NB229_223.out
              have hcz42_0 : w24.cell? ⟨gb223, 0, none⟩ = some (.int .i64 t218) := (blk_cell BK223.out 0).trans rfl
              have hcz42_1 : w24.cell? ⟨gb223, 1, none⟩ = some (.int .i64 t219) := (blk_cell BK223.out 1).trans rfl
              have hcz42_2 : w24.cell? ⟨gb223, 2, none⟩ = some (.int .i64 t220) := (blk_cell BK223.out 2).trans rfl
              have hcz42_3 : w24.cell? ⟨gb223, 3, none⟩ = some (.int .i64 t221) := (blk_cell BK223.out 3).trans rfl
              have hfz42_0 := blk_frozen BK223.out 0
              have hfz42_1 := blk_frozen BK223.out 1
              have hfz42_2 := blk_frozen BK223.out 2
              have hfz42_3 := blk_frozen BK223.out 3
              have hnb43 := NB229_215.out
              have hnc43 := NB215_229.out
              have hcz44_0 : w24.cell? ⟨gb229, 0, none⟩ = some (.int .i64 0) := (blk_cell BK229.out 0).trans rfl
              have hcz44_1 : w24.cell? ⟨gb229, 1, none⟩ = some (.int .i64 0) := (blk_cell BK229.out 1).trans rfl
              have hcz44_2 : w24.cell? ⟨gb229, 2, none⟩ = some (.int .i64 0) := (blk_cell BK229.out 2).trans rfl
              have hcz44_3 : w24.cell? ⟨gb229, 3, none⟩ = some (.int .i64 0) := (blk_cell BK229.out 3).trans rfl
              have hfz44_0 := blk_frozen BK229.out 0
              have hfz44_1 := blk_frozen BK229.out 1
              have hfz44_2 := blk_frozen BK229.out 2
              have hfz44_3 := blk_frozen BK229.out 3
              go_wp2
              go_meet
              case rel => exact ⟨_, (true), (by first | rfl | (simp; done) | (simp [*]; done)), H', ⟨by have := HJ4.out; first | omega | exact Nat.le_refl _⟩, ⟨by (with_reducible repeat (first | refine blk_drewN ?_ _ | refine blk_drew ?_ | refine blk_alloc ?_ _)); refine blk_far ?_ NB215_229.out _; (with_reducible repeat (first | refine blk_drewN ?_ _ | refine blk_drew ?_ | refine blk_alloc ?_ _)); refine blk_far ?_ NB215_229.out _; (with_reducible repeat (first | refine blk_drewN ?_ _ | refine blk_drew ?_ | refine blk_alloc ?_ _)); refine blk_far ?_ NB215_229.out _; (with_reducible repeat (first | refine blk_drewN ?_ _ | refine blk_drew ?_ | refine blk_alloc ?_ _)); refine blk_far ?_ NB215_229.out _; (with_reducible repeat (first | refine blk_drewN ?_ _ | refine blk_drew ?_ | refine blk_alloc ?_ _)); exact BK215.out⟩, ⟨by (with_reducible repeat (first | refine blk_drewN ?_ _ | refine blk_drew ?_ | refine blk_alloc ?_ _)); refine blk_far ?_ NB223_229.out _; (with_reducible repeat (first | refine blk_drewN ?_ _ | refine blk_drew ?_ | refine blk_alloc ?_ _)); refine blk_far ?_ NB223_229.out _; (with_reducible repeat (first | refine blk_drewN ?_ _ | refine blk_drew ?_ | refine blk_alloc ?_ _)); refine blk_far ?_ NB223_229.out _; (with_reducible repeat (first | refine blk_drewN ?_ _ | refine blk_drew ?_ | refine blk_alloc ?_ _)); refine blk_far ?_ NB223_229.out _; (with_reducible repeat (first | refine blk_drewN ?_ _ | refine blk_drew ?_ | refine blk_alloc ?_ _)); exact BK223.out⟩, ⟨by (with_reducible repeat (first | refine blk_drewN ?_ _ | refine blk_drew ?_ | refine blk_alloc ?_ _)); refine blk_put (cs := #[.int .i64 t224, .int .i64 t225, .int .i64 t226, .int .i64 0]) ?_ 3 _ rfl; (with_reducible repeat (first | refine blk_drewN ?_ _ | refine blk_drew ?_ | refine blk_alloc ?_ _)); refine blk_put (cs := #[.int .i64 t224, .int .i64 t225, .int .i64 0, .int .i64 0]) ?_ 2 _ rfl; (with_reducible repeat (first | refine blk_drewN ?_ _ | refine blk_drew ?_ | refine blk_alloc ?_ _)); refine blk_put (cs := #[.int .i64 t224, .int .i64 0, .int .i64 0, .int .i64 0]) ?_ 1 _ rfl; (with_reducible repeat (first | refine blk_drewN ?_ _ | refine blk_drew ?_ | refine blk_alloc ?_ _)); refine blk_put (cs := #[.int .i64 0, .int .i64 0, .int .i64 0, .int .i64 0]) ?_ 0 _ rfl; (with_reducible repeat (first | refine blk_drewN ?_ _ | refine blk_drew ?_ | refine blk_alloc ?_ _)); exact BK229.out⟩, ⟨by repeat (first | (with_reducible first | exact HB.out | apply below_alloc | apply pw_below_drewN | apply below_drew1 | refine below_set ?_ GE215.out | refine below_set ?_ GE223.out | refine below_set ?_ GE229.out) | exact HB.out)⟩⟩
        case rest =>
          clear HC16
          try clear c1
          try clear c2
          try clear p2
          try clear c3
          try clear c4
          try clear c8
          try clear c9
          try clear c10
          try clear c11
          try clear c20
          try clear c25
          try clear c26
          try clear c28
          try clear c28b0
          try clear c29
          try clear c30
          try clear c32
          try clear c34
          try clear c34b0
          try clear c34b1
          try clear c35
          try clear c36
          try clear c38
          try clear c40
          try clear c41
          try clear c43
          try clear hcz17_0
          try clear hcz17_1
          try clear hcz17_2
          try clear hcz21_0
          try clear hcz21_1
          try clear hcz21_2
          try clear hcz21_3
          try clear hcz22_0
          try clear hcz22_1
          try clear hcz22_2
          try clear hcz27_0
          try clear hcz27_1
          try clear hcz27_2
          try clear hcz27_3
          try clear hcz31_0
          try clear hcz31_1
          try clear hcz31_2
          try clear hcz31_3
          try clear hcz33_0
          try clear hcz33_1
          try clear hcz33_2
          try clear hcz33_3
          try clear hcz37_0
          try clear hcz37_1
          try clear hcz37_2
          try clear hcz37_3
          try clear hcz39_0
          try clear hcz39_1
          try clear hcz39_2
          try clear hcz39_3
          try clear hcz42_0
          try clear hcz42_1
          try clear hcz42_2
          try clear hcz42_3
          try clear hcz44_0
          try clear hcz44_1
          try clear hcz44_2
          try clear hcz44_3
          try clear hfz17_0
          try clear hfz17_1
          try clear hfz17_2
          try clear hfz21_0
          try clear hfz21_1
          try clear hfz21_2
          try clear hfz21_3
          try clear hfz22_0
          try clear hfz22_1
          try clear hfz22_2
          try clear hfz27_0
          try clear hfz27_1
          try clear hfz27_2
          try clear hfz27_3
          try clear hfz31_0
          try clear hfz31_1
          try clear hfz31_2
          try clear hfz31_3
          try clear hfz33_0
          try clear hfz33_1
          try clear hfz33_2
          try clear hfz33_3
          try clear hfz37_0
          try clear hfz37_1
          try clear hfz37_2
          try clear hfz37_3
          try clear hfz39_0
          try clear hfz39_1
          try clear hfz39_2
          try clear hfz39_3
          try clear hfz42_0
          try clear hfz42_1
          try clear hfz42_2
          try clear hfz42_3
          try clear hfz44_0
          try clear hfz44_1
          try clear hfz44_2
          try clear hfz44_3
          try clear p2
          obtain ⟨kq, x50_15, rfl, HA, HJ15, BK215, BK223, BK229, HB⟩ := hcut
          cases kq with
          | zero => exact absurd HA.out (by simp [hopmeshlaw47_GossipRuns.j1])
          | succ kj15 =>
            have H := HA.out
            clear HA
            simp only [hopmeshlaw47_GossipRuns.j1] at H
            by_cases c45 : x50_15 = true
            · subst c45
              have H1 : (if (t218 == t224 && (t219 == t225 && (t220 == t226 && (t221 == t227)))) = true then (some (t222 == t228)) else (some false)) = some r := by rw [if_pos rfl] at H; exact H
              clear H
              have H := H1
              clear H1
              by_cases c46 : (t218 == t224 && (t219 == t225 && (t220 == t226 && (t221 == t227)))) = true
              · rw [if_pos c46] at H
                have c46b0 : (t218 == t224 && (t219 == t225 && (t220 == t226 && (t221 == t227)))) = true := c46
                (try (have c46b1 : decide (t218 = t224 && (t219 == t225 && (t220 == t226 && (t221 == t227)))) = true := by simpa using c46))
                (try (have c46b2 : (t218 == t224 && (t219 == t225 && (t220 == t226 && (t221 == t227)))) = true := by simpa using c46))
                clear c46
                obtain rfl := Option.some.inj H
                have hnb47 := NB223_215.out
                have hnc47 := NB215_223.out
                have hnb48 := NB223_229.out
                have hnc48 := NB229_223.out
                have hcz49_0 : wc.cell? ⟨gb223, 0, none⟩ = some (.int .i64 t218) := (blk_cell BK223.out 0).trans rfl
                have hcz49_1 : wc.cell? ⟨gb223, 1, none⟩ = some (.int .i64 t219) := (blk_cell BK223.out 1).trans rfl
                have hcz49_2 : wc.cell? ⟨gb223, 2, none⟩ = some (.int .i64 t220) := (blk_cell BK223.out 2).trans rfl
                have hcz49_3 : wc.cell? ⟨gb223, 3, none⟩ = some (.int .i64 t221) := (blk_cell BK223.out 3).trans rfl
                have hfz49_0 := blk_frozen BK223.out 0
                have hfz49_1 := blk_frozen BK223.out 1
                have hfz49_2 := blk_frozen BK223.out 2
                have hfz49_3 := blk_frozen BK223.out 3
                have hnb50 := NB229_215.out
                have hnc50 := NB215_229.out
                have hcz51_0 : wc.cell? ⟨gb229, 0, none⟩ = some (.int .i64 t224) := (blk_cell BK229.out 0).trans rfl
                have hcz51_1 : wc.cell? ⟨gb229, 1, none⟩ = some (.int .i64 t225) := (blk_cell BK229.out 1).trans rfl
                have hcz51_2 : wc.cell? ⟨gb229, 2, none⟩ = some (.int .i64 t226) := (blk_cell BK229.out 2).trans rfl
                have hcz51_3 : wc.cell? ⟨gb229, 3, none⟩ = some (.int .i64 t227) := (blk_cell BK229.out 3).trans rfl
                have hfz51_0 := blk_frozen BK229.out 0
                have hfz51_1 := blk_frozen BK229.out 1
                have hfz51_2 := blk_frozen BK229.out 2
                have hfz51_3 := blk_frozen BK229.out 3
                go_wp2
                go_ret
                exact ⟨by first | rfl | (simp [errW_none, errW_some] <;> rfl) | (simp [*, errW_none, errW_some] <;> rfl), by repeat (first | (with_reducible first | exact HB.out | apply below_alloc | apply pw_below_drewN | apply below_drew1 | refine below_set ?_ GE215.out | refine below_set ?_ GE223.out | refine below_set ?_ GE229.out) | exact HB.out)⟩
              · rw [if_neg c46] at H
                have c46b0 : (t218 == t224 && (t219 == t225 && (t220 == t226 && (t221 == t227)))) = false := by simpa using c46
                (try (have c46b1 : decide (t218 = t224 && (t219 == t225 && (t220 == t226 && (t221 == t227)))) = false := by simpa using c46))
                (try (have c46b2 : (t218 == t224 && (t219 == t225 && (t220 == t226 && (t221 == t227)))) = false := by simpa using c46))
                (try (have c46b3 : ¬ (t218 = t224 && (t219 == t225 && (t220 == t226 && (t221 == t227)))) := by simpa using c46))
                clear c46
                exact absurd (H.trans (congrArg some HRT.out)) (by simp)
            · replace c45 := Bool.eq_false_iff.mpr c45
              subst c45
              have H1 : (hopmeshlaw47_GossipRuns.l0 kj15 a1 l3 (l3.length : Int) 0 a0_0 a0_1 a0_2 t218 t219 t220 t221 t224 t225 t226 t227) = some r := by rw [if_neg (show ¬ (false = true) by decide)] at H; exact H
              clear H
              have H := H1
              clear H1
              have H' := Aside0.mk H
              clear H
              go_wp2
              go_loopg [61] kj15 (fun kq v61 w' => ∃ (x61_3 : Int) (x224000_3 : Int) (x224001_3 : Int) (x224002_3 : Int) (x224003_3 : Int) (x230000_3 : Int) (x230001_3 : Int) (x230002_3 : Int) (x230003_3 : Int), v61 = .int .i64 x61_3 ∧ Aside0 (hopmeshlaw47_GossipRuns.l0 kq a1 l3 (l3.length : Int) x61_3 a0_0 a0_1 a0_2 x224000_3 x224001_3 x224002_3 x224003_3 x230000_3 x230001_3 x230002_3 x230003_3 = some r) ∧ Aside0 (kq ≤ kj15) ∧ Aside0 (w'.heap[gb215]? = some (.cells #[.int .i64 a0_0, .int .i64 a0_1, .int .i64 a0_2] 23 (0, 0))) ∧ Aside0 (w'.heap[gb223]? = some (.cells #[.int .i64 x224000_3, .int .i64 x224001_3, .int .i64 x224002_3, .int .i64 x224003_3] 28 (0, 0))) ∧ Aside0 (w'.heap[gb229]? = some (.cells #[.int .i64 x230000_3, .int .i64 x230001_3, .int .i64 x230002_3, .int .i64 x230003_3] 28 (0, 0))) ∧ Aside0 (Below w.heap.size w w'))
              case atStart => exact ⟨(0), (t218), (t219), (t220), (t221), (t224), (t225), (t226), (t227), (by first | rfl | (simp; done) | (simp [*]; done)), H', ⟨Nat.le_refl _⟩, ⟨by (with_reducible repeat (first | refine blk_drewN ?_ _ | refine blk_drew ?_ | refine blk_alloc ?_ _)); exact BK215.out⟩, ⟨by (with_reducible repeat (first | refine blk_drewN ?_ _ | refine blk_drew ?_ | refine blk_alloc ?_ _)); exact BK223.out⟩, ⟨by (with_reducible repeat (first | refine blk_drewN ?_ _ | refine blk_drew ?_ | refine blk_alloc ?_ _)); exact BK229.out⟩, ⟨by repeat (first | (with_reducible first | exact HB.out | apply below_alloc | apply pw_below_drewN | apply below_drew1 | refine below_set ?_ GE215.out | refine below_set ?_ GE223.out | refine below_set ?_ GE229.out) | exact HB.out)⟩⟩
              case round =>
                clear H'
                try clear c1
                try clear c2
                try clear p2
                try clear c3
                try clear c4
                try clear c5
                try clear c8
                try clear c9
                try clear c10
                try clear c11
                try clear c20
                try clear c25
                try clear c26
                try clear c28
                try clear c28b0
                try clear c29
                try clear c30
                try clear c32
                try clear c34
                try clear c34b0
                try clear c34b1
                try clear c35
                try clear c36
                try clear c38
                try clear c40
                try clear c41
                try clear c43
                try clear c45
                try clear c46
                try clear c46b0
                try clear c46b1
                try clear c46b2
                try clear c47
                try clear c48
                try clear c50
                try clear hcz17_0
                try clear hcz17_1
                try clear hcz17_2
                try clear hcz21_0
                try clear hcz21_1
                try clear hcz21_2
                try clear hcz21_3
                try clear hcz22_0
                try clear hcz22_1
                try clear hcz22_2
                try clear hcz27_0
                try clear hcz27_1
                try clear hcz27_2
                try clear hcz27_3
                try clear hcz31_0
                try clear hcz31_1
                try clear hcz31_2
                try clear hcz31_3
                try clear hcz33_0
                try clear hcz33_1
                try clear hcz33_2
                try clear hcz33_3
                try clear hcz37_0
                try clear hcz37_1
                try clear hcz37_2
                try clear hcz37_3
                try clear hcz39_0
                try clear hcz39_1
                try clear hcz39_2
                try clear hcz39_3
                try clear hcz42_0
                try clear hcz42_1
                try clear hcz42_2
                try clear hcz42_3
                try clear hcz44_0
                try clear hcz44_1
                try clear hcz44_2
                try clear hcz44_3
                try clear hcz49_0
                try clear hcz49_1
                try clear hcz49_2
                try clear hcz49_3
                try clear hcz51_0
                try clear hcz51_1
                try clear hcz51_2
                try clear hcz51_3
                try clear hfz17_0
                try clear hfz17_1
                try clear hfz17_2
                try clear hfz21_0
                try clear hfz21_1
                try clear hfz21_2
                try clear hfz21_3
                try clear hfz22_0
                try clear hfz22_1
                try clear hfz22_2
                try clear hfz27_0
                try clear hfz27_1
                try clear hfz27_2
                try clear hfz27_3
                try clear hfz31_0
                try clear hfz31_1
                try clear hfz31_2
                try clear hfz31_3
                try clear hfz33_0
                try clear hfz33_1
                try clear hfz33_2
                try clear hfz33_3
                try clear hfz37_0
                try clear hfz37_1
                try clear hfz37_2
                try clear hfz37_3
                try clear hfz39_0
                try clear hfz39_1
                try clear hfz39_2
                try clear hfz39_3
                try clear hfz42_0
                try clear hfz42_1
                try clear hfz42_2
                try clear hfz42_3
                try clear hfz44_0
                try clear hfz44_1
                try clear hfz44_2
                try clear hfz44_3
                try clear hfz49_0
                try clear hfz49_1
                try clear hfz49_2
                try clear hfz49_3
                try clear hfz51_0
                try clear hfz51_1
                try clear hfz51_2
                try clear hfz51_3
                try clear p2
                obtain ⟨x61_3, x224000_3, x224001_3, x224002_3, x224003_3, x230000_3, x230001_3, x230002_3, x230003_3, rfl, HA, HK3, BK215, BK223, BK229, HB⟩ := hrel
                cases gk with
                | zero => exact absurd HA.out (by simp [hopmeshlaw47_GossipRuns.l0])
                | succ k3 =>
                  have H := HA.out
                  clear HA
                  simp only [hopmeshlaw47_GossipRuns.l0] at H
                  by_cases c52 : x61_3 < (l3.length : Int)
                  · rw [if_pos c52] at H
                    have c52b0 : decide (x61_3 < (l3.length : Int)) = true := decide_eq_true c52
                    clear c52
                    by_cases c53 : 0 ≤ x61_3
                    · rw [if_pos c53] at H
                      have c53b0 : decide (0 ≤ x61_3) = true := decide_eq_true c53
                      clear c53
                      by_cases c54 : x61_3 < (l3.length : Int)
                      · rw [if_pos c54] at H
                        have c54b0 : decide (x61_3 < (l3.length : Int)) = true := decide_eq_true c54
                        clear c54
                        replace H := Option.bind_eq_some_iff.mp H
                        obtain ⟨⟨t232, t233, t234, t235, t236, t237⟩, A550, H⟩ := H
                        replace H : ((hopmeshref47_Step.f k3 a0_0 a0_1 a0_2 x230000_3 x230001_3 x230002_3 x230003_3 (wrap64 (a1 + x61_3)) ((rd_T33 l3 x61_3).f2)).bind fun bt238 => (if (!(t232 == bt238.1) || (!(t233 == bt238.2.1) || (!(t234 == bt238.2.2.1) || (!(t235 == bt238.2.2.2.1))))) = true then (hopmeshlaw47_GossipRuns.j3 k3 a1 t237 bt238.2.2.2.2.2 x61_3 l3 (l3.length : Int) x61_3 true a0_0 a0_1 a0_2 t232 t233 t234 t235 bt238.1 bt238.2.1 bt238.2.2.1 bt238.2.2.2.1 ((rd_T33 l3 x61_3).f0) ((rd_T33 l3 x61_3).f1) ((rd_T33 l3 x61_3).f2)) else (if (t236 != bt238.2.2.2.2.1) = true then (hopmeshlaw47_GossipRuns.j3 k3 a1 t237 bt238.2.2.2.2.2 x61_3 l3 (l3.length : Int) x61_3 true a0_0 a0_1 a0_2 t232 t233 t234 t235 bt238.1 bt238.2.1 bt238.2.2.1 bt238.2.2.2.1 ((rd_T33 l3 x61_3).f0) ((rd_T33 l3 x61_3).f1) ((rd_T33 l3 x61_3).f2)) else (hopmeshlaw47_GossipRuns.j3 k3 a1 t237 bt238.2.2.2.2.2 x61_3 l3 (l3.length : Int) x61_3 (t237 != bt238.2.2.2.2.2) a0_0 a0_1 a0_2 t232 t233 t234 t235 bt238.1 bt238.2.1 bt238.2.2.1 bt238.2.2.2.1 ((rd_T33 l3 x61_3).f0) ((rd_T33 l3 x61_3).f1) ((rd_T33 l3 x61_3).f2))))) = some r := H
                        have A55 := Aside0.mk A550
                        clear A550
                        replace H := Option.bind_eq_some_iff.mp H
                        obtain ⟨⟨t238, t239, t240, t241, t242, t243⟩, A560, H⟩ := H
                        replace H : (if (!(t232 == t238) || (!(t233 == t239) || (!(t234 == t240) || (!(t235 == t241))))) = true then (hopmeshlaw47_GossipRuns.j3 k3 a1 t237 t243 x61_3 l3 (l3.length : Int) x61_3 true a0_0 a0_1 a0_2 t232 t233 t234 t235 t238 t239 t240 t241 ((rd_T33 l3 x61_3).f0) ((rd_T33 l3 x61_3).f1) ((rd_T33 l3 x61_3).f2)) else (if (t236 != t242) = true then (hopmeshlaw47_GossipRuns.j3 k3 a1 t237 t243 x61_3 l3 (l3.length : Int) x61_3 true a0_0 a0_1 a0_2 t232 t233 t234 t235 t238 t239 t240 t241 ((rd_T33 l3 x61_3).f0) ((rd_T33 l3 x61_3).f1) ((rd_T33 l3 x61_3).f2)) else (hopmeshlaw47_GossipRuns.j3 k3 a1 t237 t243 x61_3 l3 (l3.length : Int) x61_3 (t237 != t243) a0_0 a0_1 a0_2 t232 t233 t234 t235 t238 t239 t240 t241 ((rd_T33 l3 x61_3).f0) ((rd_T33 l3 x61_3).f1) ((rd_T33 l3 x61_3).f2)))) = some r := H
                        have A56 := Aside0.mk A560
                        clear A560
                        have HC57 := Aside0.mk H
                        clear H
                        have p230 : 0 ≤ (x61_3 : Int) := of_decide_eq_true (by first | (with_reducible assumption) | assumption)
                        have q230 : x61_3 < (l3.length : Int) := of_decide_eq_true (by first | (with_reducible assumption) | assumption)
                        obtain ⟨ad230, e230, hx230_0, hx230_1, hx230_2⟩ := at_T33 HR3.out x61_3 p230 q230
                        cases e230
                        replace hx230_0 := (HB.out.cell (World.block_lt_of_cell? w _ hx230_0)).trans hx230_0
                        replace hx230_1 := (HB.out.cell (World.block_lt_of_cell? w _ hx230_1)).trans hx230_1
                        replace hx230_2 := (HB.out.cell (World.block_lt_of_cell? w _ hx230_2)).trans hx230_2
                        replace p230 := eq_true p230
                        replace q230 := eq_true q230
                        go_upto_region 13 with (first | ((with_reducible refine gate_dst (N := 14) rfl ?_); (try (refine gate_guard (by rfl) ?_; dsimp only)); refine box_event ?hg (N := 14) ?hd (cs := #[.bool false, .bool false, .int .u32 0]) (t := 33) ?hr ?_; (case hd => rfl); (case hg => rfl); (case hr => first | (go_simp; done) | (go_simp; rfl)); intro gb231 hg w58 hbox hb; have n0_ := Aside0.mk (blk_below (g := gb215) (o := .cells #[.int .i64 a0_0, .int .i64 a0_1, .int .i64 a0_2] 23 (0, 0)) (by (with_reducible repeat (first | refine blk_drewN ?_ _ | refine blk_drew ?_ | refine blk_alloc ?_ _)); exact BK215.out) hb); have n1_ := Aside0.mk (blk_below (g := gb223) (o := .cells #[.int .i64 x224000_3, .int .i64 x224001_3, .int .i64 x224002_3, .int .i64 x224003_3] 28 (0, 0)) (by (with_reducible repeat (first | refine blk_drewN ?_ _ | refine blk_drew ?_ | refine blk_alloc ?_ _)); exact BK223.out) hb); have n2_ := Aside0.mk (blk_below (g := gb229) (o := .cells #[.int .i64 x230000_3, .int .i64 x230001_3, .int .i64 x230002_3, .int .i64 x230003_3] 28 (0, 0)) (by (with_reducible repeat (first | refine blk_drewN ?_ _ | refine blk_drew ?_ | refine blk_alloc ?_ _)); exact BK229.out) hb); have n3_ := Aside0.mk (below_step (by repeat (first | (with_reducible first | exact HB.out | apply below_alloc | apply pw_below_drewN | apply below_drew1 | refine below_set ?_ GE215.out | refine below_set ?_ GE223.out | refine below_set ?_ GE229.out) | exact HB.out)) hb); have n4_ := Aside0.mk (hbox); have n5_ := Aside0.mk ((by rw [hg]; exact (below_size (by repeat (first | (with_reducible first | exact HB.out | apply below_alloc | apply pw_below_drewN | apply below_drew1 | refine below_set ?_ GE215.out | refine below_set ?_ GE223.out | refine below_set ?_ GE229.out) | exact HB.out))) : w.heap.size ≤ gb231)); have n6_ := Aside0.mk ((by rw [hg]; exact (below_size (by repeat (first | (with_reducible first | exact HB.out | apply below_alloc | apply pw_below_drewN | apply below_drew1 | refine below_set ?_ GE215.out | refine below_set ?_ GE223.out | refine below_set ?_ GE229.out) | exact HB.out))) : w.heap.size ≤ gb231)); have n7_ := Aside0.mk ((by rw [hg]; exact Nat.ne_of_lt (blk_lt (g := gb215) (o := .cells #[.int .i64 a0_0, .int .i64 a0_1, .int .i64 a0_2] 23 (0, 0)) (by (with_reducible repeat (first | refine blk_drewN ?_ _ | refine blk_drew ?_ | refine blk_alloc ?_ _)); exact BK215.out)) : gb215 ≠ gb231)); have n8_ := Aside0.mk ((by rw [hg]; exact Nat.ne_of_gt (blk_lt (g := gb215) (o := .cells #[.int .i64 a0_0, .int .i64 a0_1, .int .i64 a0_2] 23 (0, 0)) (by (with_reducible repeat (first | refine blk_drewN ?_ _ | refine blk_drew ?_ | refine blk_alloc ?_ _)); exact BK215.out)) : gb231 ≠ gb215)); have n9_ := Aside0.mk ((by rw [hg]; exact Nat.ne_of_lt (blk_lt (g := gb223) (o := .cells #[.int .i64 x224000_3, .int .i64 x224001_3, .int .i64 x224002_3, .int .i64 x224003_3] 28 (0, 0)) (by (with_reducible repeat (first | refine blk_drewN ?_ _ | refine blk_drew ?_ | refine blk_alloc ?_ _)); exact BK223.out)) : gb223 ≠ gb231)); have n10_ := Aside0.mk ((by rw [hg]; exact Nat.ne_of_gt (blk_lt (g := gb223) (o := .cells #[.int .i64 x224000_3, .int .i64 x224001_3, .int .i64 x224002_3, .int .i64 x224003_3] 28 (0, 0)) (by (with_reducible repeat (first | refine blk_drewN ?_ _ | refine blk_drew ?_ | refine blk_alloc ?_ _)); exact BK223.out)) : gb231 ≠ gb223)); have n11_ := Aside0.mk ((by rw [hg]; exact Nat.ne_of_lt (blk_lt (g := gb229) (o := .cells #[.int .i64 x230000_3, .int .i64 x230001_3, .int .i64 x230002_3, .int .i64 x230003_3] 28 (0, 0)) (by (with_reducible repeat (first | refine blk_drewN ?_ _ | refine blk_drew ?_ | refine blk_alloc ?_ _)); exact BK229.out)) : gb229 ≠ gb231)); have n12_ := Aside0.mk ((by rw [hg]; exact Nat.ne_of_gt (blk_lt (g := gb229) (o := .cells #[.int .i64 x230000_3, .int .i64 x230001_3, .int .i64 x230002_3, .int .i64 x230003_3] 28 (0, 0)) (by (with_reducible repeat (first | refine blk_drewN ?_ _ | refine blk_drew ?_ | refine blk_alloc ?_ _)); exact BK229.out)) : gb231 ≠ gb229)); clear BK215; clear BK223; clear BK229; clear HB; have BK215 := n0_; have BK223 := n1_; have BK229 := n2_; have HB := n3_; have BK231 := n4_; have GW231 := n5_; have GE231 := n6_; have NB215_231 := n7_; have NB231_215 := n8_; have NB223_231 := n9_; have NB231_223 := n10_; have NB229_231 := n11_; have NB231_229 := n12_; clear n0_ n1_ n2_ n3_ n4_ n5_ n6_ n7_ n8_ n9_ n10_ n11_ n12_; clear hb hbox hg; have hnb59 := NB231_215.out; have hnc59 := NB215_231.out; have hnb60 := NB231_223.out; have hnc60 := NB223_231.out; have hnb61 := NB231_229.out; have hnc61 := NB229_231.out; have hcz62_0 : w58.cell? ⟨gb231, 0, none⟩ = some (.bool false) := (blk_cell BK231.out 0).trans rfl; have hcz62_1 : w58.cell? ⟨gb231, 1, none⟩ = some (.bool false) := (blk_cell BK231.out 1).trans rfl; have hcz62_2 : w58.cell? ⟨gb231, 2, none⟩ = some (.int .u32 0) := (blk_cell BK231.out 2).trans rfl; have hfz62_0 := blk_frozen BK231.out 0; have hfz62_1 := blk_frozen BK231.out 1; have hfz62_2 := blk_frozen BK231.out 2; have hnb63 := NB215_223.out; have hnc63 := NB223_215.out; have hnb64 := NB215_229.out; have hnc64 := NB229_215.out; have hcz65_0 : w58.cell? ⟨gb215, 0, none⟩ = some (.int .i64 a0_0) := (blk_cell BK215.out 0).trans rfl; have hcz65_1 : w58.cell? ⟨gb215, 1, none⟩ = some (.int .i64 a0_1) := (blk_cell BK215.out 1).trans rfl; have hcz65_2 : w58.cell? ⟨gb215, 2, none⟩ = some (.int .i64 a0_2) := (blk_cell BK215.out 2).trans rfl; have hfz65_0 := blk_frozen BK215.out 0; have hfz65_1 := blk_frozen BK215.out 1; have hfz65_2 := blk_frozen BK215.out 2; have hnb66 := NB223_229.out; have hnc66 := NB229_223.out; have hcz67_0 : w58.cell? ⟨gb223, 0, none⟩ = some (.int .i64 x224000_3) := (blk_cell BK223.out 0).trans rfl; have hcz67_1 : w58.cell? ⟨gb223, 1, none⟩ = some (.int .i64 x224001_3) := (blk_cell BK223.out 1).trans rfl; have hcz67_2 : w58.cell? ⟨gb223, 2, none⟩ = some (.int .i64 x224002_3) := (blk_cell BK223.out 2).trans rfl; have hcz67_3 : w58.cell? ⟨gb223, 3, none⟩ = some (.int .i64 x224003_3) := (blk_cell BK223.out 3).trans rfl; have hfz67_0 := blk_frozen BK223.out 0; have hfz67_1 := blk_frozen BK223.out 1; have hfz67_2 := blk_frozen BK223.out 2; have hfz67_3 := blk_frozen BK223.out 3) | ((with_reducible refine gate_callee (f := 12) rfl ?_); refine goesL_ (some 74) rfl rfl Try.func12 (by kernel_rfl) rfl #[.agg #[.int .i64 a0_0, .int .i64 a0_1, .int .i64 a0_2], .agg #[.int .i64 x224000_3, .int .i64 x224001_3, .int .i64 x224002_3, .int .i64 x224003_3], .int .i64 (wrap64 (a1 + x61_3)), .int .u32 ((rd_T33 l3 x61_3).f2)] rfl (by (try simp only [List.map_toArray, List.map_cons, List.map_nil]); first | done | rfl | (simp only [List.length_drop, List.length_take]; rfl)) ?_; (with_reducible refine (gossip_Step.calls k3 a0_0 a0_1 a0_2 x224000_3 x224001_3 x224002_3 x224003_3 (wrap64 (a1 + x61_3)) ((rd_T33 l3 x61_3).f2) t232 t233 t234 t235 t236 t237 _ A55.out).mono ?_); rintro e w68 ⟨rfl, hb⟩; refine ⟨_, rfl, ?_⟩; have n0_ := Aside0.mk (blk_below (g := gb215) (o := .cells #[.int .i64 a0_0, .int .i64 a0_1, .int .i64 a0_2] 23 (0, 0)) (by (with_reducible repeat (first | refine blk_drewN ?_ _ | refine blk_drew ?_ | refine blk_alloc ?_ _)); refine blk_far ?_ NB215_231.out _; (with_reducible repeat (first | refine blk_drewN ?_ _ | refine blk_drew ?_ | refine blk_alloc ?_ _)); refine blk_far ?_ NB215_231.out _; (with_reducible repeat (first | refine blk_drewN ?_ _ | refine blk_drew ?_ | refine blk_alloc ?_ _)); refine blk_far ?_ NB215_231.out _; (with_reducible repeat (first | refine blk_drewN ?_ _ | refine blk_drew ?_ | refine blk_alloc ?_ _)); exact BK215.out) hb); have n1_ := Aside0.mk (blk_below (g := gb223) (o := .cells #[.int .i64 x224000_3, .int .i64 x224001_3, .int .i64 x224002_3, .int .i64 x224003_3] 28 (0, 0)) (by (with_reducible repeat (first | refine blk_drewN ?_ _ | refine blk_drew ?_ | refine blk_alloc ?_ _)); refine blk_far ?_ NB223_231.out _; (with_reducible repeat (first | refine blk_drewN ?_ _ | refine blk_drew ?_ | refine blk_alloc ?_ _)); refine blk_far ?_ NB223_231.out _; (with_reducible repeat (first | refine blk_drewN ?_ _ | refine blk_drew ?_ | refine blk_alloc ?_ _)); refine blk_far ?_ NB223_231.out _; (with_reducible repeat (first | refine blk_drewN ?_ _ | refine blk_drew ?_ | refine blk_alloc ?_ _)); exact BK223.out) hb); have n2_ := Aside0.mk (blk_below (g := gb229) (o := .cells #[.int .i64 x230000_3, .int .i64 x230001_3, .int .i64 x230002_3, .int .i64 x230003_3] 28 (0, 0)) (by (with_reducible repeat (first | refine blk_drewN ?_ _ | refine blk_drew ?_ | refine blk_alloc ?_ _)); refine blk_far ?_ NB229_231.out _; (with_reducible repeat (first | refine blk_drewN ?_ _ | refine blk_drew ?_ | refine blk_alloc ?_ _)); refine blk_far ?_ NB229_231.out _; (with_reducible repeat (first | refine blk_drewN ?_ _ | refine blk_drew ?_ | refine blk_alloc ?_ _)); refine blk_far ?_ NB229_231.out _; (with_reducible repeat (first | refine blk_drewN ?_ _ | refine blk_drew ?_ | refine blk_alloc ?_ _)); exact BK229.out) hb); have n3_ := Aside0.mk (blk_below (g := gb231) (o := .cells #[.bool ((rd_T33 l3 x61_3).f0), .bool ((rd_T33 l3 x61_3).f1), .int .u32 ((rd_T33 l3 x61_3).f2)] 33 (0, 0)) (by (with_reducible repeat (first | refine blk_drewN ?_ _ | refine blk_drew ?_ | refine blk_alloc ?_ _)); refine blk_put (cs := #[.bool ((rd_T33 l3 x61_3).f0), .bool ((rd_T33 l3 x61_3).f1), .int .u32 0]) ?_ 2 _ rfl; (with_reducible repeat (first | refine blk_drewN ?_ _ | refine blk_drew ?_ | refine blk_alloc ?_ _)); refine blk_put (cs := #[.bool ((rd_T33 l3 x61_3).f0), .bool false, .int .u32 0]) ?_ 1 _ rfl; (with_reducible repeat (first | refine blk_drewN ?_ _ | refine blk_drew ?_ | refine blk_alloc ?_ _)); refine blk_put (cs := #[.bool false, .bool false, .int .u32 0]) ?_ 0 _ rfl; (with_reducible repeat (first | refine blk_drewN ?_ _ | refine blk_drew ?_ | refine blk_alloc ?_ _)); exact BK231.out) hb); have n4_ := Aside0.mk (below_step (by repeat (first | (with_reducible first | exact HB.out | apply below_alloc | apply pw_below_drewN | apply below_drew1 | refine below_set ?_ GE215.out | refine below_set ?_ GE223.out | refine below_set ?_ GE229.out | refine below_set ?_ GE231.out) | exact HB.out)) hb); clear BK215; clear BK223; clear BK229; clear BK231; clear HB; have BK215 := n0_; have BK223 := n1_; have BK229 := n2_; have BK231 := n3_; have HB := n4_; clear n0_ n1_ n2_ n3_ n4_; (try clear hb); (try clear hb2); (try clear hk); (try clear hi); have hcz69_0 : w68.cell? ⟨gb223, 0, none⟩ = some (.int .i64 x224000_3) := (blk_cell BK223.out 0).trans rfl; have hcz69_1 : w68.cell? ⟨gb223, 1, none⟩ = some (.int .i64 x224001_3) := (blk_cell BK223.out 1).trans rfl; have hcz69_2 : w68.cell? ⟨gb223, 2, none⟩ = some (.int .i64 x224002_3) := (blk_cell BK223.out 2).trans rfl; have hcz69_3 : w68.cell? ⟨gb223, 3, none⟩ = some (.int .i64 x224003_3) := (blk_cell BK223.out 3).trans rfl; have hfz69_0 := blk_frozen BK223.out 0; have hfz69_1 := blk_frozen BK223.out 1; have hfz69_2 := blk_frozen BK223.out 2; have hfz69_3 := blk_frozen BK223.out 3; have hcz70_0 : w68.cell? ⟨gb215, 0, none⟩ = some (.int .i64 a0_0) := (blk_cell BK215.out 0).trans rfl; have hcz70_1 : w68.cell? ⟨gb215, 1, none⟩ = some (.int .i64 a0_1) := (blk_cell BK215.out 1).trans rfl; have hcz70_2 : w68.cell? ⟨gb215, 2, none⟩ = some (.int .i64 a0_2) := (blk_cell BK215.out 2).trans rfl; have hfz70_0 := blk_frozen BK215.out 0; have hfz70_1 := blk_frozen BK215.out 1; have hfz70_2 := blk_frozen BK215.out 2; have hcz71_0 : w68.cell? ⟨gb229, 0, none⟩ = some (.int .i64 x230000_3) := (blk_cell BK229.out 0).trans rfl; have hcz71_1 : w68.cell? ⟨gb229, 1, none⟩ = some (.int .i64 x230001_3) := (blk_cell BK229.out 1).trans rfl; have hcz71_2 : w68.cell? ⟨gb229, 2, none⟩ = some (.int .i64 x230002_3) := (blk_cell BK229.out 2).trans rfl; have hcz71_3 : w68.cell? ⟨gb229, 3, none⟩ = some (.int .i64 x230003_3) := (blk_cell BK229.out 3).trans rfl; have hfz71_0 := blk_frozen BK229.out 0; have hfz71_1 := blk_frozen BK229.out 1; have hfz71_2 := blk_frozen BK229.out 2; have hfz71_3 := blk_frozen BK229.out 3; have hcz72_0 : w68.cell? ⟨gb231, 0, none⟩ = some (.bool ((rd_T33 l3 x61_3).f0)) := (blk_cell BK231.out 0).trans rfl; have hcz72_1 : w68.cell? ⟨gb231, 1, none⟩ = some (.bool ((rd_T33 l3 x61_3).f1)) := (blk_cell BK231.out 1).trans rfl; have hcz72_2 : w68.cell? ⟨gb231, 2, none⟩ = some (.int .u32 ((rd_T33 l3 x61_3).f2)) := (blk_cell BK231.out 2).trans rfl; have hfz72_0 := blk_frozen BK231.out 0; have hfz72_1 := blk_frozen BK231.out 1; have hfz72_2 := blk_frozen BK231.out 2) | ((with_reducible refine gate_callee (f := 13) rfl ?_); refine goesL_ (some 86) rfl rfl Try.func13 (by kernel_rfl) rfl #[.agg #[.int .i64 a0_0, .int .i64 a0_1, .int .i64 a0_2], .agg #[.int .i64 x230000_3, .int .i64 x230001_3, .int .i64 x230002_3, .int .i64 x230003_3], .int .i64 (wrap64 (a1 + x61_3)), .int .u32 ((rd_T33 l3 x61_3).f2)] rfl (by (try simp only [List.map_toArray, List.map_cons, List.map_nil]); first | done | rfl | (simp only [List.length_drop, List.length_take]; rfl)) ?_; (with_reducible refine (hopmeshref47_Step.calls k3 a0_0 a0_1 a0_2 x230000_3 x230001_3 x230002_3 x230003_3 (wrap64 (a1 + x61_3)) ((rd_T33 l3 x61_3).f2) t238 t239 t240 t241 t242 t243 _ A56.out).mono ?_); rintro e w73 ⟨rfl, hb⟩; refine ⟨_, rfl, ?_⟩; have n0_ := Aside0.mk (blk_below (g := gb215) (o := .cells #[.int .i64 a0_0, .int .i64 a0_1, .int .i64 a0_2] 23 (0, 0)) (by (with_reducible repeat (first | refine blk_drewN ?_ _ | refine blk_drew ?_ | refine blk_alloc ?_ _)); refine blk_far ?_ NB215_223.out _; (with_reducible repeat (first | refine blk_drewN ?_ _ | refine blk_drew ?_ | refine blk_alloc ?_ _)); refine blk_far ?_ NB215_223.out _; (with_reducible repeat (first | refine blk_drewN ?_ _ | refine blk_drew ?_ | refine blk_alloc ?_ _)); refine blk_far ?_ NB215_223.out _; (with_reducible repeat (first | refine blk_drewN ?_ _ | refine blk_drew ?_ | refine blk_alloc ?_ _)); refine blk_far ?_ NB215_223.out _; (with_reducible repeat (first | refine blk_drewN ?_ _ | refine blk_drew ?_ | refine blk_alloc ?_ _)); exact BK215.out) hb); have n1_ := Aside0.mk (blk_below (g := gb223) (o := .cells #[.int .i64 t232, .int .i64 t233, .int .i64 t234, .int .i64 t235] 28 (0, 0)) (by (with_reducible repeat (first | refine blk_drewN ?_ _ | refine blk_drew ?_ | refine blk_alloc ?_ _)); refine blk_put (cs := #[.int .i64 t232, .int .i64 t233, .int .i64 t234, .int .i64 x224003_3]) ?_ 3 _ rfl; (with_reducible repeat (first | refine blk_drewN ?_ _ | refine blk_drew ?_ | refine blk_alloc ?_ _)); refine blk_put (cs := #[.int .i64 t232, .int .i64 t233, .int .i64 x224002_3, .int .i64 x224003_3]) ?_ 2 _ rfl; (with_reducible repeat (first | refine blk_drewN ?_ _ | refine blk_drew ?_ | refine blk_alloc ?_ _)); refine blk_put (cs := #[.int .i64 t232, .int .i64 x224001_3, .int .i64 x224002_3, .int .i64 x224003_3]) ?_ 1 _ rfl; (with_reducible repeat (first | refine blk_drewN ?_ _ | refine blk_drew ?_ | refine blk_alloc ?_ _)); refine blk_put (cs := #[.int .i64 x224000_3, .int .i64 x224001_3, .int .i64 x224002_3, .int .i64 x224003_3]) ?_ 0 _ rfl; (with_reducible repeat (first | refine blk_drewN ?_ _ | refine blk_drew ?_ | refine blk_alloc ?_ _)); exact BK223.out) hb); have n2_ := Aside0.mk (blk_below (g := gb229) (o := .cells #[.int .i64 x230000_3, .int .i64 x230001_3, .int .i64 x230002_3, .int .i64 x230003_3] 28 (0, 0)) (by (with_reducible repeat (first | refine blk_drewN ?_ _ | refine blk_drew ?_ | refine blk_alloc ?_ _)); refine blk_far ?_ NB229_223.out _; (with_reducible repeat (first | refine blk_drewN ?_ _ | refine blk_drew ?_ | refine blk_alloc ?_ _)); refine blk_far ?_ NB229_223.out _; (with_reducible repeat (first | refine blk_drewN ?_ _ | refine blk_drew ?_ | refine blk_alloc ?_ _)); refine blk_far ?_ NB229_223.out _; (with_reducible repeat (first | refine blk_drewN ?_ _ | refine blk_drew ?_ | refine blk_alloc ?_ _)); refine blk_far ?_ NB229_223.out _; (with_reducible repeat (first | refine blk_drewN ?_ _ | refine blk_drew ?_ | refine blk_alloc ?_ _)); exact BK229.out) hb); have n3_ := Aside0.mk (blk_below (g := gb231) (o := .cells #[.bool ((rd_T33 l3 x61_3).f0), .bool ((rd_T33 l3 x61_3).f1), .int .u32 ((rd_T33 l3 x61_3).f2)] 33 (0, 0)) (by (with_reducible repeat (first | refine blk_drewN ?_ _ | refine blk_drew ?_ | refine blk_alloc ?_ _)); refine blk_far ?_ NB231_223.out _; (with_reducible repeat (first | refine blk_drewN ?_ _ | refine blk_drew ?_ | refine blk_alloc ?_ _)); refine blk_far ?_ NB231_223.out _; (with_reducible repeat (first | refine blk_drewN ?_ _ | refine blk_drew ?_ | refine blk_alloc ?_ _)); refine blk_far ?_ NB231_223.out _; (with_reducible repeat (first | refine blk_drewN ?_ _ | refine blk_drew ?_ | refine blk_alloc ?_ _)); refine blk_far ?_ NB231_223.out _; (with_reducible repeat (first | refine blk_drewN ?_ _ | refine blk_drew ?_ | refine blk_alloc ?_ _)); exact BK231.out) hb); have n4_ := Aside0.mk (below_step (by repeat (first | (with_reducible first | exact HB.out | apply below_alloc | apply pw_below_drewN | apply below_drew1 | refine below_set ?_ GE215.out | refine below_set ?_ GE223.out | refine below_set ?_ GE229.out | refine below_set ?_ GE231.out) | exact HB.out)) hb); clear BK215; clear BK223; clear BK229; clear BK231; clear HB; have BK215 := n0_; have BK223 := n1_; have BK229 := n2_; have BK231 := n3_; have HB := n4_; clear n0_ n1_ n2_ n3_ n4_; (try clear hb); (try clear hb2); (try clear hk); (try clear hi); have hcz74_0 : w73.cell? ⟨gb229, 0, none⟩ = some (.int .i64 x230000_3) := (blk_cell BK229.out 0).trans rfl; have hcz74_1 : w73.cell? ⟨gb229, 1, none⟩ = some (.int .i64 x230001_3) := (blk_cell BK229.out 1).trans rfl; have hcz74_2 : w73.cell? ⟨gb229, 2, none⟩ = some (.int .i64 x230002_3) := (blk_cell BK229.out 2).trans rfl; have hcz74_3 : w73.cell? ⟨gb229, 3, none⟩ = some (.int .i64 x230003_3) := (blk_cell BK229.out 3).trans rfl; have hfz74_0 := blk_frozen BK229.out 0; have hfz74_1 := blk_frozen BK229.out 1; have hfz74_2 := blk_frozen BK229.out 2; have hfz74_3 := blk_frozen BK229.out 3))
                        (try simp only [Act.put, List.setIfInBounds_toArray, List.set_cons_zero, List.set_cons_succ])
                        go_cut [102] (fun v102 wc => ∃ (kq : Nat) (x102_56 : Bool), v102 = .bool x102_56 ∧ Aside0 (hopmeshlaw47_GossipRuns.j3 kq a1 t237 t243 x61_3 l3 (l3.length : Int) x61_3 x102_56 a0_0 a0_1 a0_2 t232 t233 t234 t235 t238 t239 t240 t241 ((rd_T33 l3 x61_3).f0) ((rd_T33 l3 x61_3).f1) ((rd_T33 l3 x61_3).f2) = some r) ∧ Aside0 (kq ≤ k3) ∧ Aside0 (wc.heap[gb215]? = some (.cells #[.int .i64 a0_0, .int .i64 a0_1, .int .i64 a0_2] 23 (0, 0))) ∧ Aside0 (wc.heap[gb223]? = some (.cells #[.int .i64 t232, .int .i64 t233, .int .i64 t234, .int .i64 t235] 28 (0, 0))) ∧ Aside0 (wc.heap[gb229]? = some (.cells #[.int .i64 t238, .int .i64 t239, .int .i64 t240, .int .i64 t241] 28 (0, 0))) ∧ Aside0 (wc.heap[gb231]? = some (.cells #[.bool ((rd_T33 l3 x61_3).f0), .bool ((rd_T33 l3 x61_3).f1), .int .u32 ((rd_T33 l3 x61_3).f2)] 33 (0, 0))) ∧ Aside0 (Below w.heap.size w wc))
                        case first =>
                          have H := HC57.out
                          clear HC57
                          by_cases c75 : (!(t232 == t238) || (!(t233 == t239) || (!(t234 == t240) || (!(t235 == t241))))) = true
                          · rw [if_pos c75] at H
                            have c75b0 : (!(t232 == t238) || (!(t233 == t239) || (!(t234 == t240) || (!(t235 == t241))))) = true := c75
                            clear c75
                            (first | rw [c75b0] | (simp only [i64_w, i32_w]; rw [c75b0]) | skip)
                            have H' := Aside0.mk H
                            clear H
                            have hnb76 := NB223_215.out
                            have hnc76 := NB215_223.out
                            have hnb77 := NB223_229.out
                            have hnc77 := NB229_223.out
                            have hnb78 := NB223_231.out
                            have hnc78 := NB231_223.out
                            have hcz79_0 : w73.cell? ⟨gb223, 0, none⟩ = some (.int .i64 t232) := (blk_cell BK223.out 0).trans rfl
                            have hcz79_1 : w73.cell? ⟨gb223, 1, none⟩ = some (.int .i64 t233) := (blk_cell BK223.out 1).trans rfl
                            have hcz79_2 : w73.cell? ⟨gb223, 2, none⟩ = some (.int .i64 t234) := (blk_cell BK223.out 2).trans rfl
                            have hcz79_3 : w73.cell? ⟨gb223, 3, none⟩ = some (.int .i64 t235) := (blk_cell BK223.out 3).trans rfl
                            have hfz79_0 := blk_frozen BK223.out 0
                            have hfz79_1 := blk_frozen BK223.out 1
                            have hfz79_2 := blk_frozen BK223.out 2
                            have hfz79_3 := blk_frozen BK223.out 3
                            have hnb80 := NB229_215.out
                            have hnc80 := NB215_229.out
                            have hnb81 := NB229_231.out
                            have hnc81 := NB231_229.out
                            have hcz82_0 : w73.cell? ⟨gb229, 0, none⟩ = some (.int .i64 x230000_3) := (blk_cell BK229.out 0).trans rfl
                            have hcz82_1 : w73.cell? ⟨gb229, 1, none⟩ = some (.int .i64 x230001_3) := (blk_cell BK229.out 1).trans rfl
                            have hcz82_2 : w73.cell? ⟨gb229, 2, none⟩ = some (.int .i64 x230002_3) := (blk_cell BK229.out 2).trans rfl
                            have hcz82_3 : w73.cell? ⟨gb229, 3, none⟩ = some (.int .i64 x230003_3) := (blk_cell BK229.out 3).trans rfl
                            have hfz82_0 := blk_frozen BK229.out 0
                            have hfz82_1 := blk_frozen BK229.out 1
                            have hfz82_2 := blk_frozen BK229.out 2
                            have hfz82_3 := blk_frozen BK229.out 3
                            go_wp2
                            go_meet
                            case rel => exact ⟨_, (true), (by first | rfl | (simp; done) | (simp [*]; done)), H', ⟨by have := HJ4.out; have := HJ15.out; have := HK3.out; first | omega | exact Nat.le_refl _⟩, ⟨by (with_reducible repeat (first | refine blk_drewN ?_ _ | refine blk_drew ?_ | refine blk_alloc ?_ _)); refine blk_far ?_ NB215_229.out _; (with_reducible repeat (first | refine blk_drewN ?_ _ | refine blk_drew ?_ | refine blk_alloc ?_ _)); refine blk_far ?_ NB215_229.out _; (with_reducible repeat (first | refine blk_drewN ?_ _ | refine blk_drew ?_ | refine blk_alloc ?_ _)); refine blk_far ?_ NB215_229.out _; (with_reducible repeat (first | refine blk_drewN ?_ _ | refine blk_drew ?_ | refine blk_alloc ?_ _)); refine blk_far ?_ NB215_229.out _; (with_reducible repeat (first | refine blk_drewN ?_ _ | refine blk_drew ?_ | refine blk_alloc ?_ _)); exact BK215.out⟩, ⟨by (with_reducible repeat (first | refine blk_drewN ?_ _ | refine blk_drew ?_ | refine blk_alloc ?_ _)); refine blk_far ?_ NB223_229.out _; (with_reducible repeat (first | refine blk_drewN ?_ _ | refine blk_drew ?_ | refine blk_alloc ?_ _)); refine blk_far ?_ NB223_229.out _; (with_reducible repeat (first | refine blk_drewN ?_ _ | refine blk_drew ?_ | refine blk_alloc ?_ _)); refine blk_far ?_ NB223_229.out _; (with_reducible repeat (first | refine blk_drewN ?_ _ | refine blk_drew ?_ | refine blk_alloc ?_ _)); refine blk_far ?_ NB223_229.out _; (with_reducible repeat (first | refine blk_drewN ?_ _ | refine blk_drew ?_ | refine blk_alloc ?_ _)); exact BK223.out⟩, ⟨by (with_reducible repeat (first | refine blk_drewN ?_ _ | refine blk_drew ?_ | refine blk_alloc ?_ _)); refine blk_put (cs := #[.int .i64 t238, .int .i64 t239, .int .i64 t240, .int .i64 x230003_3]) ?_ 3 _ rfl; (with_reducible repeat (first | refine blk_drewN ?_ _ | refine blk_drew ?_ | refine blk_alloc ?_ _)); refine blk_put (cs := #[.int .i64 t238, .int .i64 t239, .int .i64 x230002_3, .int .i64 x230003_3]) ?_ 2 _ rfl; (with_reducible repeat (first | refine blk_drewN ?_ _ | refine blk_drew ?_ | refine blk_alloc ?_ _)); refine blk_put (cs := #[.int .i64 t238, .int .i64 x230001_3, .int .i64 x230002_3, .int .i64 x230003_3]) ?_ 1 _ rfl; (with_reducible repeat (first | refine blk_drewN ?_ _ | refine blk_drew ?_ | refine blk_alloc ?_ _)); refine blk_put (cs := #[.int .i64 x230000_3, .int .i64 x230001_3, .int .i64 x230002_3, .int .i64 x230003_3]) ?_ 0 _ rfl; (with_reducible repeat (first | refine blk_drewN ?_ _ | refine blk_drew ?_ | refine blk_alloc ?_ _)); exact BK229.out⟩, ⟨by (with_reducible repeat (first | refine blk_drewN ?_ _ | refine blk_drew ?_ | refine blk_alloc ?_ _)); refine blk_far ?_ NB231_229.out _; (with_reducible repeat (first | refine blk_drewN ?_ _ | refine blk_drew ?_ | refine blk_alloc ?_ _)); refine blk_far ?_ NB231_229.out _; (with_reducible repeat (first | refine blk_drewN ?_ _ | refine blk_drew ?_ | refine blk_alloc ?_ _)); refine blk_far ?_ NB231_229.out _; (with_reducible repeat (first | refine blk_drewN ?_ _ | refine blk_drew ?_ | refine blk_alloc ?_ _)); refine blk_far ?_ NB231_229.out _; (with_reducible repeat (first | refine blk_drewN ?_ _ | refine blk_drew ?_ | refine blk_alloc ?_ _)); exact BK231.out⟩, ⟨by repeat (first | (with_reducible first | exact HB.out | apply below_alloc | apply pw_below_drewN | apply below_drew1 | refine below_set ?_ GE215.out | refine below_set ?_ GE223.out | refine below_set ?_ GE229.out | refine below_set ?_ GE231.out) | exact HB.out)⟩⟩
                          · rw [if_neg c75] at H
                            have c75b0 : (!(t232 == t238) || (!(t233 == t239) || (!(t234 == t240) || (!(t235 == t241))))) = false := by simpa using c75
                            clear c75
                            (first | rw [c75b0] | (simp only [i64_w, i32_w]; rw [c75b0]) | skip)
                            by_cases c83 : (t236 != t242) = true
                            · rw [if_pos c83] at H
                              have c83b0 : (t236 != t242) = true := c83
                              (try (have c83b1 : decide (t236 = t242) = false := by simpa using c83))
                              (try (have c83b2 : (t236 == t242) = false := by simpa using c83))
                              (try (have c83b3 : ¬ (t236 = t242) := by simpa using c83))
                              clear c83
                              have H' := Aside0.mk H
                              clear H
                              have hnb84 := NB223_215.out
                              have hnc84 := NB215_223.out
                              have hnb85 := NB223_229.out
                              have hnc85 := NB229_223.out
                              have hnb86 := NB223_231.out
                              have hnc86 := NB231_223.out
                              have hcz87_0 : w73.cell? ⟨gb223, 0, none⟩ = some (.int .i64 t232) := (blk_cell BK223.out 0).trans rfl
                              have hcz87_1 : w73.cell? ⟨gb223, 1, none⟩ = some (.int .i64 t233) := (blk_cell BK223.out 1).trans rfl
                              have hcz87_2 : w73.cell? ⟨gb223, 2, none⟩ = some (.int .i64 t234) := (blk_cell BK223.out 2).trans rfl
                              have hcz87_3 : w73.cell? ⟨gb223, 3, none⟩ = some (.int .i64 t235) := (blk_cell BK223.out 3).trans rfl
                              have hfz87_0 := blk_frozen BK223.out 0
                              have hfz87_1 := blk_frozen BK223.out 1
                              have hfz87_2 := blk_frozen BK223.out 2
                              have hfz87_3 := blk_frozen BK223.out 3
                              have hnb88 := NB229_215.out
                              have hnc88 := NB215_229.out
                              have hnb89 := NB229_231.out
                              have hnc89 := NB231_229.out
                              have hcz90_0 : w73.cell? ⟨gb229, 0, none⟩ = some (.int .i64 x230000_3) := (blk_cell BK229.out 0).trans rfl
                              have hcz90_1 : w73.cell? ⟨gb229, 1, none⟩ = some (.int .i64 x230001_3) := (blk_cell BK229.out 1).trans rfl
                              have hcz90_2 : w73.cell? ⟨gb229, 2, none⟩ = some (.int .i64 x230002_3) := (blk_cell BK229.out 2).trans rfl
                              have hcz90_3 : w73.cell? ⟨gb229, 3, none⟩ = some (.int .i64 x230003_3) := (blk_cell BK229.out 3).trans rfl
                              have hfz90_0 := blk_frozen BK229.out 0
                              have hfz90_1 := blk_frozen BK229.out 1
                              have hfz90_2 := blk_frozen BK229.out 2
                              have hfz90_3 := blk_frozen BK229.out 3
                              go_wp2
                              go_meet
                              case rel => exact ⟨_, (true), (by first | rfl | (simp; done) | (simp [*]; done)), H', ⟨by have := HJ4.out; have := HJ15.out; have := HK3.out; first | omega | exact Nat.le_refl _⟩, ⟨by (with_reducible repeat (first | refine blk_drewN ?_ _ | refine blk_drew ?_ | refine blk_alloc ?_ _)); refine blk_far ?_ NB215_229.out _; (with_reducible repeat (first | refine blk_drewN ?_ _ | refine blk_drew ?_ | refine blk_alloc ?_ _)); refine blk_far ?_ NB215_229.out _; (with_reducible repeat (first | refine blk_drewN ?_ _ | refine blk_drew ?_ | refine blk_alloc ?_ _)); refine blk_far ?_ NB215_229.out _; (with_reducible repeat (first | refine blk_drewN ?_ _ | refine blk_drew ?_ | refine blk_alloc ?_ _)); refine blk_far ?_ NB215_229.out _; (with_reducible repeat (first | refine blk_drewN ?_ _ | refine blk_drew ?_ | refine blk_alloc ?_ _)); exact BK215.out⟩, ⟨by (with_reducible repeat (first | refine blk_drewN ?_ _ | refine blk_drew ?_ | refine blk_alloc ?_ _)); refine blk_far ?_ NB223_229.out _; (with_reducible repeat (first | refine blk_drewN ?_ _ | refine blk_drew ?_ | refine blk_alloc ?_ _)); refine blk_far ?_ NB223_229.out _; (with_reducible repeat (first | refine blk_drewN ?_ _ | refine blk_drew ?_ | refine blk_alloc ?_ _)); refine blk_far ?_ NB223_229.out _; (with_reducible repeat (first | refine blk_drewN ?_ _ | refine blk_drew ?_ | refine blk_alloc ?_ _)); refine blk_far ?_ NB223_229.out _; (with_reducible repeat (first | refine blk_drewN ?_ _ | refine blk_drew ?_ | refine blk_alloc ?_ _)); exact BK223.out⟩, ⟨by (with_reducible repeat (first | refine blk_drewN ?_ _ | refine blk_drew ?_ | refine blk_alloc ?_ _)); refine blk_put (cs := #[.int .i64 t238, .int .i64 t239, .int .i64 t240, .int .i64 x230003_3]) ?_ 3 _ rfl; (with_reducible repeat (first | refine blk_drewN ?_ _ | refine blk_drew ?_ | refine blk_alloc ?_ _)); refine blk_put (cs := #[.int .i64 t238, .int .i64 t239, .int .i64 x230002_3, .int .i64 x230003_3]) ?_ 2 _ rfl; (with_reducible repeat (first | refine blk_drewN ?_ _ | refine blk_drew ?_ | refine blk_alloc ?_ _)); refine blk_put (cs := #[.int .i64 t238, .int .i64 x230001_3, .int .i64 x230002_3, .int .i64 x230003_3]) ?_ 1 _ rfl; (with_reducible repeat (first | refine blk_drewN ?_ _ | refine blk_drew ?_ | refine blk_alloc ?_ _)); refine blk_put (cs := #[.int .i64 x230000_3, .int .i64 x230001_3, .int .i64 x230002_3, .int .i64 x230003_3]) ?_ 0 _ rfl; (with_reducible repeat (first | refine blk_drewN ?_ _ | refine blk_drew ?_ | refine blk_alloc ?_ _)); exact BK229.out⟩, ⟨by (with_reducible repeat (first | refine blk_drewN ?_ _ | refine blk_drew ?_ | refine blk_alloc ?_ _)); refine blk_far ?_ NB231_229.out _; (with_reducible repeat (first | refine blk_drewN ?_ _ | refine blk_drew ?_ | refine blk_alloc ?_ _)); refine blk_far ?_ NB231_229.out _; (with_reducible repeat (first | refine blk_drewN ?_ _ | refine blk_drew ?_ | refine blk_alloc ?_ _)); refine blk_far ?_ NB231_229.out _; (with_reducible repeat (first | refine blk_drewN ?_ _ | refine blk_drew ?_ | refine blk_alloc ?_ _)); refine blk_far ?_ NB231_229.out _; (with_reducible repeat (first | refine blk_drewN ?_ _ | refine blk_drew ?_ | refine blk_alloc ?_ _)); exact BK231.out⟩, ⟨by repeat (first | (with_reducible first | exact HB.out | apply below_alloc | apply pw_below_drewN | apply below_drew1 | refine below_set ?_ GE215.out | refine below_set ?_ GE223.out | refine below_set ?_ GE229.out | refine below_set ?_ GE231.out) | exact HB.out)⟩⟩
                            · rw [if_neg c83] at H
                              have c83b0 : (t236 != t242) = false := by simpa using c83
                              (try (have c83b1 : decide (t236 = t242) = true := by simpa using c83))
                              (try (have c83b2 : (t236 == t242) = true := by simpa using c83))
                              clear c83
                              have H' := Aside0.mk H
                              clear H
                              have hnb91 := NB223_215.out
                              have hnc91 := NB215_223.out
                              have hnb92 := NB223_229.out
                              have hnc92 := NB229_223.out
                              have hnb93 := NB223_231.out
                              have hnc93 := NB231_223.out
                              have hcz94_0 : w73.cell? ⟨gb223, 0, none⟩ = some (.int .i64 t232) := (blk_cell BK223.out 0).trans rfl
                              have hcz94_1 : w73.cell? ⟨gb223, 1, none⟩ = some (.int .i64 t233) := (blk_cell BK223.out 1).trans rfl
                              have hcz94_2 : w73.cell? ⟨gb223, 2, none⟩ = some (.int .i64 t234) := (blk_cell BK223.out 2).trans rfl
                              have hcz94_3 : w73.cell? ⟨gb223, 3, none⟩ = some (.int .i64 t235) := (blk_cell BK223.out 3).trans rfl
                              have hfz94_0 := blk_frozen BK223.out 0
                              have hfz94_1 := blk_frozen BK223.out 1
                              have hfz94_2 := blk_frozen BK223.out 2
                              have hfz94_3 := blk_frozen BK223.out 3
                              have hnb95 := NB229_215.out
                              have hnc95 := NB215_229.out
                              have hnb96 := NB229_231.out
                              have hnc96 := NB231_229.out
                              have hcz97_0 : w73.cell? ⟨gb229, 0, none⟩ = some (.int .i64 x230000_3) := (blk_cell BK229.out 0).trans rfl
                              have hcz97_1 : w73.cell? ⟨gb229, 1, none⟩ = some (.int .i64 x230001_3) := (blk_cell BK229.out 1).trans rfl
                              have hcz97_2 : w73.cell? ⟨gb229, 2, none⟩ = some (.int .i64 x230002_3) := (blk_cell BK229.out 2).trans rfl
                              have hcz97_3 : w73.cell? ⟨gb229, 3, none⟩ = some (.int .i64 x230003_3) := (blk_cell BK229.out 3).trans rfl
                              have hfz97_0 := blk_frozen BK229.out 0
                              have hfz97_1 := blk_frozen BK229.out 1
                              have hfz97_2 := blk_frozen BK229.out 2
                              have hfz97_3 := blk_frozen BK229.out 3
                              go_wp2
                              go_meet
                              case rel => exact ⟨_, ((t237 != t243)), (by first | rfl | (simp; done) | (simp [*]; done)), H', ⟨by have := HJ4.out; have := HJ15.out; have := HK3.out; first | omega | exact Nat.le_refl _⟩, ⟨by (with_reducible repeat (first | refine blk_drewN ?_ _ | refine blk_drew ?_ | refine blk_alloc ?_ _)); refine blk_far ?_ NB215_229.out _; (with_reducible repeat (first | refine blk_drewN ?_ _ | refine blk_drew ?_ | refine blk_alloc ?_ _)); refine blk_far ?_ NB215_229.out _; (with_reducible repeat (first | refine blk_drewN ?_ _ | refine blk_drew ?_ | refine blk_alloc ?_ _)); refine blk_far ?_ NB215_229.out _; (with_reducible repeat (first | refine blk_drewN ?_ _ | refine blk_drew ?_ | refine blk_alloc ?_ _)); refine blk_far ?_ NB215_229.out _; (with_reducible repeat (first | refine blk_drewN ?_ _ | refine blk_drew ?_ | refine blk_alloc ?_ _)); exact BK215.out⟩, ⟨by (with_reducible repeat (first | refine blk_drewN ?_ _ | refine blk_drew ?_ | refine blk_alloc ?_ _)); refine blk_far ?_ NB223_229.out _; (with_reducible repeat (first | refine blk_drewN ?_ _ | refine blk_drew ?_ | refine blk_alloc ?_ _)); refine blk_far ?_ NB223_229.out _; (with_reducible repeat (first | refine blk_drewN ?_ _ | refine blk_drew ?_ | refine blk_alloc ?_ _)); refine blk_far ?_ NB223_229.out _; (with_reducible repeat (first | refine blk_drewN ?_ _ | refine blk_drew ?_ | refine blk_alloc ?_ _)); refine blk_far ?_ NB223_229.out _; (with_reducible repeat (first | refine blk_drewN ?_ _ | refine blk_drew ?_ | refine blk_alloc ?_ _)); exact BK223.out⟩, ⟨by (with_reducible repeat (first | refine blk_drewN ?_ _ | refine blk_drew ?_ | refine blk_alloc ?_ _)); refine blk_put (cs := #[.int .i64 t238, .int .i64 t239, .int .i64 t240, .int .i64 x230003_3]) ?_ 3 _ rfl; (with_reducible repeat (first | refine blk_drewN ?_ _ | refine blk_drew ?_ | refine blk_alloc ?_ _)); refine blk_put (cs := #[.int .i64 t238, .int .i64 t239, .int .i64 x230002_3, .int .i64 x230003_3]) ?_ 2 _ rfl; (with_reducible repeat (first | refine blk_drewN ?_ _ | refine blk_drew ?_ | refine blk_alloc ?_ _)); refine blk_put (cs := #[.int .i64 t238, .int .i64 x230001_3, .int .i64 x230002_3, .int .i64 x230003_3]) ?_ 1 _ rfl; (with_reducible repeat (first | refine blk_drewN ?_ _ | refine blk_drew ?_ | refine blk_alloc ?_ _)); refine blk_put (cs := #[.int .i64 x230000_3, .int .i64 x230001_3, .int .i64 x230002_3, .int .i64 x230003_3]) ?_ 0 _ rfl; (with_reducible repeat (first | refine blk_drewN ?_ _ | refine blk_drew ?_ | refine blk_alloc ?_ _)); exact BK229.out⟩, ⟨by (with_reducible repeat (first | refine blk_drewN ?_ _ | refine blk_drew ?_ | refine blk_alloc ?_ _)); refine blk_far ?_ NB231_229.out _; (with_reducible repeat (first | refine blk_drewN ?_ _ | refine blk_drew ?_ | refine blk_alloc ?_ _)); refine blk_far ?_ NB231_229.out _; (with_reducible repeat (first | refine blk_drewN ?_ _ | refine blk_drew ?_ | refine blk_alloc ?_ _)); refine blk_far ?_ NB231_229.out _; (with_reducible repeat (first | refine blk_drewN ?_ _ | refine blk_drew ?_ | refine blk_alloc ?_ _)); refine blk_far ?_ NB231_229.out _; (with_reducible repeat (first | refine blk_drewN ?_ _ | refine blk_drew ?_ | refine blk_alloc ?_ _)); exact BK231.out⟩, ⟨by repeat (first | (with_reducible first | exact HB.out | apply below_alloc | apply pw_below_drewN | apply below_drew1 | refine below_set ?_ GE215.out | refine below_set ?_ GE223.out | refine below_set ?_ GE229.out | refine below_set ?_ GE231.out) | exact HB.out)⟩⟩
                        case rest =>
                          clear HC57
                          try clear c1
                          try clear c2
                          try clear p2
                          try clear q2
                          try clear hx2
                          try clear c3
                          try clear c4
                          try clear c5
                          try clear c6
                          try clear p6
                          try clear c7
                          try clear c8
                          try clear c9
                          try clear c10
                          try clear c11
                          try clear c12
                          try clear c13
                          try clear c20
                          try clear p23
                          try clear q23
                          try clear hx23
                          try clear c25
                          try clear c26
                          try clear c28
                          try clear c28b0
                          try clear c29
                          try clear c30
                          try clear c32
                          try clear c34
                          try clear c34b0
                          try clear c34b1
                          try clear c35
                          try clear c36
                          try clear c38
                          try clear c40
                          try clear c41
                          try clear c43
                          try clear c45
                          try clear c46
                          try clear c46b0
                          try clear c46b1
                          try clear c46b2
                          try clear c47
                          try clear c48
                          try clear c50
                          try clear c52
                          try clear c52b0
                          try clear c53
                          try clear c53b0
                          try clear c54
                          try clear c54b0
                          try clear c59
                          try clear c60
                          try clear c61
                          try clear c63
                          try clear c64
                          try clear p64
                          try clear c66
                          try clear c75
                          try clear c75b0
                          try clear c76
                          try clear c77
                          try clear c78
                          try clear c80
                          try clear c81
                          try clear c83
                          try clear c83b0
                          try clear c83b1
                          try clear c83b2
                          try clear c84
                          try clear c85
                          try clear c86
                          try clear c88
                          try clear c89
                          try clear c91
                          try clear c92
                          try clear c93
                          try clear c95
                          try clear c96
                          try clear hcz17_0
                          try clear hcz17_1
                          try clear hcz17_2
                          try clear hcz21_0
                          try clear hcz21_1
                          try clear hcz21_2
                          try clear hcz21_3
                          try clear hcz22_0
                          try clear hcz22_1
                          try clear hcz22_2
                          try clear hcz27_0
                          try clear hcz27_1
                          try clear hcz27_2
                          try clear hcz27_3
                          try clear hcz31_0
                          try clear hcz31_1
                          try clear hcz31_2
                          try clear hcz31_3
                          try clear hcz33_0
                          try clear hcz33_1
                          try clear hcz33_2
                          try clear hcz33_3
                          try clear hcz37_0
                          try clear hcz37_1
                          try clear hcz37_2
                          try clear hcz37_3
                          try clear hcz39_0
                          try clear hcz39_1
                          try clear hcz39_2
                          try clear hcz39_3
                          try clear hcz42_0
                          try clear hcz42_1
                          try clear hcz42_2
                          try clear hcz42_3
                          try clear hcz44_0
                          try clear hcz44_1
                          try clear hcz44_2
                          try clear hcz44_3
                          try clear hcz49_0
                          try clear hcz49_1
                          try clear hcz49_2
                          try clear hcz49_3
                          try clear hcz51_0
                          try clear hcz51_1
                          try clear hcz51_2
                          try clear hcz51_3
                          try clear hcz62_0
                          try clear hcz62_1
                          try clear hcz62_2
                          try clear hcz65_0
                          try clear hcz65_1
                          try clear hcz65_2
                          try clear hcz67_0
                          try clear hcz67_1
                          try clear hcz67_2
                          try clear hcz67_3
                          try clear hcz69_0
                          try clear hcz69_1
                          try clear hcz69_2
                          try clear hcz69_3
                          try clear hcz70_0
                          try clear hcz70_1
                          try clear hcz70_2
                          try clear hcz71_0
                          try clear hcz71_1
                          try clear hcz71_2
                          try clear hcz71_3
                          try clear hcz72_0
                          try clear hcz72_1
                          try clear hcz72_2
                          try clear hcz74_0
                          try clear hcz74_1
                          try clear hcz74_2
                          try clear hcz74_3
                          try clear hcz79_0
                          try clear hcz79_1
                          try clear hcz79_2
                          try clear hcz79_3
                          try clear hcz82_0
                          try clear hcz82_1
                          try clear hcz82_2
                          try clear hcz82_3
                          try clear hcz87_0
                          try clear hcz87_1
                          try clear hcz87_2
                          try clear hcz87_3
                          try clear hcz90_0
                          try clear hcz90_1
                          try clear hcz90_2
                          try clear hcz90_3
                          try clear hcz94_0
                          try clear hcz94_1
                          try clear hcz94_2
                          try clear hcz94_3
                          try clear hcz97_0
                          try clear hcz97_1
                          try clear hcz97_2
                          try clear hcz97_3
                          try clear hfz17_0
                          try clear hfz17_1
                          try clear hfz17_2
                          try clear hfz21_0
                          try clear hfz21_1
                          try clear hfz21_2
                          try clear hfz21_3
                          try clear hfz22_0
                          try clear hfz22_1
                          try clear hfz22_2
                          try clear hfz27_0
                          try clear hfz27_1
                          try clear hfz27_2
                          try clear hfz27_3
                          try clear hfz31_0
                          try clear hfz31_1
                          try clear hfz31_2
                          try clear hfz31_3
                          try clear hfz33_0
                          try clear hfz33_1
                          try clear hfz33_2
                          try clear hfz33_3
                          try clear hfz37_0
                          try clear hfz37_1
                          try clear hfz37_2
                          try clear hfz37_3
                          try clear hfz39_0
                          try clear hfz39_1
                          try clear hfz39_2
                          try clear hfz39_3
                          try clear hfz42_0
                          try clear hfz42_1
                          try clear hfz42_2
                          try clear hfz42_3
                          try clear hfz44_0
                          try clear hfz44_1
                          try clear hfz44_2
                          try clear hfz44_3
                          try clear hfz49_0
                          try clear hfz49_1
                          try clear hfz49_2
                          try clear hfz49_3
                          try clear hfz51_0
                          try clear hfz51_1
                          try clear hfz51_2
                          try clear hfz51_3
                          try clear hfz62_0
                          try clear hfz62_1
                          try clear hfz62_2
                          try clear hfz65_0
                          try clear hfz65_1
                          try clear hfz65_2
                          try clear hfz67_0
                          try clear hfz67_1
                          try clear hfz67_2
                          try clear hfz67_3
                          try clear hfz69_0
                          try clear hfz69_1
                          try clear hfz69_2
                          try clear hfz69_3
                          try clear hfz70_0
                          try clear hfz70_1
                          try clear hfz70_2
                          try clear hfz71_0
                          try clear hfz71_1
                          try clear hfz71_2
                          try clear hfz71_3
                          try clear hfz72_0
                          try clear hfz72_1
                          try clear hfz72_2
                          try clear hfz74_0
                          try clear hfz74_1
                          try clear hfz74_2
                          try clear hfz74_3
                          try clear hfz79_0
                          try clear hfz79_1
                          try clear hfz79_2
                          try clear hfz79_3
                          try clear hfz82_0
                          try clear hfz82_1
                          try clear hfz82_2
                          try clear hfz82_3
                          try clear hfz87_0
                          try clear hfz87_1
                          try clear hfz87_2
                          try clear hfz87_3
                          try clear hfz90_0
                          try clear hfz90_1
                          try clear hfz90_2
                          try clear hfz90_3
                          try clear hfz94_0
                          try clear hfz94_1
                          try clear hfz94_2
                          try clear hfz94_3
                          try clear hfz97_0
                          try clear hfz97_1
                          try clear hfz97_2
                          try clear hfz97_3
                          try clear hx230_0
                          try clear hx230_1
                          try clear hx230_2
                          try clear p2
                          try clear p230
                          try clear q230
                          obtain ⟨kq, x102_56, rfl, HA, HJ56, BK215, BK223, BK229, BK231, HB⟩ := hcut
                          cases kq with
                          | zero => exact absurd HA.out (by simp [hopmeshlaw47_GossipRuns.j3])
                          | succ kj56 =>
                            have H := HA.out
                            clear HA
                            simp only [hopmeshlaw47_GossipRuns.j3] at H
                            by_cases c98 : x102_56 = true
                            · subst c98
                              have H1 : (some false) = some r := by rw [if_pos rfl] at H; exact H
                              clear H
                              have H := H1
                              clear H1
                              exact absurd (H.trans (congrArg some HRT.out)) (by simp)
                            · replace c98 := Bool.eq_false_iff.mpr c98
                              subst c98
                              have H1 : (if t237 = 0 then (hopmeshlaw47_GossipRuns.j4 kj56 a1 t237 t243 x61_3 l3 (l3.length : Int) x61_3 ((rd_T33 l3 x61_3).f0) a0_0 a0_1 a0_2 t232 t233 t234 t235 t238 t239 t240 t241 ((rd_T33 l3 x61_3).f0) ((rd_T33 l3 x61_3).f1) ((rd_T33 l3 x61_3).f2)) else (hopmeshlaw47_GossipRuns.j4 kj56 a1 t237 t243 x61_3 l3 (l3.length : Int) x61_3 false a0_0 a0_1 a0_2 t232 t233 t234 t235 t238 t239 t240 t241 ((rd_T33 l3 x61_3).f0) ((rd_T33 l3 x61_3).f1) ((rd_T33 l3 x61_3).f2))) = some r := by rw [if_neg (show ¬ (false = true) by decide)] at H; exact H
                              clear H
                              have H := H1
                              clear H1
                              have HC99 := Aside0.mk H
                              clear H
                              go_upto_region 15 with (fail)
                              go_cut [108] (fun v108 wc => ∃ (kq : Nat) (x108_98 : Bool), v108 = .bool x108_98 ∧ Aside0 (hopmeshlaw47_GossipRuns.j4 kq a1 t237 t243 x61_3 l3 (l3.length : Int) x61_3 x108_98 a0_0 a0_1 a0_2 t232 t233 t234 t235 t238 t239 t240 t241 ((rd_T33 l3 x61_3).f0) ((rd_T33 l3 x61_3).f1) ((rd_T33 l3 x61_3).f2) = some r) ∧ Aside0 (kq ≤ kj56) ∧ Aside0 (wc.heap[gb215]? = some (.cells #[.int .i64 a0_0, .int .i64 a0_1, .int .i64 a0_2] 23 (0, 0))) ∧ Aside0 (wc.heap[gb223]? = some (.cells #[.int .i64 t232, .int .i64 t233, .int .i64 t234, .int .i64 t235] 28 (0, 0))) ∧ Aside0 (wc.heap[gb229]? = some (.cells #[.int .i64 t238, .int .i64 t239, .int .i64 t240, .int .i64 t241] 28 (0, 0))) ∧ Aside0 (wc.heap[gb231]? = some (.cells #[.bool ((rd_T33 l3 x61_3).f0), .bool ((rd_T33 l3 x61_3).f1), .int .u32 ((rd_T33 l3 x61_3).f2)] 33 (0, 0))) ∧ Aside0 (Below w.heap.size w wc))
                              case first =>
                                have H := HC99.out
                                clear HC99
                                by_cases c100 : t237 = 0
                                · rw [if_pos c100] at H
                                  have c100b0 : (t237 == 0) = true := beq_iff_eq.mpr c100
                                  have c100b1 : (t237 != 0) = false := bne_eq_false_iff_eq.mpr c100
                                  clear c100
                                  (first | rw [c100b0] | (simp only [i64_w, i32_w]; rw [c100b0]) | skip)
                                  have H' := Aside0.mk H
                                  clear H
                                  have hnb101 := NB231_215.out
                                  have hnc101 := NB215_231.out
                                  have hnb102 := NB231_223.out
                                  have hnc102 := NB223_231.out
                                  have hnb103 := NB231_229.out
                                  have hnc103 := NB229_231.out
                                  have hcz104_0 : wc.cell? ⟨gb231, 0, none⟩ = some (.bool ((rd_T33 l3 x61_3).f0)) := (blk_cell BK231.out 0).trans rfl
                                  have hcz104_1 : wc.cell? ⟨gb231, 1, none⟩ = some (.bool ((rd_T33 l3 x61_3).f1)) := (blk_cell BK231.out 1).trans rfl
                                  have hcz104_2 : wc.cell? ⟨gb231, 2, none⟩ = some (.int .u32 ((rd_T33 l3 x61_3).f2)) := (blk_cell BK231.out 2).trans rfl
                                  have hfz104_0 := blk_frozen BK231.out 0
                                  have hfz104_1 := blk_frozen BK231.out 1
                                  have hfz104_2 := blk_frozen BK231.out 2
                                  go_wp2
                                  go_meet
                                  case rel => exact ⟨_, (((rd_T33 l3 x61_3).f0)), (by first | rfl | (simp; done) | (simp [*]; done)), H', ⟨by have := HJ4.out; have := HJ15.out; have := HK3.out; have := HJ56.out; first | omega | exact Nat.le_refl _⟩, ⟨by (with_reducible repeat (first | refine blk_drewN ?_ _ | refine blk_drew ?_ | refine blk_alloc ?_ _)); exact BK215.out⟩, ⟨by (with_reducible repeat (first | refine blk_drewN ?_ _ | refine blk_drew ?_ | refine blk_alloc ?_ _)); exact BK223.out⟩, ⟨by (with_reducible repeat (first | refine blk_drewN ?_ _ | refine blk_drew ?_ | refine blk_alloc ?_ _)); exact BK229.out⟩, ⟨by (with_reducible repeat (first | refine blk_drewN ?_ _ | refine blk_drew ?_ | refine blk_alloc ?_ _)); exact BK231.out⟩, ⟨by repeat (first | (with_reducible first | exact HB.out | apply below_alloc | apply pw_below_drewN | apply below_drew1 | refine below_set ?_ GE215.out | refine below_set ?_ GE223.out | refine below_set ?_ GE229.out | refine below_set ?_ GE231.out) | exact HB.out)⟩⟩
                                · rw [if_neg c100] at H
                                  have c100b0 : (t237 == 0) = false := beq_eq_false_iff_ne.mpr c100
                                  have c100b1 : (t237 != 0) = true := bne_iff_ne.mpr c100
                                  (first | rw [c100b0] | (simp only [i64_w, i32_w]; rw [c100b0]) | skip)
                                  have H' := Aside0.mk H
                                  clear H
                                  go_wp2
                                  go_meet
                                  case rel => exact ⟨_, (false), (by first | rfl | (simp; done) | (simp [*]; done)), H', ⟨by have := HJ4.out; have := HJ15.out; have := HK3.out; have := HJ56.out; first | omega | exact Nat.le_refl _⟩, ⟨by (with_reducible repeat (first | refine blk_drewN ?_ _ | refine blk_drew ?_ | refine blk_alloc ?_ _)); exact BK215.out⟩, ⟨by (with_reducible repeat (first | refine blk_drewN ?_ _ | refine blk_drew ?_ | refine blk_alloc ?_ _)); exact BK223.out⟩, ⟨by (with_reducible repeat (first | refine blk_drewN ?_ _ | refine blk_drew ?_ | refine blk_alloc ?_ _)); exact BK229.out⟩, ⟨by (with_reducible repeat (first | refine blk_drewN ?_ _ | refine blk_drew ?_ | refine blk_alloc ?_ _)); exact BK231.out⟩, ⟨by repeat (first | (with_reducible first | exact HB.out | apply below_alloc | apply pw_below_drewN | apply below_drew1 | refine below_set ?_ GE215.out | refine below_set ?_ GE223.out | refine below_set ?_ GE229.out | refine below_set ?_ GE231.out) | exact HB.out)⟩⟩
                              case rest =>
                                clear HC99
                                try clear c1
                                try clear c2
                                try clear p2
                                try clear q2
                                try clear hx2
                                try clear c3
                                try clear c4
                                try clear c5
                                try clear c6
                                try clear p6
                                try clear c7
                                try clear c8
                                try clear c9
                                try clear c10
                                try clear c11
                                try clear c12
                                try clear c13
                                try clear c20
                                try clear p23
                                try clear q23
                                try clear hx23
                                try clear c25
                                try clear c26
                                try clear c28
                                try clear c28b0
                                try clear c29
                                try clear c30
                                try clear c32
                                try clear c34
                                try clear c34b0
                                try clear c34b1
                                try clear c35
                                try clear c36
                                try clear c38
                                try clear c40
                                try clear c41
                                try clear c43
                                try clear c45
                                try clear c46
                                try clear c46b0
                                try clear c46b1
                                try clear c46b2
                                try clear c47
                                try clear c48
                                try clear c50
                                try clear c52
                                try clear c52b0
                                try clear c53
                                try clear c53b0
                                try clear c54
                                try clear c54b0
                                try clear c59
                                try clear c60
                                try clear c61
                                try clear c63
                                try clear c64
                                try clear p64
                                try clear c66
                                try clear c75
                                try clear c75b0
                                try clear c76
                                try clear c77
                                try clear c78
                                try clear c80
                                try clear c81
                                try clear c83
                                try clear c83b0
                                try clear c83b1
                                try clear c83b2
                                try clear c84
                                try clear c85
                                try clear c86
                                try clear c88
                                try clear c89
                                try clear c91
                                try clear c92
                                try clear c93
                                try clear c95
                                try clear c96
                                try clear c98
                                try clear c100
                                try clear c100b0
                                try clear c100b1
                                try clear c101
                                try clear c102
                                try clear c103
                                try clear hcz104_0
                                try clear hcz104_1
                                try clear hcz104_2
                                try clear hcz17_0
                                try clear hcz17_1
                                try clear hcz17_2
                                try clear hcz21_0
                                try clear hcz21_1
                                try clear hcz21_2
                                try clear hcz21_3
                                try clear hcz22_0
                                try clear hcz22_1
                                try clear hcz22_2
                                try clear hcz27_0
                                try clear hcz27_1
                                try clear hcz27_2
                                try clear hcz27_3
                                try clear hcz31_0
                                try clear hcz31_1
                                try clear hcz31_2
                                try clear hcz31_3
                                try clear hcz33_0
                                try clear hcz33_1
                                try clear hcz33_2
                                try clear hcz33_3
                                try clear hcz37_0
                                try clear hcz37_1
                                try clear hcz37_2
                                try clear hcz37_3
                                try clear hcz39_0
                                try clear hcz39_1
                                try clear hcz39_2
                                try clear hcz39_3
                                try clear hcz42_0
                                try clear hcz42_1
                                try clear hcz42_2
                                try clear hcz42_3
                                try clear hcz44_0
                                try clear hcz44_1
                                try clear hcz44_2
                                try clear hcz44_3
                                try clear hcz49_0
                                try clear hcz49_1
                                try clear hcz49_2
                                try clear hcz49_3
                                try clear hcz51_0
                                try clear hcz51_1
                                try clear hcz51_2
                                try clear hcz51_3
                                try clear hcz62_0
                                try clear hcz62_1
                                try clear hcz62_2
                                try clear hcz65_0
                                try clear hcz65_1
                                try clear hcz65_2
                                try clear hcz67_0
                                try clear hcz67_1
                                try clear hcz67_2
                                try clear hcz67_3
                                try clear hcz69_0
                                try clear hcz69_1
                                try clear hcz69_2
                                try clear hcz69_3
                                try clear hcz70_0
                                try clear hcz70_1
                                try clear hcz70_2
                                try clear hcz71_0
                                try clear hcz71_1
                                try clear hcz71_2
                                try clear hcz71_3
                                try clear hcz72_0
                                try clear hcz72_1
                                try clear hcz72_2
                                try clear hcz74_0
                                try clear hcz74_1
                                try clear hcz74_2
                                try clear hcz74_3
                                try clear hcz79_0
                                try clear hcz79_1
                                try clear hcz79_2
                                try clear hcz79_3
                                try clear hcz82_0
                                try clear hcz82_1
                                try clear hcz82_2
                                try clear hcz82_3
                                try clear hcz87_0
                                try clear hcz87_1
                                try clear hcz87_2
                                try clear hcz87_3
                                try clear hcz90_0
                                try clear hcz90_1
                                try clear hcz90_2
                                try clear hcz90_3
                                try clear hcz94_0
                                try clear hcz94_1
                                try clear hcz94_2
                                try clear hcz94_3
                                try clear hcz97_0
                                try clear hcz97_1
                                try clear hcz97_2
                                try clear hcz97_3
                                try clear hfz104_0
                                try clear hfz104_1
                                try clear hfz104_2
                                try clear hfz17_0
                                try clear hfz17_1
                                try clear hfz17_2
                                try clear hfz21_0
                                try clear hfz21_1
                                try clear hfz21_2
                                try clear hfz21_3
                                try clear hfz22_0
                                try clear hfz22_1
                                try clear hfz22_2
                                try clear hfz27_0
                                try clear hfz27_1
                                try clear hfz27_2
                                try clear hfz27_3
                                try clear hfz31_0
                                try clear hfz31_1
                                try clear hfz31_2
                                try clear hfz31_3
                                try clear hfz33_0
                                try clear hfz33_1
                                try clear hfz33_2
                                try clear hfz33_3
                                try clear hfz37_0
                                try clear hfz37_1
                                try clear hfz37_2
                                try clear hfz37_3
                                try clear hfz39_0
                                try clear hfz39_1
                                try clear hfz39_2
                                try clear hfz39_3
                                try clear hfz42_0
                                try clear hfz42_1
                                try clear hfz42_2
                                try clear hfz42_3
                                try clear hfz44_0
                                try clear hfz44_1
                                try clear hfz44_2
                                try clear hfz44_3
                                try clear hfz49_0
                                try clear hfz49_1
                                try clear hfz49_2
                                try clear hfz49_3
                                try clear hfz51_0
                                try clear hfz51_1
                                try clear hfz51_2
                                try clear hfz51_3
                                try clear hfz62_0
                                try clear hfz62_1
                                try clear hfz62_2
                                try clear hfz65_0
                                try clear hfz65_1
                                try clear hfz65_2
                                try clear hfz67_0
                                try clear hfz67_1
                                try clear hfz67_2
                                try clear hfz67_3
                                try clear hfz69_0
                                try clear hfz69_1
                                try clear hfz69_2
                                try clear hfz69_3
                                try clear hfz70_0
                                try clear hfz70_1
                                try clear hfz70_2
                                try clear hfz71_0
                                try clear hfz71_1
                                try clear hfz71_2
                                try clear hfz71_3
                                try clear hfz72_0
                                try clear hfz72_1
                                try clear hfz72_2
                                try clear hfz74_0
                                try clear hfz74_1
                                try clear hfz74_2
                                try clear hfz74_3
                                try clear hfz79_0
                                try clear hfz79_1
                                try clear hfz79_2
                                try clear hfz79_3
                                try clear hfz82_0
                                try clear hfz82_1
                                try clear hfz82_2
                                try clear hfz82_3
                                try clear hfz87_0
                                try clear hfz87_1
                                try clear hfz87_2
                                try clear hfz87_3
                                try clear hfz90_0
                                try clear hfz90_1
                                try clear hfz90_2
                                try clear hfz90_3
                                try clear hfz94_0
                                try clear hfz94_1
                                try clear hfz94_2
                                try clear hfz94_3
                                try clear hfz97_0
                                try clear hfz97_1
                                try clear hfz97_2
                                try clear hfz97_3
                                try clear hx230_0
                                try clear hx230_1
                                try clear hx230_2
                                try clear p2
                                try clear p23
                                try clear p230
                                try clear p6
                                try clear p64
                                try clear q2
                                try clear q23
                                try clear q230
                                obtain ⟨kq, x108_98, rfl, HA, HJ98, BK215, BK223, BK229, BK231, HB⟩ := hcut
                                cases kq with
                                | zero => exact absurd HA.out (by simp [hopmeshlaw47_GossipRuns.j4])
                                | succ kj98 =>
                                  have H := HA.out
                                  clear HA
                                  simp only [hopmeshlaw47_GossipRuns.j4] at H
                                  by_cases c105 : x108_98 = true
                                  · subst c105
                                    have H1 : ((gossip_Hear.f kj98 a0_0 a0_1 a0_2 t232 t233 t234 t235 ((rd_T33 l3 x61_3).f1) (wrap64 (a1 + x61_3)) ((rd_T33 l3 x61_3).f2)).bind fun bt244 => ((hopmeshref47_Hear.f kj98 a0_0 a0_1 a0_2 t238 t239 t240 t241 ((rd_T33 l3 x61_3).f1) (wrap64 (a1 + x61_3)) ((rd_T33 l3 x61_3).f2)).bind fun bt249 => (if (!(bt244.1 == bt249.1) || (!(bt244.2.1 == bt249.2.1) || (!(bt244.2.2.1 == bt249.2.2.1) || (!(bt244.2.2.2.1 == bt249.2.2.2.1))))) = true then (some false) else (if bt244.2.2.2.2 = bt249.2.2.2.2 then (if bt244.2.2.2.2 = 0 then (hopmeshlaw47_GossipRuns.l0 kj98 a1 l3 (l3.length : Int) (wrap64 (x61_3 + 1)) a0_0 a0_1 a0_2 bt244.1 bt244.2.1 bt244.2.2.1 bt244.2.2.2.1 bt249.1 bt249.2.1 bt249.2.2.1 bt249.2.2.2.1) else (some true)) else (some false))))) = some r := by rw [if_pos rfl] at H; exact H
                                    clear H
                                    have H := H1
                                    clear H1
                                    replace H := Option.bind_eq_some_iff.mp H
                                    obtain ⟨⟨t244, t245, t246, t247, t248⟩, A1060, H⟩ := H
                                    replace H : ((hopmeshref47_Hear.f kj98 a0_0 a0_1 a0_2 t238 t239 t240 t241 ((rd_T33 l3 x61_3).f1) (wrap64 (a1 + x61_3)) ((rd_T33 l3 x61_3).f2)).bind fun bt249 => (if (!(t244 == bt249.1) || (!(t245 == bt249.2.1) || (!(t246 == bt249.2.2.1) || (!(t247 == bt249.2.2.2.1))))) = true then (some false) else (if t248 = bt249.2.2.2.2 then (if t248 = 0 then (hopmeshlaw47_GossipRuns.l0 kj98 a1 l3 (l3.length : Int) (wrap64 (x61_3 + 1)) a0_0 a0_1 a0_2 t244 t245 t246 t247 bt249.1 bt249.2.1 bt249.2.2.1 bt249.2.2.2.1) else (some true)) else (some false)))) = some r := H
                                    have A106 := Aside0.mk A1060
                                    clear A1060
                                    replace H := Option.bind_eq_some_iff.mp H
                                    obtain ⟨⟨t249, t250, t251, t252, t253⟩, A1070, H⟩ := H
                                    replace H : (if (!(t244 == t249) || (!(t245 == t250) || (!(t246 == t251) || (!(t247 == t252))))) = true then (some false) else (if t248 = t253 then (if t248 = 0 then (hopmeshlaw47_GossipRuns.l0 kj98 a1 l3 (l3.length : Int) (wrap64 (x61_3 + 1)) a0_0 a0_1 a0_2 t244 t245 t246 t247 t249 t250 t251 t252) else (some true)) else (some false))) = some r := H
                                    have A107 := Aside0.mk A1070
                                    clear A1070
                                    by_cases c108 : (!(t244 == t249) || (!(t245 == t250) || (!(t246 == t251) || (!(t247 == t252))))) = true
                                    · rw [if_pos c108] at H
                                      have c108b0 : (!(t244 == t249) || (!(t245 == t250) || (!(t246 == t251) || (!(t247 == t252))))) = true := c108
                                      clear c108
                                      exact absurd (H.trans (congrArg some HRT.out)) (by simp)
                                    · rw [if_neg c108] at H
                                      have c108b0 : (!(t244 == t249) || (!(t245 == t250) || (!(t246 == t251) || (!(t247 == t252))))) = false := by simpa using c108
                                      clear c108
                                      by_cases c109 : t248 = t253
                                      · rw [if_pos c109] at H
                                        have c109b0 : (t248 == t253) = true := beq_iff_eq.mpr c109
                                        have c109b1 : (t248 != t253) = false := bne_eq_false_iff_eq.mpr c109
                                        clear c109
                                        by_cases c110 : t248 = 0
                                        · rw [if_pos c110] at H
                                          have c110b0 : (t248 == 0) = true := beq_iff_eq.mpr c110
                                          have c110b1 : (t248 != 0) = false := bne_eq_false_iff_eq.mpr c110
                                          clear c110
                                          have H' := Aside0.mk H
                                          clear H
                                          have hnb111 := NB215_223.out
                                          have hnc111 := NB223_215.out
                                          have hnb112 := NB215_229.out
                                          have hnc112 := NB229_215.out
                                          have hnb113 := NB215_231.out
                                          have hnc113 := NB231_215.out
                                          have hcz114_0 : wc.cell? ⟨gb215, 0, none⟩ = some (.int .i64 a0_0) := (blk_cell BK215.out 0).trans rfl
                                          have hcz114_1 : wc.cell? ⟨gb215, 1, none⟩ = some (.int .i64 a0_1) := (blk_cell BK215.out 1).trans rfl
                                          have hcz114_2 : wc.cell? ⟨gb215, 2, none⟩ = some (.int .i64 a0_2) := (blk_cell BK215.out 2).trans rfl
                                          have hfz114_0 := blk_frozen BK215.out 0
                                          have hfz114_1 := blk_frozen BK215.out 1
                                          have hfz114_2 := blk_frozen BK215.out 2
                                          have hnb115 := NB223_229.out
                                          have hnc115 := NB229_223.out
                                          have hnb116 := NB223_231.out
                                          have hnc116 := NB231_223.out
                                          have hcz117_0 : wc.cell? ⟨gb223, 0, none⟩ = some (.int .i64 t232) := (blk_cell BK223.out 0).trans rfl
                                          have hcz117_1 : wc.cell? ⟨gb223, 1, none⟩ = some (.int .i64 t233) := (blk_cell BK223.out 1).trans rfl
                                          have hcz117_2 : wc.cell? ⟨gb223, 2, none⟩ = some (.int .i64 t234) := (blk_cell BK223.out 2).trans rfl
                                          have hcz117_3 : wc.cell? ⟨gb223, 3, none⟩ = some (.int .i64 t235) := (blk_cell BK223.out 3).trans rfl
                                          have hfz117_0 := blk_frozen BK223.out 0
                                          have hfz117_1 := blk_frozen BK223.out 1
                                          have hfz117_2 := blk_frozen BK223.out 2
                                          have hfz117_3 := blk_frozen BK223.out 3
                                          have hnb118 := NB231_229.out
                                          have hnc118 := NB229_231.out
                                          have hcz119_0 : wc.cell? ⟨gb231, 0, none⟩ = some (.bool ((rd_T33 l3 x61_3).f0)) := (blk_cell BK231.out 0).trans rfl
                                          have hcz119_1 : wc.cell? ⟨gb231, 1, none⟩ = some (.bool ((rd_T33 l3 x61_3).f1)) := (blk_cell BK231.out 1).trans rfl
                                          have hcz119_2 : wc.cell? ⟨gb231, 2, none⟩ = some (.int .u32 ((rd_T33 l3 x61_3).f2)) := (blk_cell BK231.out 2).trans rfl
                                          have hfz119_0 := blk_frozen BK231.out 0
                                          have hfz119_1 := blk_frozen BK231.out 1
                                          have hfz119_2 := blk_frozen BK231.out 2
                                          go_wp2_with (first | ((with_reducible refine gate_callee (f := 14) rfl ?_); refine goesL_ (some 119) rfl rfl Try.func14 (by kernel_rfl) rfl #[.agg #[.int .i64 a0_0, .int .i64 a0_1, .int .i64 a0_2], .agg #[.int .i64 t232, .int .i64 t233, .int .i64 t234, .int .i64 t235], .bool ((rd_T33 l3 x61_3).f1), .int .i64 (wrap64 (a1 + x61_3)), .int .u32 ((rd_T33 l3 x61_3).f2)] rfl (by (try simp only [List.map_toArray, List.map_cons, List.map_nil]); first | done | rfl | (simp only [List.length_drop, List.length_take]; rfl)) ?_; (with_reducible refine (gossip_Hear.calls kj98 a0_0 a0_1 a0_2 t232 t233 t234 t235 ((rd_T33 l3 x61_3).f1) (wrap64 (a1 + x61_3)) ((rd_T33 l3 x61_3).f2) t244 t245 t246 t247 t248 _ A106.out).mono ?_); rintro e w120 ⟨rfl, hb⟩; refine ⟨_, rfl, ?_⟩; have n0_ := Aside0.mk (blk_below (g := gb215) (o := .cells #[.int .i64 a0_0, .int .i64 a0_1, .int .i64 a0_2] 23 (0, 0)) (by (with_reducible repeat (first | refine blk_drewN ?_ _ | refine blk_drew ?_ | refine blk_alloc ?_ _)); exact BK215.out) hb); have n1_ := Aside0.mk (blk_below (g := gb223) (o := .cells #[.int .i64 t232, .int .i64 t233, .int .i64 t234, .int .i64 t235] 28 (0, 0)) (by (with_reducible repeat (first | refine blk_drewN ?_ _ | refine blk_drew ?_ | refine blk_alloc ?_ _)); exact BK223.out) hb); have n2_ := Aside0.mk (blk_below (g := gb229) (o := .cells #[.int .i64 t238, .int .i64 t239, .int .i64 t240, .int .i64 t241] 28 (0, 0)) (by (with_reducible repeat (first | refine blk_drewN ?_ _ | refine blk_drew ?_ | refine blk_alloc ?_ _)); exact BK229.out) hb); have n3_ := Aside0.mk (blk_below (g := gb231) (o := .cells #[.bool ((rd_T33 l3 x61_3).f0), .bool ((rd_T33 l3 x61_3).f1), .int .u32 ((rd_T33 l3 x61_3).f2)] 33 (0, 0)) (by (with_reducible repeat (first | refine blk_drewN ?_ _ | refine blk_drew ?_ | refine blk_alloc ?_ _)); exact BK231.out) hb); have n4_ := Aside0.mk (below_step (by repeat (first | (with_reducible first | exact HB.out | apply below_alloc | apply pw_below_drewN | apply below_drew1 | refine below_set ?_ GE215.out | refine below_set ?_ GE223.out | refine below_set ?_ GE229.out | refine below_set ?_ GE231.out) | exact HB.out)) hb); clear BK215; clear BK223; clear BK229; clear BK231; clear HB; have BK215 := n0_; have BK223 := n1_; have BK229 := n2_; have BK231 := n3_; have HB := n4_; clear n0_ n1_ n2_ n3_ n4_; (try clear hb); (try clear hb2); (try clear hk); (try clear hi); have hcz121_0 : w120.cell? ⟨gb223, 0, none⟩ = some (.int .i64 t232) := (blk_cell BK223.out 0).trans rfl; have hcz121_1 : w120.cell? ⟨gb223, 1, none⟩ = some (.int .i64 t233) := (blk_cell BK223.out 1).trans rfl; have hcz121_2 : w120.cell? ⟨gb223, 2, none⟩ = some (.int .i64 t234) := (blk_cell BK223.out 2).trans rfl; have hcz121_3 : w120.cell? ⟨gb223, 3, none⟩ = some (.int .i64 t235) := (blk_cell BK223.out 3).trans rfl; have hfz121_0 := blk_frozen BK223.out 0; have hfz121_1 := blk_frozen BK223.out 1; have hfz121_2 := blk_frozen BK223.out 2; have hfz121_3 := blk_frozen BK223.out 3; have hcz122_0 : w120.cell? ⟨gb215, 0, none⟩ = some (.int .i64 a0_0) := (blk_cell BK215.out 0).trans rfl; have hcz122_1 : w120.cell? ⟨gb215, 1, none⟩ = some (.int .i64 a0_1) := (blk_cell BK215.out 1).trans rfl; have hcz122_2 : w120.cell? ⟨gb215, 2, none⟩ = some (.int .i64 a0_2) := (blk_cell BK215.out 2).trans rfl; have hfz122_0 := blk_frozen BK215.out 0; have hfz122_1 := blk_frozen BK215.out 1; have hfz122_2 := blk_frozen BK215.out 2; have hcz123_0 : w120.cell? ⟨gb229, 0, none⟩ = some (.int .i64 t238) := (blk_cell BK229.out 0).trans rfl; have hcz123_1 : w120.cell? ⟨gb229, 1, none⟩ = some (.int .i64 t239) := (blk_cell BK229.out 1).trans rfl; have hcz123_2 : w120.cell? ⟨gb229, 2, none⟩ = some (.int .i64 t240) := (blk_cell BK229.out 2).trans rfl; have hcz123_3 : w120.cell? ⟨gb229, 3, none⟩ = some (.int .i64 t241) := (blk_cell BK229.out 3).trans rfl; have hfz123_0 := blk_frozen BK229.out 0; have hfz123_1 := blk_frozen BK229.out 1; have hfz123_2 := blk_frozen BK229.out 2; have hfz123_3 := blk_frozen BK229.out 3; have hcz124_0 : w120.cell? ⟨gb231, 0, none⟩ = some (.bool ((rd_T33 l3 x61_3).f0)) := (blk_cell BK231.out 0).trans rfl; have hcz124_1 : w120.cell? ⟨gb231, 1, none⟩ = some (.bool ((rd_T33 l3 x61_3).f1)) := (blk_cell BK231.out 1).trans rfl; have hcz124_2 : w120.cell? ⟨gb231, 2, none⟩ = some (.int .u32 ((rd_T33 l3 x61_3).f2)) := (blk_cell BK231.out 2).trans rfl; have hfz124_0 := blk_frozen BK231.out 0; have hfz124_1 := blk_frozen BK231.out 1; have hfz124_2 := blk_frozen BK231.out 2) | ((with_reducible refine gate_callee (f := 15) rfl ?_); refine goesL_ (some 132) rfl rfl Try.func15 (by kernel_rfl) rfl #[.agg #[.int .i64 a0_0, .int .i64 a0_1, .int .i64 a0_2], .agg #[.int .i64 t238, .int .i64 t239, .int .i64 t240, .int .i64 t241], .bool ((rd_T33 l3 x61_3).f1), .int .i64 (wrap64 (a1 + x61_3)), .int .u32 ((rd_T33 l3 x61_3).f2)] rfl (by (try simp only [List.map_toArray, List.map_cons, List.map_nil]); first | done | rfl | (simp only [List.length_drop, List.length_take]; rfl)) ?_; (with_reducible refine (hopmeshref47_Hear.calls kj98 a0_0 a0_1 a0_2 t238 t239 t240 t241 ((rd_T33 l3 x61_3).f1) (wrap64 (a1 + x61_3)) ((rd_T33 l3 x61_3).f2) t249 t250 t251 t252 t253 _ A107.out).mono ?_); rintro e w125 ⟨rfl, hb⟩; refine ⟨_, rfl, ?_⟩; have n0_ := Aside0.mk (blk_below (g := gb215) (o := .cells #[.int .i64 a0_0, .int .i64 a0_1, .int .i64 a0_2] 23 (0, 0)) (by (with_reducible repeat (first | refine blk_drewN ?_ _ | refine blk_drew ?_ | refine blk_alloc ?_ _)); refine blk_far ?_ NB215_223.out _; (with_reducible repeat (first | refine blk_drewN ?_ _ | refine blk_drew ?_ | refine blk_alloc ?_ _)); refine blk_far ?_ NB215_223.out _; (with_reducible repeat (first | refine blk_drewN ?_ _ | refine blk_drew ?_ | refine blk_alloc ?_ _)); refine blk_far ?_ NB215_223.out _; (with_reducible repeat (first | refine blk_drewN ?_ _ | refine blk_drew ?_ | refine blk_alloc ?_ _)); refine blk_far ?_ NB215_223.out _; (with_reducible repeat (first | refine blk_drewN ?_ _ | refine blk_drew ?_ | refine blk_alloc ?_ _)); exact BK215.out) hb); have n1_ := Aside0.mk (blk_below (g := gb223) (o := .cells #[.int .i64 t244, .int .i64 t245, .int .i64 t246, .int .i64 t247] 28 (0, 0)) (by (with_reducible repeat (first | refine blk_drewN ?_ _ | refine blk_drew ?_ | refine blk_alloc ?_ _)); refine blk_put (cs := #[.int .i64 t244, .int .i64 t245, .int .i64 t246, .int .i64 t235]) ?_ 3 _ rfl; (with_reducible repeat (first | refine blk_drewN ?_ _ | refine blk_drew ?_ | refine blk_alloc ?_ _)); refine blk_put (cs := #[.int .i64 t244, .int .i64 t245, .int .i64 t234, .int .i64 t235]) ?_ 2 _ rfl; (with_reducible repeat (first | refine blk_drewN ?_ _ | refine blk_drew ?_ | refine blk_alloc ?_ _)); refine blk_put (cs := #[.int .i64 t244, .int .i64 t233, .int .i64 t234, .int .i64 t235]) ?_ 1 _ rfl; (with_reducible repeat (first | refine blk_drewN ?_ _ | refine blk_drew ?_ | refine blk_alloc ?_ _)); refine blk_put (cs := #[.int .i64 t232, .int .i64 t233, .int .i64 t234, .int .i64 t235]) ?_ 0 _ rfl; (with_reducible repeat (first | refine blk_drewN ?_ _ | refine blk_drew ?_ | refine blk_alloc ?_ _)); exact BK223.out) hb); have n2_ := Aside0.mk (blk_below (g := gb229) (o := .cells #[.int .i64 t238, .int .i64 t239, .int .i64 t240, .int .i64 t241] 28 (0, 0)) (by (with_reducible repeat (first | refine blk_drewN ?_ _ | refine blk_drew ?_ | refine blk_alloc ?_ _)); refine blk_far ?_ NB229_223.out _; (with_reducible repeat (first | refine blk_drewN ?_ _ | refine blk_drew ?_ | refine blk_alloc ?_ _)); refine blk_far ?_ NB229_223.out _; (with_reducible repeat (first | refine blk_drewN ?_ _ | refine blk_drew ?_ | refine blk_alloc ?_ _)); refine blk_far ?_ NB229_223.out _; (with_reducible repeat (first | refine blk_drewN ?_ _ | refine blk_drew ?_ | refine blk_alloc ?_ _)); refine blk_far ?_ NB229_223.out _; (with_reducible repeat (first | refine blk_drewN ?_ _ | refine blk_drew ?_ | refine blk_alloc ?_ _)); exact BK229.out) hb); have n3_ := Aside0.mk (blk_below (g := gb231) (o := .cells #[.bool ((rd_T33 l3 x61_3).f0), .bool ((rd_T33 l3 x61_3).f1), .int .u32 ((rd_T33 l3 x61_3).f2)] 33 (0, 0)) (by (with_reducible repeat (first | refine blk_drewN ?_ _ | refine blk_drew ?_ | refine blk_alloc ?_ _)); refine blk_far ?_ NB231_223.out _; (with_reducible repeat (first | refine blk_drewN ?_ _ | refine blk_drew ?_ | refine blk_alloc ?_ _)); refine blk_far ?_ NB231_223.out _; (with_reducible repeat (first | refine blk_drewN ?_ _ | refine blk_drew ?_ | refine blk_alloc ?_ _)); refine blk_far ?_ NB231_223.out _; (with_reducible repeat (first | refine blk_drewN ?_ _ | refine blk_drew ?_ | refine blk_alloc ?_ _)); refine blk_far ?_ NB231_223.out _; (with_reducible repeat (first | refine blk_drewN ?_ _ | refine blk_drew ?_ | refine blk_alloc ?_ _)); exact BK231.out) hb); have n4_ := Aside0.mk (below_step (by repeat (first | (with_reducible first | exact HB.out | apply below_alloc | apply pw_below_drewN | apply below_drew1 | refine below_set ?_ GE215.out | refine below_set ?_ GE223.out | refine below_set ?_ GE229.out | refine below_set ?_ GE231.out) | exact HB.out)) hb); clear BK215; clear BK223; clear BK229; clear BK231; clear HB; have BK215 := n0_; have BK223 := n1_; have BK229 := n2_; have BK231 := n3_; have HB := n4_; clear n0_ n1_ n2_ n3_ n4_; (try clear hb); (try clear hb2); (try clear hk); (try clear hi); have hcz126_0 : w125.cell? ⟨gb229, 0, none⟩ = some (.int .i64 t238) := (blk_cell BK229.out 0).trans rfl; have hcz126_1 : w125.cell? ⟨gb229, 1, none⟩ = some (.int .i64 t239) := (blk_cell BK229.out 1).trans rfl; have hcz126_2 : w125.cell? ⟨gb229, 2, none⟩ = some (.int .i64 t240) := (blk_cell BK229.out 2).trans rfl; have hcz126_3 : w125.cell? ⟨gb229, 3, none⟩ = some (.int .i64 t241) := (blk_cell BK229.out 3).trans rfl; have hfz126_0 := blk_frozen BK229.out 0; have hfz126_1 := blk_frozen BK229.out 1; have hfz126_2 := blk_frozen BK229.out 2; have hfz126_3 := blk_frozen BK229.out 3; have hcz127_0 : w125.cell? ⟨gb223, 0, none⟩ = some (.int .i64 t244) := (blk_cell BK223.out 0).trans rfl; have hcz127_1 : w125.cell? ⟨gb223, 1, none⟩ = some (.int .i64 t245) := (blk_cell BK223.out 1).trans rfl; have hcz127_2 : w125.cell? ⟨gb223, 2, none⟩ = some (.int .i64 t246) := (blk_cell BK223.out 2).trans rfl; have hcz127_3 : w125.cell? ⟨gb223, 3, none⟩ = some (.int .i64 t247) := (blk_cell BK223.out 3).trans rfl; have hfz127_0 := blk_frozen BK223.out 0; have hfz127_1 := blk_frozen BK223.out 1; have hfz127_2 := blk_frozen BK223.out 2; have hfz127_3 := blk_frozen BK223.out 3))
                                          go_roundg kj98
                                          case measure => have := HJ4.out; have := HJ15.out; have := HK3.out; have := HJ56.out; have := HJ98.out; omega
                                          case rel => exact ⟨(wrap64 (x61_3 + 1)), (t244), (t245), (t246), (t247), (t249), (t250), (t251), (t252), (by first | rfl | (simp; done) | (simp [*]; done)), H', ⟨by have := HJ4.out; have := HJ15.out; have := HK3.out; have := HJ56.out; have := HJ98.out; omega⟩, ⟨by (with_reducible repeat (first | refine blk_drewN ?_ _ | refine blk_drew ?_ | refine blk_alloc ?_ _)); refine blk_far ?_ NB215_229.out _; (with_reducible repeat (first | refine blk_drewN ?_ _ | refine blk_drew ?_ | refine blk_alloc ?_ _)); refine blk_far ?_ NB215_229.out _; (with_reducible repeat (first | refine blk_drewN ?_ _ | refine blk_drew ?_ | refine blk_alloc ?_ _)); refine blk_far ?_ NB215_229.out _; (with_reducible repeat (first | refine blk_drewN ?_ _ | refine blk_drew ?_ | refine blk_alloc ?_ _)); refine blk_far ?_ NB215_229.out _; (with_reducible repeat (first | refine blk_drewN ?_ _ | refine blk_drew ?_ | refine blk_alloc ?_ _)); exact BK215.out⟩, ⟨by (with_reducible repeat (first | refine blk_drewN ?_ _ | refine blk_drew ?_ | refine blk_alloc ?_ _)); refine blk_far ?_ NB223_229.out _; (with_reducible repeat (first | refine blk_drewN ?_ _ | refine blk_drew ?_ | refine blk_alloc ?_ _)); refine blk_far ?_ NB223_229.out _; (with_reducible repeat (first | refine blk_drewN ?_ _ | refine blk_drew ?_ | refine blk_alloc ?_ _)); refine blk_far ?_ NB223_229.out _; (with_reducible repeat (first | refine blk_drewN ?_ _ | refine blk_drew ?_ | refine blk_alloc ?_ _)); refine blk_far ?_ NB223_229.out _; (with_reducible repeat (first | refine blk_drewN ?_ _ | refine blk_drew ?_ | refine blk_alloc ?_ _)); exact BK223.out⟩, ⟨by (with_reducible repeat (first | refine blk_drewN ?_ _ | refine blk_drew ?_ | refine blk_alloc ?_ _)); refine blk_put (cs := #[.int .i64 t249, .int .i64 t250, .int .i64 t251, .int .i64 t241]) ?_ 3 _ rfl; (with_reducible repeat (first | refine blk_drewN ?_ _ | refine blk_drew ?_ | refine blk_alloc ?_ _)); refine blk_put (cs := #[.int .i64 t249, .int .i64 t250, .int .i64 t240, .int .i64 t241]) ?_ 2 _ rfl; (with_reducible repeat (first | refine blk_drewN ?_ _ | refine blk_drew ?_ | refine blk_alloc ?_ _)); refine blk_put (cs := #[.int .i64 t249, .int .i64 t239, .int .i64 t240, .int .i64 t241]) ?_ 1 _ rfl; (with_reducible repeat (first | refine blk_drewN ?_ _ | refine blk_drew ?_ | refine blk_alloc ?_ _)); refine blk_put (cs := #[.int .i64 t238, .int .i64 t239, .int .i64 t240, .int .i64 t241]) ?_ 0 _ rfl; (with_reducible repeat (first | refine blk_drewN ?_ _ | refine blk_drew ?_ | refine blk_alloc ?_ _)); exact BK229.out⟩, ⟨by repeat (first | (with_reducible first | exact HB.out | apply below_alloc | apply pw_below_drewN | apply below_drew1 | refine below_set ?_ GE215.out | refine below_set ?_ GE223.out | refine below_set ?_ GE229.out | refine below_set ?_ GE231.out) | exact HB.out)⟩⟩
                                        · rw [if_neg c110] at H
                                          have c110b0 : (t248 == 0) = false := beq_eq_false_iff_ne.mpr c110
                                          have c110b1 : (t248 != 0) = true := bne_iff_ne.mpr c110
                                          obtain rfl := Option.some.inj H
                                          have hnb128 := NB215_223.out
                                          have hnc128 := NB223_215.out
                                          have hnb129 := NB215_229.out
                                          have hnc129 := NB229_215.out
                                          have hnb130 := NB215_231.out
                                          have hnc130 := NB231_215.out
                                          have hcz131_0 : wc.cell? ⟨gb215, 0, none⟩ = some (.int .i64 a0_0) := (blk_cell BK215.out 0).trans rfl
                                          have hcz131_1 : wc.cell? ⟨gb215, 1, none⟩ = some (.int .i64 a0_1) := (blk_cell BK215.out 1).trans rfl
                                          have hcz131_2 : wc.cell? ⟨gb215, 2, none⟩ = some (.int .i64 a0_2) := (blk_cell BK215.out 2).trans rfl
                                          have hfz131_0 := blk_frozen BK215.out 0
                                          have hfz131_1 := blk_frozen BK215.out 1
                                          have hfz131_2 := blk_frozen BK215.out 2
                                          have hnb132 := NB223_229.out
                                          have hnc132 := NB229_223.out
                                          have hnb133 := NB223_231.out
                                          have hnc133 := NB231_223.out
                                          have hcz134_0 : wc.cell? ⟨gb223, 0, none⟩ = some (.int .i64 t232) := (blk_cell BK223.out 0).trans rfl
                                          have hcz134_1 : wc.cell? ⟨gb223, 1, none⟩ = some (.int .i64 t233) := (blk_cell BK223.out 1).trans rfl
                                          have hcz134_2 : wc.cell? ⟨gb223, 2, none⟩ = some (.int .i64 t234) := (blk_cell BK223.out 2).trans rfl
                                          have hcz134_3 : wc.cell? ⟨gb223, 3, none⟩ = some (.int .i64 t235) := (blk_cell BK223.out 3).trans rfl
                                          have hfz134_0 := blk_frozen BK223.out 0
                                          have hfz134_1 := blk_frozen BK223.out 1
                                          have hfz134_2 := blk_frozen BK223.out 2
                                          have hfz134_3 := blk_frozen BK223.out 3
                                          have hnb135 := NB231_229.out
                                          have hnc135 := NB229_231.out
                                          have hcz136_0 : wc.cell? ⟨gb231, 0, none⟩ = some (.bool ((rd_T33 l3 x61_3).f0)) := (blk_cell BK231.out 0).trans rfl
                                          have hcz136_1 : wc.cell? ⟨gb231, 1, none⟩ = some (.bool ((rd_T33 l3 x61_3).f1)) := (blk_cell BK231.out 1).trans rfl
                                          have hcz136_2 : wc.cell? ⟨gb231, 2, none⟩ = some (.int .u32 ((rd_T33 l3 x61_3).f2)) := (blk_cell BK231.out 2).trans rfl
                                          have hfz136_0 := blk_frozen BK231.out 0
                                          have hfz136_1 := blk_frozen BK231.out 1
                                          have hfz136_2 := blk_frozen BK231.out 2
                                          go_wp2_with (first | ((with_reducible refine gate_callee (f := 14) rfl ?_); refine goesL_ (some 119) rfl rfl Try.func14 (by kernel_rfl) rfl #[.agg #[.int .i64 a0_0, .int .i64 a0_1, .int .i64 a0_2], .agg #[.int .i64 t232, .int .i64 t233, .int .i64 t234, .int .i64 t235], .bool ((rd_T33 l3 x61_3).f1), .int .i64 (wrap64 (a1 + x61_3)), .int .u32 ((rd_T33 l3 x61_3).f2)] rfl (by (try simp only [List.map_toArray, List.map_cons, List.map_nil]); first | done | rfl | (simp only [List.length_drop, List.length_take]; rfl)) ?_; (with_reducible refine (gossip_Hear.calls kj98 a0_0 a0_1 a0_2 t232 t233 t234 t235 ((rd_T33 l3 x61_3).f1) (wrap64 (a1 + x61_3)) ((rd_T33 l3 x61_3).f2) t244 t245 t246 t247 t248 _ A106.out).mono ?_); rintro e w137 ⟨rfl, hb⟩; refine ⟨_, rfl, ?_⟩; have n0_ := Aside0.mk (blk_below (g := gb215) (o := .cells #[.int .i64 a0_0, .int .i64 a0_1, .int .i64 a0_2] 23 (0, 0)) (by (with_reducible repeat (first | refine blk_drewN ?_ _ | refine blk_drew ?_ | refine blk_alloc ?_ _)); exact BK215.out) hb); have n1_ := Aside0.mk (blk_below (g := gb223) (o := .cells #[.int .i64 t232, .int .i64 t233, .int .i64 t234, .int .i64 t235] 28 (0, 0)) (by (with_reducible repeat (first | refine blk_drewN ?_ _ | refine blk_drew ?_ | refine blk_alloc ?_ _)); exact BK223.out) hb); have n2_ := Aside0.mk (blk_below (g := gb229) (o := .cells #[.int .i64 t238, .int .i64 t239, .int .i64 t240, .int .i64 t241] 28 (0, 0)) (by (with_reducible repeat (first | refine blk_drewN ?_ _ | refine blk_drew ?_ | refine blk_alloc ?_ _)); exact BK229.out) hb); have n3_ := Aside0.mk (blk_below (g := gb231) (o := .cells #[.bool ((rd_T33 l3 x61_3).f0), .bool ((rd_T33 l3 x61_3).f1), .int .u32 ((rd_T33 l3 x61_3).f2)] 33 (0, 0)) (by (with_reducible repeat (first | refine blk_drewN ?_ _ | refine blk_drew ?_ | refine blk_alloc ?_ _)); exact BK231.out) hb); have n4_ := Aside0.mk (below_step (by repeat (first | (with_reducible first | exact HB.out | apply below_alloc | apply pw_below_drewN | apply below_drew1 | refine below_set ?_ GE215.out | refine below_set ?_ GE223.out | refine below_set ?_ GE229.out | refine below_set ?_ GE231.out) | exact HB.out)) hb); clear BK215; clear BK223; clear BK229; clear BK231; clear HB; have BK215 := n0_; have BK223 := n1_; have BK229 := n2_; have BK231 := n3_; have HB := n4_; clear n0_ n1_ n2_ n3_ n4_; (try clear hb); (try clear hb2); (try clear hk); (try clear hi); have hcz138_0 : w137.cell? ⟨gb223, 0, none⟩ = some (.int .i64 t232) := (blk_cell BK223.out 0).trans rfl; have hcz138_1 : w137.cell? ⟨gb223, 1, none⟩ = some (.int .i64 t233) := (blk_cell BK223.out 1).trans rfl; have hcz138_2 : w137.cell? ⟨gb223, 2, none⟩ = some (.int .i64 t234) := (blk_cell BK223.out 2).trans rfl; have hcz138_3 : w137.cell? ⟨gb223, 3, none⟩ = some (.int .i64 t235) := (blk_cell BK223.out 3).trans rfl; have hfz138_0 := blk_frozen BK223.out 0; have hfz138_1 := blk_frozen BK223.out 1; have hfz138_2 := blk_frozen BK223.out 2; have hfz138_3 := blk_frozen BK223.out 3; have hcz139_0 : w137.cell? ⟨gb215, 0, none⟩ = some (.int .i64 a0_0) := (blk_cell BK215.out 0).trans rfl; have hcz139_1 : w137.cell? ⟨gb215, 1, none⟩ = some (.int .i64 a0_1) := (blk_cell BK215.out 1).trans rfl; have hcz139_2 : w137.cell? ⟨gb215, 2, none⟩ = some (.int .i64 a0_2) := (blk_cell BK215.out 2).trans rfl; have hfz139_0 := blk_frozen BK215.out 0; have hfz139_1 := blk_frozen BK215.out 1; have hfz139_2 := blk_frozen BK215.out 2; have hcz140_0 : w137.cell? ⟨gb229, 0, none⟩ = some (.int .i64 t238) := (blk_cell BK229.out 0).trans rfl; have hcz140_1 : w137.cell? ⟨gb229, 1, none⟩ = some (.int .i64 t239) := (blk_cell BK229.out 1).trans rfl; have hcz140_2 : w137.cell? ⟨gb229, 2, none⟩ = some (.int .i64 t240) := (blk_cell BK229.out 2).trans rfl; have hcz140_3 : w137.cell? ⟨gb229, 3, none⟩ = some (.int .i64 t241) := (blk_cell BK229.out 3).trans rfl; have hfz140_0 := blk_frozen BK229.out 0; have hfz140_1 := blk_frozen BK229.out 1; have hfz140_2 := blk_frozen BK229.out 2; have hfz140_3 := blk_frozen BK229.out 3; have hcz141_0 : w137.cell? ⟨gb231, 0, none⟩ = some (.bool ((rd_T33 l3 x61_3).f0)) := (blk_cell BK231.out 0).trans rfl; have hcz141_1 : w137.cell? ⟨gb231, 1, none⟩ = some (.bool ((rd_T33 l3 x61_3).f1)) := (blk_cell BK231.out 1).trans rfl; have hcz141_2 : w137.cell? ⟨gb231, 2, none⟩ = some (.int .u32 ((rd_T33 l3 x61_3).f2)) := (blk_cell BK231.out 2).trans rfl; have hfz141_0 := blk_frozen BK231.out 0; have hfz141_1 := blk_frozen BK231.out 1; have hfz141_2 := blk_frozen BK231.out 2) | ((with_reducible refine gate_callee (f := 15) rfl ?_); refine goesL_ (some 132) rfl rfl Try.func15 (by kernel_rfl) rfl #[.agg #[.int .i64 a0_0, .int .i64 a0_1, .int .i64 a0_2], .agg #[.int .i64 t238, .int .i64 t239, .int .i64 t240, .int .i64 t241], .bool ((rd_T33 l3 x61_3).f1), .int .i64 (wrap64 (a1 + x61_3)), .int .u32 ((rd_T33 l3 x61_3).f2)] rfl (by (try simp only [List.map_toArray, List.map_cons, List.map_nil]); first | done | rfl | (simp only [List.length_drop, List.length_take]; rfl)) ?_; (with_reducible refine (hopmeshref47_Hear.calls kj98 a0_0 a0_1 a0_2 t238 t239 t240 t241 ((rd_T33 l3 x61_3).f1) (wrap64 (a1 + x61_3)) ((rd_T33 l3 x61_3).f2) t249 t250 t251 t252 t253 _ A107.out).mono ?_); rintro e w142 ⟨rfl, hb⟩; refine ⟨_, rfl, ?_⟩; have n0_ := Aside0.mk (blk_below (g := gb215) (o := .cells #[.int .i64 a0_0, .int .i64 a0_1, .int .i64 a0_2] 23 (0, 0)) (by (with_reducible repeat (first | refine blk_drewN ?_ _ | refine blk_drew ?_ | refine blk_alloc ?_ _)); refine blk_far ?_ NB215_223.out _; (with_reducible repeat (first | refine blk_drewN ?_ _ | refine blk_drew ?_ | refine blk_alloc ?_ _)); refine blk_far ?_ NB215_223.out _; (with_reducible repeat (first | refine blk_drewN ?_ _ | refine blk_drew ?_ | refine blk_alloc ?_ _)); refine blk_far ?_ NB215_223.out _; (with_reducible repeat (first | refine blk_drewN ?_ _ | refine blk_drew ?_ | refine blk_alloc ?_ _)); refine blk_far ?_ NB215_223.out _; (with_reducible repeat (first | refine blk_drewN ?_ _ | refine blk_drew ?_ | refine blk_alloc ?_ _)); exact BK215.out) hb); have n1_ := Aside0.mk (blk_below (g := gb223) (o := .cells #[.int .i64 t244, .int .i64 t245, .int .i64 t246, .int .i64 t247] 28 (0, 0)) (by (with_reducible repeat (first | refine blk_drewN ?_ _ | refine blk_drew ?_ | refine blk_alloc ?_ _)); refine blk_put (cs := #[.int .i64 t244, .int .i64 t245, .int .i64 t246, .int .i64 t235]) ?_ 3 _ rfl; (with_reducible repeat (first | refine blk_drewN ?_ _ | refine blk_drew ?_ | refine blk_alloc ?_ _)); refine blk_put (cs := #[.int .i64 t244, .int .i64 t245, .int .i64 t234, .int .i64 t235]) ?_ 2 _ rfl; (with_reducible repeat (first | refine blk_drewN ?_ _ | refine blk_drew ?_ | refine blk_alloc ?_ _)); refine blk_put (cs := #[.int .i64 t244, .int .i64 t233, .int .i64 t234, .int .i64 t235]) ?_ 1 _ rfl; (with_reducible repeat (first | refine blk_drewN ?_ _ | refine blk_drew ?_ | refine blk_alloc ?_ _)); refine blk_put (cs := #[.int .i64 t232, .int .i64 t233, .int .i64 t234, .int .i64 t235]) ?_ 0 _ rfl; (with_reducible repeat (first | refine blk_drewN ?_ _ | refine blk_drew ?_ | refine blk_alloc ?_ _)); exact BK223.out) hb); have n2_ := Aside0.mk (blk_below (g := gb229) (o := .cells #[.int .i64 t238, .int .i64 t239, .int .i64 t240, .int .i64 t241] 28 (0, 0)) (by (with_reducible repeat (first | refine blk_drewN ?_ _ | refine blk_drew ?_ | refine blk_alloc ?_ _)); refine blk_far ?_ NB229_223.out _; (with_reducible repeat (first | refine blk_drewN ?_ _ | refine blk_drew ?_ | refine blk_alloc ?_ _)); refine blk_far ?_ NB229_223.out _; (with_reducible repeat (first | refine blk_drewN ?_ _ | refine blk_drew ?_ | refine blk_alloc ?_ _)); refine blk_far ?_ NB229_223.out _; (with_reducible repeat (first | refine blk_drewN ?_ _ | refine blk_drew ?_ | refine blk_alloc ?_ _)); refine blk_far ?_ NB229_223.out _; (with_reducible repeat (first | refine blk_drewN ?_ _ | refine blk_drew ?_ | refine blk_alloc ?_ _)); exact BK229.out) hb); have n3_ := Aside0.mk (blk_below (g := gb231) (o := .cells #[.bool ((rd_T33 l3 x61_3).f0), .bool ((rd_T33 l3 x61_3).f1), .int .u32 ((rd_T33 l3 x61_3).f2)] 33 (0, 0)) (by (with_reducible repeat (first | refine blk_drewN ?_ _ | refine blk_drew ?_ | refine blk_alloc ?_ _)); refine blk_far ?_ NB231_223.out _; (with_reducible repeat (first | refine blk_drewN ?_ _ | refine blk_drew ?_ | refine blk_alloc ?_ _)); refine blk_far ?_ NB231_223.out _; (with_reducible repeat (first | refine blk_drewN ?_ _ | refine blk_drew ?_ | refine blk_alloc ?_ _)); refine blk_far ?_ NB231_223.out _; (with_reducible repeat (first | refine blk_drewN ?_ _ | refine blk_drew ?_ | refine blk_alloc ?_ _)); refine blk_far ?_ NB231_223.out _; (with_reducible repeat (first | refine blk_drewN ?_ _ | refine blk_drew ?_ | refine blk_alloc ?_ _)); exact BK231.out) hb); have n4_ := Aside0.mk (below_step (by repeat (first | (with_reducible first | exact HB.out | apply below_alloc | apply pw_below_drewN | apply below_drew1 | refine below_set ?_ GE215.out | refine below_set ?_ GE223.out | refine below_set ?_ GE229.out | refine below_set ?_ GE231.out) | exact HB.out)) hb); clear BK215; clear BK223; clear BK229; clear BK231; clear HB; have BK215 := n0_; have BK223 := n1_; have BK229 := n2_; have BK231 := n3_; have HB := n4_; clear n0_ n1_ n2_ n3_ n4_; (try clear hb); (try clear hb2); (try clear hk); (try clear hi); have hcz143_0 : w142.cell? ⟨gb229, 0, none⟩ = some (.int .i64 t238) := (blk_cell BK229.out 0).trans rfl; have hcz143_1 : w142.cell? ⟨gb229, 1, none⟩ = some (.int .i64 t239) := (blk_cell BK229.out 1).trans rfl; have hcz143_2 : w142.cell? ⟨gb229, 2, none⟩ = some (.int .i64 t240) := (blk_cell BK229.out 2).trans rfl; have hcz143_3 : w142.cell? ⟨gb229, 3, none⟩ = some (.int .i64 t241) := (blk_cell BK229.out 3).trans rfl; have hfz143_0 := blk_frozen BK229.out 0; have hfz143_1 := blk_frozen BK229.out 1; have hfz143_2 := blk_frozen BK229.out 2; have hfz143_3 := blk_frozen BK229.out 3; have hcz144_0 : w142.cell? ⟨gb223, 0, none⟩ = some (.int .i64 t244) := (blk_cell BK223.out 0).trans rfl; have hcz144_1 : w142.cell? ⟨gb223, 1, none⟩ = some (.int .i64 t245) := (blk_cell BK223.out 1).trans rfl; have hcz144_2 : w142.cell? ⟨gb223, 2, none⟩ = some (.int .i64 t246) := (blk_cell BK223.out 2).trans rfl; have hcz144_3 : w142.cell? ⟨gb223, 3, none⟩ = some (.int .i64 t247) := (blk_cell BK223.out 3).trans rfl; have hfz144_0 := blk_frozen BK223.out 0; have hfz144_1 := blk_frozen BK223.out 1; have hfz144_2 := blk_frozen BK223.out 2; have hfz144_3 := blk_frozen BK223.out 3))
                                          go_ret
                                          exact ⟨by first | rfl | (simp [errW_none, errW_some] <;> rfl) | (simp [*, errW_none, errW_some] <;> rfl), by repeat (first | (with_reducible first | exact HB.out | apply below_alloc | apply pw_below_drewN | apply below_drew1 | refine below_set ?_ GE215.out | refine below_set ?_ GE223.out | refine below_set ?_ GE229.out | refine below_set ?_ GE231.out) | exact HB.out)⟩
                                      · rw [if_neg c109] at H
                                        have c109b0 : (t248 == t253) = false := beq_eq_false_iff_ne.mpr c109
                                        have c109b1 : (t248 != t253) = true := bne_iff_ne.mpr c109
                                        exact absurd (H.trans (congrArg some HRT.out)) (by simp)
                                  · replace c105 := Bool.eq_false_iff.mpr c105
                                    subst c105
                                    have H1 : (if (!(t232 == t238) || (!(t233 == t239) || (!(t234 == t240) || (!(t235 == t241))))) = true then (some false) else (if t237 = t243 then (if t237 = 0 then (hopmeshlaw47_GossipRuns.l0 kj98 a1 l3 (l3.length : Int) (wrap64 (x61_3 + 1)) a0_0 a0_1 a0_2 t232 t233 t234 t235 t238 t239 t240 t241) else (some true)) else (some false))) = some r := by rw [if_neg (show ¬ (false = true) by decide)] at H; exact H
                                    clear H
                                    have H := H1
                                    clear H1
                                    by_cases c145 : (!(t232 == t238) || (!(t233 == t239) || (!(t234 == t240) || (!(t235 == t241))))) = true
                                    · rw [if_pos c145] at H
                                      have c145b0 : (!(t232 == t238) || (!(t233 == t239) || (!(t234 == t240) || (!(t235 == t241))))) = true := c145
                                      clear c145
                                      exact absurd (H.trans (congrArg some HRT.out)) (by simp)
                                    · rw [if_neg c145] at H
                                      have c145b0 : (!(t232 == t238) || (!(t233 == t239) || (!(t234 == t240) || (!(t235 == t241))))) = false := by simpa using c145
                                      clear c145
                                      by_cases c146 : t237 = t243
                                      · rw [if_pos c146] at H
                                        have c146b0 : (t237 == t243) = true := beq_iff_eq.mpr c146
                                        have c146b1 : (t237 != t243) = false := bne_eq_false_iff_eq.mpr c146
                                        clear c146
                                        by_cases c147 : t237 = 0
                                        · rw [if_pos c147] at H
                                          have c147b0 : (t237 == 0) = true := beq_iff_eq.mpr c147
                                          have c147b1 : (t237 != 0) = false := bne_eq_false_iff_eq.mpr c147
                                          clear c147
                                          have H' := Aside0.mk H
                                          clear H
                                          have hnb148 := NB223_215.out
                                          have hnc148 := NB215_223.out
                                          have hnb149 := NB223_229.out
                                          have hnc149 := NB229_223.out
                                          have hnb150 := NB223_231.out
                                          have hnc150 := NB231_223.out
                                          have hcz151_0 : wc.cell? ⟨gb223, 0, none⟩ = some (.int .i64 t232) := (blk_cell BK223.out 0).trans rfl
                                          have hcz151_1 : wc.cell? ⟨gb223, 1, none⟩ = some (.int .i64 t233) := (blk_cell BK223.out 1).trans rfl
                                          have hcz151_2 : wc.cell? ⟨gb223, 2, none⟩ = some (.int .i64 t234) := (blk_cell BK223.out 2).trans rfl
                                          have hcz151_3 : wc.cell? ⟨gb223, 3, none⟩ = some (.int .i64 t235) := (blk_cell BK223.out 3).trans rfl
                                          have hfz151_0 := blk_frozen BK223.out 0
                                          have hfz151_1 := blk_frozen BK223.out 1
                                          have hfz151_2 := blk_frozen BK223.out 2
                                          have hfz151_3 := blk_frozen BK223.out 3
                                          have hnb152 := NB229_215.out
                                          have hnc152 := NB215_229.out
                                          have hnb153 := NB229_231.out
                                          have hnc153 := NB231_229.out
                                          have hcz154_0 : wc.cell? ⟨gb229, 0, none⟩ = some (.int .i64 t238) := (blk_cell BK229.out 0).trans rfl
                                          have hcz154_1 : wc.cell? ⟨gb229, 1, none⟩ = some (.int .i64 t239) := (blk_cell BK229.out 1).trans rfl
                                          have hcz154_2 : wc.cell? ⟨gb229, 2, none⟩ = some (.int .i64 t240) := (blk_cell BK229.out 2).trans rfl
                                          have hcz154_3 : wc.cell? ⟨gb229, 3, none⟩ = some (.int .i64 t241) := (blk_cell BK229.out 3).trans rfl
                                          have hfz154_0 := blk_frozen BK229.out 0
                                          have hfz154_1 := blk_frozen BK229.out 1
                                          have hfz154_2 := blk_frozen BK229.out 2
                                          have hfz154_3 := blk_frozen BK229.out 3
                                          go_wp2
                                          go_roundg kj98
                                          case measure => have := HJ4.out; have := HJ15.out; have := HK3.out; have := HJ56.out; have := HJ98.out; omega
                                          case rel => exact ⟨(wrap64 (x61_3 + 1)), (t232), (t233), (t234), (t235), (t238), (t239), (t240), (t241), (by first | rfl | (simp; done) | (simp [*]; done)), H', ⟨by have := HJ4.out; have := HJ15.out; have := HK3.out; have := HJ56.out; have := HJ98.out; omega⟩, ⟨by (with_reducible repeat (first | refine blk_drewN ?_ _ | refine blk_drew ?_ | refine blk_alloc ?_ _)); exact BK215.out⟩, ⟨by (with_reducible repeat (first | refine blk_drewN ?_ _ | refine blk_drew ?_ | refine blk_alloc ?_ _)); exact BK223.out⟩, ⟨by (with_reducible repeat (first | refine blk_drewN ?_ _ | refine blk_drew ?_ | refine blk_alloc ?_ _)); exact BK229.out⟩, ⟨by repeat (first | (with_reducible first | exact HB.out | apply below_alloc | apply pw_below_drewN | apply below_drew1 | refine below_set ?_ GE215.out | refine below_set ?_ GE223.out | refine below_set ?_ GE229.out | refine below_set ?_ GE231.out) | exact HB.out)⟩⟩
                                        · rw [if_neg c147] at H
                                          have c147b0 : (t237 == 0) = false := beq_eq_false_iff_ne.mpr c147
                                          have c147b1 : (t237 != 0) = true := bne_iff_ne.mpr c147
                                          obtain rfl := Option.some.inj H
                                          have hnb155 := NB223_215.out
                                          have hnc155 := NB215_223.out
                                          have hnb156 := NB223_229.out
                                          have hnc156 := NB229_223.out
                                          have hnb157 := NB223_231.out
                                          have hnc157 := NB231_223.out
                                          have hcz158_0 : wc.cell? ⟨gb223, 0, none⟩ = some (.int .i64 t232) := (blk_cell BK223.out 0).trans rfl
                                          have hcz158_1 : wc.cell? ⟨gb223, 1, none⟩ = some (.int .i64 t233) := (blk_cell BK223.out 1).trans rfl
                                          have hcz158_2 : wc.cell? ⟨gb223, 2, none⟩ = some (.int .i64 t234) := (blk_cell BK223.out 2).trans rfl
                                          have hcz158_3 : wc.cell? ⟨gb223, 3, none⟩ = some (.int .i64 t235) := (blk_cell BK223.out 3).trans rfl
                                          have hfz158_0 := blk_frozen BK223.out 0
                                          have hfz158_1 := blk_frozen BK223.out 1
                                          have hfz158_2 := blk_frozen BK223.out 2
                                          have hfz158_3 := blk_frozen BK223.out 3
                                          have hnb159 := NB229_215.out
                                          have hnc159 := NB215_229.out
                                          have hnb160 := NB229_231.out
                                          have hnc160 := NB231_229.out
                                          have hcz161_0 : wc.cell? ⟨gb229, 0, none⟩ = some (.int .i64 t238) := (blk_cell BK229.out 0).trans rfl
                                          have hcz161_1 : wc.cell? ⟨gb229, 1, none⟩ = some (.int .i64 t239) := (blk_cell BK229.out 1).trans rfl
                                          have hcz161_2 : wc.cell? ⟨gb229, 2, none⟩ = some (.int .i64 t240) := (blk_cell BK229.out 2).trans rfl
                                          have hcz161_3 : wc.cell? ⟨gb229, 3, none⟩ = some (.int .i64 t241) := (blk_cell BK229.out 3).trans rfl
                                          have hfz161_0 := blk_frozen BK229.out 0
                                          have hfz161_1 := blk_frozen BK229.out 1
                                          have hfz161_2 := blk_frozen BK229.out 2
                                          have hfz161_3 := blk_frozen BK229.out 3
                                          go_wp2
                                          go_ret
                                          exact ⟨by first | rfl | (simp [errW_none, errW_some] <;> rfl) | (simp [*, errW_none, errW_some] <;> rfl), by repeat (first | (with_reducible first | exact HB.out | apply below_alloc | apply pw_below_drewN | apply below_drew1 | refine below_set ?_ GE215.out | refine below_set ?_ GE223.out | refine below_set ?_ GE229.out | refine below_set ?_ GE231.out) | exact HB.out)⟩
                                      · rw [if_neg c146] at H
                                        have c146b0 : (t237 == t243) = false := beq_eq_false_iff_ne.mpr c146
                                        have c146b1 : (t237 != t243) = true := bne_iff_ne.mpr c146
                                        exact absurd (H.trans (congrArg some HRT.out)) (by simp)
                      · rw [if_neg c54] at H
                        exact absurd H (by simp)
                    · rw [if_neg c53] at H
                      exact absurd H (by simp)
                  · rw [if_neg c52] at H
                    have c52b0 : decide (x61_3 < (l3.length : Int)) = false := decide_eq_false c52
                    clear c52
                    obtain rfl := Option.some.inj H
                    go_wp2
                    go_ret
                    exact ⟨by first | rfl | (simp [errW_none, errW_some] <;> rfl) | (simp [*, errW_none, errW_some] <;> rfl), by repeat (first | (with_reducible first | exact HB.out | apply below_alloc | apply pw_below_drewN | apply below_drew1 | refine below_set ?_ GE215.out | refine below_set ?_ GE223.out | refine below_set ?_ GE229.out) | exact HB.out)⟩

end Go.Proofs.Ytmmknoaapllcmaa.PA
