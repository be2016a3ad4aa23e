-- Written by a program of this session (mkprint.py: the kit's print, changed) for this claim. Not trusted: Lean checks it.
import Derived.Test.YtmmknoaapllcmaaPAx0
import Derived.Test.YtmmknoaapllcmaaPAx2
import Derived.Test.YtmmknoaapllcmaaPAx5
import Derived.Test.YtmmknoaapllcmaaPAx6
namespace Go.Proofs.Ytmmknoaapllcmaa.PA
open Go.RowKit Go.Proofs.YtmmknoaapllcmaaW.PrintWords Go.Proofs.YtmmknoaapllcmaaW.PrintLast Go.Proofs.YtmmknoaapllcmaaW.PrintMore
attribute [local go_sem] max2_int min2_int max_two min_two max_three min_three max_four min_four   -- for this text's walks alone
set_option linter.unusedVariables false
set_option linter.unusedSimpArgs false

/-! ### hopmeshlaw47_GossipSpeaks: function 5 -/
mutual
def hopmeshlaw47_GossipSpeaks.j0 : Nat → Int → List Int → Bool → Int → Int → Int → Option (Bool)
  | 0, _, _, _, _, _, _ => none
  | k + 1, x1, x2, x43, x280000, x280001, x280002 => if x43 = true then ((hopmeshlaw47_awake.f).bind fun t283 => (some t283)) else (if 0 < (x2.length : Int) then ((gossip_Start.f x280000 x280001 x280002 x1 (rd x2 0)).bind fun bt285 => (if bt285.2.2.2.2 = 0 then (hopmeshlaw47_GossipSpeaks.l0 k x2 x280000 x1 (x2.length : Int) 0 x280000 x280001 x280002 bt285.1 bt285.2.1 bt285.2.2.1 bt285.2.2.2.1) else (some false))) else (none))
def hopmeshlaw47_GossipSpeaks.l0 : Nat → List Int → Int → Int → Int → Int → Int → Int → Int → Int → Int → Int → Int → Option (Bool)
  | 0, _, _, _, _, _, _, _, _, _, _, _, _ => none
  | k + 1, x2, x9, x10, x60, x61, x280000, x280001, x280002, x291000, x291001, x291002, x291003 => if x61 < x60 then (hopmeshlaw47_GossipSpeaks.l1 k x2 x9 x10 x61 0 x60 x61 x9 0 x280000 x280001 x280002 x291000 x291001 x291002 x291003) else (some true)
def hopmeshlaw47_GossipSpeaks.l1 : Nat → List Int → Int → Int → Int → Int → Int → Int → Int → Int → Int → Int → Int → Int → Int → Int → Int → Option (Bool)
  | 0, _, _, _, _, _, _, _, _, _, _, _, _, _, _, _, _ => none
  | k + 1, x2, x9, x10, x11, x12, x60, x61, x64, x65, x280000, x280001, x280002, x291000, x291001, x291002, x291003 => if x65 < x64 then (if 0 ≤ x11 then (if x11 < (x2.length : Int) then ((gossip_Step.f k x280000 x280001 x280002 x291000 x291001 x291002 x291003 x10 (rd x2 x11)).bind fun bt293 => (if bt293.2.2.2.2.2 = 0 then (hopmeshlaw47_GossipSpeaks.j3 k x2 x9 x10 x11 x12 bt293.2.2.2.2.1 x60 x61 x64 x65 (bt293.1 != x9) x280000 x280001 x280002 bt293.1 bt293.2.1 bt293.2.2.1 bt293.2.2.2.1) else (hopmeshlaw47_GossipSpeaks.j3 k x2 x9 x10 x11 x12 bt293.2.2.2.2.1 x60 x61 x64 x65 true x280000 x280001 x280002 bt293.1 bt293.2.1 bt293.2.2.1 bt293.2.2.2.1))) else (none)) else (none)) else (if x12 = 1 then ((gossip_Greatest.f x280000 x280001 x280002).bind fun t291 => (hopmeshlaw47_GossipSpeaks.l0 k x2 (mn (wrap64 (2 * x9)) t291) x10 x60 (wrap64 (x61 + 1)) x280000 x280001 x280002 x291000 x291001 x291002 x291003)) else (some false))
def hopmeshlaw47_GossipSpeaks.j3 : Nat → List Int → Int → Int → Int → Int → Bool → Int → Int → Int → Int → Bool → Int → Int → Int → Int → Int → Int → Int → Option (Bool)
  | 0, _, _, _, _, _, _, _, _, _, _, _, _, _, _, _, _, _, _ => none
  | k + 1, x2, x9, x10, x11, x12, x13, x60, x61, x64, x65, x86, x280000, x280001, x280002, x291000, x291001, x291002, x291003 => if x86 = true then (some false) else (if x13 = true then (hopmeshlaw47_GossipSpeaks.l1 k x2 x9 (wrap64 (x10 + 1)) x11 (wrap64 (x12 + 1)) x60 x61 x64 (wrap64 (x65 + 1)) x280000 x280001 x280002 x291000 x291001 x291002 x291003) else (hopmeshlaw47_GossipSpeaks.l1 k x2 x9 (wrap64 (x10 + 1)) x11 x12 x60 x61 x64 (wrap64 (x65 + 1)) x280000 x280001 x280002 x291000 x291001 x291002 x291003))
end
def hopmeshlaw47_GossipSpeaks.f (k : Nat) (a0_0 : Int) (a0_1 : Int) (a0_2 : Int) (a1 : Int) (l2 : List Int) : Option (Bool) := (hopmeshlaw47_awake.f).bind fun t280 => (if t280 = true then (if (l2.length : Int) = 0 then (hopmeshlaw47_GossipSpeaks.j0 k a1 l2 true a0_0 a0_1 a0_2) else (if (l2.length : Int) > 5 then (hopmeshlaw47_GossipSpeaks.j0 k a1 l2 true a0_0 a0_1 a0_2) else ((gossip_Check.f a0_0 a0_1 a0_2).bind fun t281 => (if t281 = 0 then (if a1 < 0 then (hopmeshlaw47_GossipSpeaks.j0 k a1 l2 true a0_0 a0_1 a0_2) else (if a1 > 1048576 then (hopmeshlaw47_GossipSpeaks.j0 k a1 l2 true a0_0 a0_1 a0_2) else ((gossip_Greatest.f a0_0 a0_1 a0_2).bind fun t282 => (hopmeshlaw47_GossipSpeaks.j0 k a1 l2 (decide (t282 > 600)) a0_0 a0_1 a0_2)))) else (hopmeshlaw47_GossipSpeaks.j0 k a1 l2 true a0_0 a0_1 a0_2))))) else (hopmeshlaw47_GossipSpeaks.j0 k a1 l2 true a0_0 a0_1 a0_2))
theorem hopmeshlaw47_GossipSpeaks.mono_l : ∀ k, (∀ y0 y1 y2 y3 y4 y5, LeO (hopmeshlaw47_GossipSpeaks.j0 k y0 y1 y2 y3 y4 y5) (hopmeshlaw47_GossipSpeaks.j0 (k + 1) y0 y1 y2 y3 y4 y5)) ∧ (∀ y0 y1 y2 y3 y4 y5 y6 y7 y8 y9 y10 y11, LeO (hopmeshlaw47_GossipSpeaks.l0 k y0 y1 y2 y3 y4 y5 y6 y7 y8 y9 y10 y11) (hopmeshlaw47_GossipSpeaks.l0 (k + 1) y0 y1 y2 y3 y4 y5 y6 y7 y8 y9 y10 y11)) ∧ (∀ y0 y1 y2 y3 y4 y5 y6 y7 y8 y9 y10 y11 y12 y13 y14 y15, LeO (hopmeshlaw47_GossipSpeaks.l1 k y0 y1 y2 y3 y4 y5 y6 y7 y8 y9 y10 y11 y12 y13 y14 y15) (hopmeshlaw47_GossipSpeaks.l1 (k + 1) y0 y1 y2 y3 y4 y5 y6 y7 y8 y9 y10 y11 y12 y13 y14 y15)) ∧ (∀ y0 y1 y2 y3 y4 y5 y6 y7 y8 y9 y10 y11 y12 y13 y14 y15 y16 y17, LeO (hopmeshlaw47_GossipSpeaks.j3 k y0 y1 y2 y3 y4 y5 y6 y7 y8 y9 y10 y11 y12 y13 y14 y15 y16 y17) (hopmeshlaw47_GossipSpeaks.j3 (k + 1) y0 y1 y2 y3 y4 y5 y6 y7 y8 y9 y10 y11 y12 y13 y14 y15 y16 y17))
  | 0 => ⟨fun _ _ _ _ _ _ r h => by simp [hopmeshlaw47_GossipSpeaks.j0] at h, fun _ _ _ _ _ _ _ _ _ _ _ _ r h => by simp [hopmeshlaw47_GossipSpeaks.l0] at h, fun _ _ _ _ _ _ _ _ _ _ _ _ _ _ _ _ r h => by simp [hopmeshlaw47_GossipSpeaks.l1] at h, fun _ _ _ _ _ _ _ _ _ _ _ _ _ _ _ _ _ _ r h => by simp [hopmeshlaw47_GossipSpeaks.j3] at h⟩
  | k + 1 => by
    obtain ⟨ih0, ih1, ih2, ih3⟩ := hopmeshlaw47_GossipSpeaks.mono_l k
    refine ⟨?_, ?_, ?_, ?_⟩
    · intro y0 y1 y2 y3 y4 y5
      unfold hopmeshlaw47_GossipSpeaks.j0
      repeat' first
      | (with_reducible exact ih0 _ _ _ _ _ _)
      | (with_reducible exact ih1 _ _ _ _ _ _ _ _ _ _ _ _)
      | (with_reducible exact ih2 _ _ _ _ _ _ _ _ _ _ _ _ _ _ _ _)
      | (with_reducible exact ih3 _ _ _ _ _ _ _ _ _ _ _ _ _ _ _ _ _ _)
      | (with_reducible exact gossip_Step.mono _ _ _ _ _ _ _ _ _ _)
      | (with_reducible exact LeO.refl _)
      | (with_reducible exact LeO.none _)
      | (with_reducible refine LeO.ite ?_ ?_)
      | (with_reducible refine LeO.bind ?_ (fun _ => ?_))
      | exact ih0 _ _ _ _ _ _
      | exact ih1 _ _ _ _ _ _ _ _ _ _ _ _
      | exact ih2 _ _ _ _ _ _ _ _ _ _ _ _ _ _ _ _
      | exact ih3 _ _ _ _ _ _ _ _ _ _ _ _ _ _ _ _ _ _
      | exact gossip_Step.mono _ _ _ _ _ _ _ _ _ _
      | exact LeO.none _
      | refine LeO.ite ?_ ?_
      | refine LeO.bind ?_ (fun _ => ?_)
    · intro y0 y1 y2 y3 y4 y5 y6 y7 y8 y9 y10 y11
      unfold hopmeshlaw47_GossipSpeaks.l0
      repeat' first
      | (with_reducible exact ih0 _ _ _ _ _ _)
      | (with_reducible exact ih1 _ _ _ _ _ _ _ _ _ _ _ _)
      | (with_reducible exact ih2 _ _ _ _ _ _ _ _ _ _ _ _ _ _ _ _)
      | (with_reducible exact ih3 _ _ _ _ _ _ _ _ _ _ _ _ _ _ _ _ _ _)
      | (with_reducible exact gossip_Step.mono _ _ _ _ _ _ _ _ _ _)
      | (with_reducible exact LeO.refl _)
      | (with_reducible exact LeO.none _)
      | (with_reducible refine LeO.ite ?_ ?_)
      | (with_reducible refine LeO.bind ?_ (fun _ => ?_))
      | exact ih0 _ _ _ _ _ _
      | exact ih1 _ _ _ _ _ _ _ _ _ _ _ _
      | exact ih2 _ _ _ _ _ _ _ _ _ _ _ _ _ _ _ _
      | exact ih3 _ _ _ _ _ _ _ _ _ _ _ _ _ _ _ _ _ _
      | exact gossip_Step.mono _ _ _ _ _ _ _ _ _ _
      | exact LeO.none _
      | refine LeO.ite ?_ ?_
      | refine LeO.bind ?_ (fun _ => ?_)
    · intro y0 y1 y2 y3 y4 y5 y6 y7 y8 y9 y10 y11 y12 y13 y14 y15
      unfold hopmeshlaw47_GossipSpeaks.l1
      repeat' first
      | (with_reducible exact ih0 _ _ _ _ _ _)
      | (with_reducible exact ih1 _ _ _ _ _ _ _ _ _ _ _ _)
      | (with_reducible exact ih2 _ _ _ _ _ _ _ _ _ _ _ _ _ _ _ _)
      | (with_reducible exact ih3 _ _ _ _ _ _ _ _ _ _ _ _ _ _ _ _ _ _)
      | (with_reducible exact gossip_Step.mono _ _ _ _ _ _ _ _ _ _)
      | (with_reducible exact LeO.refl _)
      | (with_reducible exact LeO.none _)
      | (with_reducible refine LeO.ite ?_ ?_)
      | (with_reducible refine LeO.bind ?_ (fun _ => ?_))
      | exact ih0 _ _ _ _ _ _
      | exact ih1 _ _ _ _ _ _ _ _ _ _ _ _
      | exact ih2 _ _ _ _ _ _ _ _ _ _ _ _ _ _ _ _
      | exact ih3 _ _ _ _ _ _ _ _ _ _ _ _ _ _ _ _ _ _
      | exact gossip_Step.mono _ _ _ _ _ _ _ _ _ _
      | exact LeO.none _
      | refine LeO.ite ?_ ?_
      | refine LeO.bind ?_ (fun _ => ?_)
    · intro y0 y1 y2 y3 y4 y5 y6 y7 y8 y9 y10 y11 y12 y13 y14 y15 y16 y17
      unfold hopmeshlaw47_GossipSpeaks.j3
      repeat' first
      | (with_reducible exact ih0 _ _ _ _ _ _)
      | (with_reducible exact ih1 _ _ _ _ _ _ _ _ _ _ _ _)
      | (with_reducible exact ih2 _ _ _ _ _ _ _ _ _ _ _ _ _ _ _ _)
      | (with_reducible exact ih3 _ _ _ _ _ _ _ _ _ _ _ _ _ _ _ _ _ _)
      | (with_reducible exact gossip_Step.mono _ _ _ _ _ _ _ _ _ _)
      | (with_reducible exact LeO.refl _)
      | (with_reducible exact LeO.none _)
      | (with_reducible refine LeO.ite ?_ ?_)
      | (with_reducible refine LeO.bind ?_ (fun _ => ?_))
      | exact ih0 _ _ _ _ _ _
      | exact ih1 _ _ _ _ _ _ _ _ _ _ _ _
      | exact ih2 _ _ _ _ _ _ _ _ _ _ _ _ _ _ _ _
      | exact ih3 _ _ _ _ _ _ _ _ _ _ _ _ _ _ _ _ _ _
      | exact gossip_Step.mono _ _ _ _ _ _ _ _ _ _
      | exact LeO.none _
      | refine LeO.ite ?_ ?_
      | refine LeO.bind ?_ (fun _ => ?_)
theorem hopmeshlaw47_GossipSpeaks.mono : ∀ a0 a1 a2 a3 a4 k, LeO (hopmeshlaw47_GossipSpeaks.f k a0 a1 a2 a3 a4) (hopmeshlaw47_GossipSpeaks.f (k + 1) a0 a1 a2 a3 a4) := by
  intro a0 a1 a2 a3 a4 k
  obtain ⟨ih0, ih1, ih2, ih3⟩ := hopmeshlaw47_GossipSpeaks.mono_l k
  unfold hopmeshlaw47_GossipSpeaks.f
  repeat' first
      | (with_reducible exact ih0 _ _ _ _ _ _)
      | (with_reducible exact ih1 _ _ _ _ _ _ _ _ _ _ _ _)
      | (with_reducible exact ih2 _ _ _ _ _ _ _ _ _ _ _ _ _ _ _ _)
      | (with_reducible exact ih3 _ _ _ _ _ _ _ _ _ _ _ _ _ _ _ _ _ _)
      | (with_reducible exact gossip_Step.mono _ _ _ _ _ _ _ _ _ _)
      | (with_reducible exact LeO.refl _)
      | (with_reducible exact LeO.none _)
      | (with_reducible refine LeO.ite ?_ ?_)
      | (with_reducible refine LeO.bind ?_ (fun _ => ?_))
      | exact ih0 _ _ _ _ _ _
      | exact ih1 _ _ _ _ _ _ _ _ _ _ _ _
      | exact ih2 _ _ _ _ _ _ _ _ _ _ _ _ _ _ _ _
      | exact ih3 _ _ _ _ _ _ _ _ _ _ _ _ _ _ _ _ _ _
      | exact gossip_Step.mono _ _ _ _ _ _ _ _ _ _
      | exact LeO.none _
      | refine LeO.ite ?_ ?_
      | refine LeO.bind ?_ (fun _ => ?_)
def hopmeshlaw47_GossipSpeaks.T3 : Bool × List (List Nat × List Nat) := (true, [([], []), ([], []), ([], []), ([2], [2]), ([3], [3]), ([0, 1, 4], [0, 1, 4]), ([5], [5]), ([6], [6]), ([6], [6]), ([], []), ([9, 7, 5, 0, 1, 2, 3, 4, 5, 6, 7, 9], [7, 9]), ([8, 10, 0, 1, 2, 3, 4, 5, 6, 7, 8, 9, 10], [8])])
def hopmeshlaw47_GossipSpeaks.B3 : List Nat := [0, 0, 0, 4, 12, 31, 63, 127, 127, 0, 767, 2047]
theorem hopmeshlaw47_GossipSpeaks.tab3 : rtab .any (opsOf Try.f5 3) = hopmeshlaw47_GossipSpeaks.T3 := by kernel_rfl
theorem hopmeshlaw47_GossipSpeaks.bits3 : waitsOk hopmeshlaw47_GossipSpeaks.T3.2 hopmeshlaw47_GossipSpeaks.B3 = true := by kernel_rfl
def hopmeshlaw47_GossipSpeaks.T14 : Bool × List (List Nat × List Nat) := (true, [([], []), ([], []), ([], []), ([], []), ([], []), ([3, 4], [3, 4]), ([5], [5]), ([0, 1, 2, 6], [0, 1, 2, 6]), ([7], [7]), ([8], [8]), ([8], [8]), ([8], [8]), ([9, 7, 0, 1, 2, 3, 4, 5, 6, 7, 8, 9], [9]), ([10, 12, 0, 1, 2, 3, 4, 5, 6, 7, 8, 9, 10, 12], [10]), ([11, 13, 0, 1, 2, 3, 4, 5, 6, 7, 8, 9, 10, 11, 12, 13], [11])])
def hopmeshlaw47_GossipSpeaks.B14 : List Nat := [0, 0, 0, 0, 0, 24, 56, 127, 255, 511, 511, 511, 1023, 6143, 16383]
theorem hopmeshlaw47_GossipSpeaks.tab14 : rtab .any (opsOf Try.f5 14) = hopmeshlaw47_GossipSpeaks.T14 := by kernel_rfl
theorem hopmeshlaw47_GossipSpeaks.bits14 : waitsOk hopmeshlaw47_GossipSpeaks.T14.2 hopmeshlaw47_GossipSpeaks.B14 = true := by kernel_rfl
set_option maxHeartbeats 8000000 in
set_option maxRecDepth 100000 in
theorem hopmeshlaw47_GossipSpeaks.calls (k : Nat) (a0_0 : Int) (a0_1 : Int) (a0_2 : Int) (a1 : Int) (A2 : Option Addr) (c2 : Nat) (l2 : List Int) (r : Bool) (w : World) (hr2 : Kd.C (Kd.int .u32) w A2 l2.length l2) (hc2 : l2.length ≤ c2) (h : hopmeshlaw47_GossipSpeaks.f k a0_0 a0_1 a0_2 a1 l2 = some r) (hr_ : r = true) :
    Calls Try.prog 5 #[.agg #[.int .i64 a0_0, .int .i64 a0_1, .int .i64 a0_2], .int .i64 a1, .slice A2 l2.length c2] w fun e w' => e = .returned (.bool r) ∧ Below w.heap.size w w' := by
  have hu23 := Try.underlying23
  have hu28 := Try.underlying28
  have HRT := Aside0.mk hr_
  clear hr_
  have HR2 := Aside0.mk hr2
  have HC2 := Aside0.mk hc2
  clear hr2 hc2
  have HB := Aside0.mk (Below.refl w.heap.size w)
  have H : ((hopmeshlaw47_awake.f).bind fun t280 => (if t280 = true then (if (l2.length : Int) = 0 then (hopmeshlaw47_GossipSpeaks.j0 k a1 l2 true a0_0 a0_1 a0_2) else (if (l2.length : Int) > 5 then (hopmeshlaw47_GossipSpeaks.j0 k a1 l2 true a0_0 a0_1 a0_2) else ((gossip_Check.f a0_0 a0_1 a0_2).bind fun t281 => (if t281 = 0 then (if a1 < 0 then (hopmeshlaw47_GossipSpeaks.j0 k a1 l2 true a0_0 a0_1 a0_2) else (if a1 > 1048576 then (hopmeshlaw47_GossipSpeaks.j0 k a1 l2 true a0_0 a0_1 a0_2) else ((gossip_Greatest.f a0_0 a0_1 a0_2).bind fun t282 => (hopmeshlaw47_GossipSpeaks.j0 k a1 l2 (decide (t282 > 600)) a0_0 a0_1 a0_2)))) else (hopmeshlaw47_GossipSpeaks.j0 k a1 l2 true a0_0 a0_1 a0_2))))) else (hopmeshlaw47_GossipSpeaks.j0 k a1 l2 true a0_0 a0_1 a0_2))) = some r := h
  clear h
  have HC4 := Aside0.mk H
  clear H
  go_enter Try.func5, Try.ntmps5
  go_upto_region 1 with (first | ((with_reducible refine gate_dst (N := 3) rfl ?_); (try (refine gate_guard (by rfl) ?_; dsimp only)); refine box_event ?hg (N := 3) ?hd (cs := #[.int .i64 a0_0, .int .i64 a0_1, .int .i64 a0_2]) (t := 23) ?hr ?_; (case hd => rfl); (case hg => rfl); (case hr => first | (go_simp; done) | (go_simp; rfl)); intro gb279 hg w5 hbox hb; have n0_ := Aside0.mk (below_step (by repeat (first | (with_reducible first | exact HB.out | apply below_alloc | apply pw_below_drewN | apply below_drew1) | exact HB.out)) hb); have n1_ := Aside0.mk (hbox); have n2_ := Aside0.mk ((by rw [hg]; exact (below_size (by repeat (first | (with_reducible first | exact HB.out | apply below_alloc | apply pw_below_drewN | apply below_drew1) | exact HB.out))) : w.heap.size ≤ gb279)); have n3_ := Aside0.mk ((by rw [hg]; exact (below_size (by repeat (first | (with_reducible first | exact HB.out | apply below_alloc | apply pw_below_drewN | apply below_drew1) | exact HB.out))) : w.heap.size ≤ gb279)); clear HB; have HB := n0_; have BK279 := n1_; have GW279 := n2_; have GE279 := n3_; clear n0_ n1_ n2_ n3_; clear hb hbox hg))
  (try simp only [Act.put, List.setIfInBounds_toArray, List.set_cons_zero, List.set_cons_succ])
  go_cut [43] (fun v43 wc => ∃ (kq : Nat) (x43_3 : Bool), v43 = .bool x43_3 ∧ Aside0 (hopmeshlaw47_GossipSpeaks.j0 kq a1 l2 x43_3 a0_0 a0_1 a0_2 = some r) ∧ Aside0 (kq ≤ k) ∧ Aside0 (wc.heap[gb279]? = some (.cells #[.int .i64 a0_0, .int .i64 a0_1, .int .i64 a0_2] 23 (0, 0))) ∧ Aside0 (Below w.heap.size w wc))
  case first =>
    have H := HC4.out
    clear HC4
    replace H := Option.bind_eq_some_iff.mp H
    obtain ⟨t280, A60, H⟩ := H
    replace H : (if t280 = true then (if (l2.length : Int) = 0 then (hopmeshlaw47_GossipSpeaks.j0 k a1 l2 true a0_0 a0_1 a0_2) else (if (l2.length : Int) > 5 then (hopmeshlaw47_GossipSpeaks.j0 k a1 l2 true a0_0 a0_1 a0_2) else ((gossip_Check.f a0_0 a0_1 a0_2).bind fun t281 => (if t281 = 0 then (if a1 < 0 then (hopmeshlaw47_GossipSpeaks.j0 k a1 l2 true a0_0 a0_1 a0_2) else (if a1 > 1048576 then (hopmeshlaw47_GossipSpeaks.j0 k a1 l2 true a0_0 a0_1 a0_2) else ((gossip_Greatest.f a0_0 a0_1 a0_2).bind fun t282 => (hopmeshlaw47_GossipSpeaks.j0 k a1 l2 (decide (t282 > 600)) a0_0 a0_1 a0_2)))) else (hopmeshlaw47_GossipSpeaks.j0 k a1 l2 true a0_0 a0_1 a0_2))))) else (hopmeshlaw47_GossipSpeaks.j0 k a1 l2 true a0_0 a0_1 a0_2)) = some r := H
    have A6 := Aside0.mk A60
    clear A60
    by_cases c7 : t280 = true
    · subst c7
      have H1 : (if (l2.length : Int) = 0 then (hopmeshlaw47_GossipSpeaks.j0 k a1 l2 true a0_0 a0_1 a0_2) else (if (l2.length : Int) > 5 then (hopmeshlaw47_GossipSpeaks.j0 k a1 l2 true a0_0 a0_1 a0_2) else ((gossip_Check.f a0_0 a0_1 a0_2).bind fun t281 => (if t281 = 0 then (if a1 < 0 then (hopmeshlaw47_GossipSpeaks.j0 k a1 l2 true a0_0 a0_1 a0_2) else (if a1 > 1048576 then (hopmeshlaw47_GossipSpeaks.j0 k a1 l2 true a0_0 a0_1 a0_2) else ((gossip_Greatest.f a0_0 a0_1 a0_2).bind fun t282 => (hopmeshlaw47_GossipSpeaks.j0 k a1 l2 (decide (t282 > 600)) a0_0 a0_1 a0_2)))) else (hopmeshlaw47_GossipSpeaks.j0 k a1 l2 true a0_0 a0_1 a0_2))))) = some r := by rw [if_pos rfl] at H; exact H
      clear H
      have H := H1
      clear H1
      by_cases c8 : (l2.length : Int) = 0
      · rw [if_pos c8] at H
        have c8b0 : ((l2.length : Int) == 0) = true := beq_iff_eq.mpr c8
        have c8b1 : ((l2.length : Int) != 0) = false := bne_eq_false_iff_eq.mpr c8
        clear c8
        (first | rw [c8b0] | (simp only [i64_w, i32_w]; rw [c8b0]) | skip)
        have H' := Aside0.mk H
        clear H
        go_wp2_with (first | ((with_reducible refine gate_callee (f := 9) rfl ?_); refine goesL_ (some 14) rfl rfl Try.func9 (by kernel_rfl) rfl #[] rfl (by (try simp only [List.map_toArray, List.map_cons, List.map_nil]); first | done | rfl | (simp only [List.length_drop, List.length_take]; rfl)) ?_; (with_reducible refine (hopmeshlaw47_awake.calls  true _ A6.out).mono ?_); rintro e w9 ⟨rfl, hb⟩; refine ⟨_, rfl, ?_⟩; have n0_ := Aside0.mk (blk_below (g := gb279) (o := .cells #[.int .i64 a0_0, .int .i64 a0_1, .int .i64 a0_2] 23 (0, 0)) (by (with_reducible repeat (first | refine blk_drewN ?_ _ | refine blk_drew ?_ | refine blk_alloc ?_ _)); exact BK279.out) hb); have n1_ := Aside0.mk (below_step (by repeat (first | (with_reducible first | exact HB.out | apply below_alloc | apply pw_below_drewN | apply below_drew1 | refine below_set ?_ GE279.out) | exact HB.out)) hb); clear BK279; clear HB; have BK279 := n0_; have HB := n1_; clear n0_ n1_; (try clear hb); (try clear hb2); (try clear hk); (try clear hi)))
        go_meet
        case rel => exact ⟨_, (true), (by first | rfl | (simp; done) | (simp [*]; done)), H', ⟨by first | omega | exact Nat.le_refl _⟩, ⟨by (with_reducible repeat (first | refine blk_drewN ?_ _ | refine blk_drew ?_ | refine blk_alloc ?_ _)); exact BK279.out⟩, ⟨by repeat (first | (with_reducible first | exact HB.out | apply below_alloc | apply pw_below_drewN | apply below_drew1 | refine below_set ?_ GE279.out) | exact HB.out)⟩⟩
      · rw [if_neg c8] at H
        have c8b0 : ((l2.length : Int) == 0) = false := beq_eq_false_iff_ne.mpr c8
        have c8b1 : ((l2.length : Int) != 0) = true := bne_iff_ne.mpr c8
        have c8b2 : ¬ (l2 = []) := fun h_ => c8 (by rw [h_]; rfl)
        (first | rw [c8b0] | (simp only [i64_w, i32_w]; rw [c8b0]) | skip)
        by_cases c10 : (l2.length : Int) > 5
        · rw [if_pos c10] at H
          have c10b0 : decide (5 < (l2.length : Int)) = true := decide_eq_true c10
          have c10b1 : decide (5 < l2.length) = true := decide_eq_true (by omega)
          clear c10
          have H' := Aside0.mk H
          clear H
          go_wp2_with (first | ((with_reducible refine gate_callee (f := 9) rfl ?_); refine goesL_ (some 14) rfl rfl Try.func9 (by kernel_rfl) rfl #[] rfl (by (try simp only [List.map_toArray, List.map_cons, List.map_nil]); first | done | rfl | (simp only [List.length_drop, List.length_take]; rfl)) ?_; (with_reducible refine (hopmeshlaw47_awake.calls  true _ A6.out).mono ?_); rintro e w11 ⟨rfl, hb⟩; refine ⟨_, rfl, ?_⟩; have n0_ := Aside0.mk (blk_below (g := gb279) (o := .cells #[.int .i64 a0_0, .int .i64 a0_1, .int .i64 a0_2] 23 (0, 0)) (by (with_reducible repeat (first | refine blk_drewN ?_ _ | refine blk_drew ?_ | refine blk_alloc ?_ _)); exact BK279.out) hb); have n1_ := Aside0.mk (below_step (by repeat (first | (with_reducible first | exact HB.out | apply below_alloc | apply pw_below_drewN | apply below_drew1 | refine below_set ?_ GE279.out) | exact HB.out)) hb); clear BK279; clear HB; have BK279 := n0_; have HB := n1_; clear n0_ n1_; (try clear hb); (try clear hb2); (try clear hk); (try clear hi)))
          go_meet
          case rel => exact ⟨_, (true), (by first | rfl | (simp; done) | (simp [*]; done)), H', ⟨by first | omega | exact Nat.le_refl _⟩, ⟨by (with_reducible repeat (first | refine blk_drewN ?_ _ | refine blk_drew ?_ | refine blk_alloc ?_ _)); exact BK279.out⟩, ⟨by repeat (first | (with_reducible first | exact HB.out | apply below_alloc | apply pw_below_drewN | apply below_drew1 | refine below_set ?_ GE279.out) | exact HB.out)⟩⟩
        · rw [if_neg c10] at H
          have c10b0 : decide (5 < (l2.length : Int)) = false := decide_eq_false c10
          have c10b1 : decide (5 < l2.length) = false := decide_eq_false (by omega)
          clear c10
          replace H := Option.bind_eq_some_iff.mp H
          obtain ⟨t281, A120, H⟩ := H
          replace H : (if t281 = 0 then (if a1 < 0 then (hopmeshlaw47_GossipSpeaks.j0 k a1 l2 true a0_0 a0_1 a0_2) else (if a1 > 1048576 then (hopmeshlaw47_GossipSpeaks.j0 k a1 l2 true a0_0 a0_1 a0_2) else ((gossip_Greatest.f a0_0 a0_1 a0_2).bind fun t282 => (hopmeshlaw47_GossipSpeaks.j0 k a1 l2 (decide (t282 > 600)) a0_0 a0_1 a0_2)))) else (hopmeshlaw47_GossipSpeaks.j0 k a1 l2 true a0_0 a0_1 a0_2)) = some r := H
          have A12 := Aside0.mk A120
          clear A120
          by_cases c13 : t281 = 0
          · rw [if_pos c13] at H
            have c13b0 : (t281 == 0) = true := beq_iff_eq.mpr c13
            have c13b1 : (t281 != 0) = false := bne_eq_false_iff_eq.mpr c13
            clear c13
            by_cases c14 : a1 < 0
            · rw [if_pos c14] at H
              have c14b0 : decide (a1 < 0) = true := decide_eq_true c14
              clear c14
              have H' := Aside0.mk H
              clear H
              go_wp2_with (first | ((with_reducible refine gate_callee (f := 9) rfl ?_); refine goesL_ (some 14) rfl rfl Try.func9 (by kernel_rfl) rfl #[] rfl (by (try simp only [List.map_toArray, List.map_cons, List.map_nil]); first | done | rfl | (simp only [List.length_drop, List.length_take]; rfl)) ?_; (with_reducible refine (hopmeshlaw47_awake.calls  true _ A6.out).mono ?_); rintro e w15 ⟨rfl, hb⟩; refine ⟨_, rfl, ?_⟩; have n0_ := Aside0.mk (blk_below (g := gb279) (o := .cells #[.int .i64 a0_0, .int .i64 a0_1, .int .i64 a0_2] 23 (0, 0)) (by (with_reducible repeat (first | refine blk_drewN ?_ _ | refine blk_drew ?_ | refine blk_alloc ?_ _)); exact BK279.out) hb); have n1_ := Aside0.mk (below_step (by repeat (first | (with_reducible first | exact HB.out | apply below_alloc | apply pw_below_drewN | apply below_drew1 | refine below_set ?_ GE279.out) | exact HB.out)) hb); clear BK279; clear HB; have BK279 := n0_; have HB := n1_; clear n0_ n1_; (try clear hb); (try clear hb2); (try clear hk); (try clear hi); have hcz16_0 : w15.cell? ⟨gb279, 0, none⟩ = some (.int .i64 a0_0) := (blk_cell BK279.out 0).trans rfl; have hcz16_1 : w15.cell? ⟨gb279, 1, none⟩ = some (.int .i64 a0_1) := (blk_cell BK279.out 1).trans rfl; have hcz16_2 : w15.cell? ⟨gb279, 2, none⟩ = some (.int .i64 a0_2) := (blk_cell BK279.out 2).trans rfl; have hfz16_0 := blk_frozen BK279.out 0; have hfz16_1 := blk_frozen BK279.out 1; have hfz16_2 := blk_frozen BK279.out 2) | (go_at_call 18; (with_reducible refine (gossip_Check.calls a0_0 a0_1 a0_2 t281 _ A12.out).mono ?_); rintro e w17 ⟨rfl, hb⟩; have n0_ := Aside0.mk (blk_below (g := gb279) (o := .cells #[.int .i64 a0_0, .int .i64 a0_1, .int .i64 a0_2] 23 (0, 0)) (by (with_reducible repeat (first | refine blk_drewN ?_ _ | refine blk_drew ?_ | refine blk_alloc ?_ _)); exact BK279.out) hb); have n1_ := Aside0.mk (below_step (by repeat (first | (with_reducible first | exact HB.out | apply below_alloc | apply pw_below_drewN | apply below_drew1 | refine below_set ?_ GE279.out) | exact HB.out)) hb); clear BK279; clear HB; have BK279 := n0_; have HB := n1_; clear n0_ n1_; (try clear hb); (try clear hb2); (try clear hk); (try clear hi)))
              go_meet
              case rel => exact ⟨_, (true), (by first | rfl | (simp; done) | (simp [*]; done)), H', ⟨by first | omega | exact Nat.le_refl _⟩, ⟨by (with_reducible repeat (first | refine blk_drewN ?_ _ | refine blk_drew ?_ | refine blk_alloc ?_ _)); exact BK279.out⟩, ⟨by repeat (first | (with_reducible first | exact HB.out | apply below_alloc | apply pw_below_drewN | apply below_drew1 | refine below_set ?_ GE279.out) | exact HB.out)⟩⟩
            · rw [if_neg c14] at H
              have c14b0 : decide (a1 < 0) = false := decide_eq_false c14
              clear c14
              by_cases c18 : a1 > 1048576
              · rw [if_pos c18] at H
                have c18b0 : decide (1048576 < a1) = true := decide_eq_true c18
                clear c18
                have H' := Aside0.mk H
                clear H
                go_wp2_with (first | ((with_reducible refine gate_callee (f := 9) rfl ?_); refine goesL_ (some 14) rfl rfl Try.func9 (by kernel_rfl) rfl #[] rfl (by (try simp only [List.map_toArray, List.map_cons, List.map_nil]); first | done | rfl | (simp only [List.length_drop, List.length_take]; rfl)) ?_; (with_reducible refine (hopmeshlaw47_awake.calls  true _ A6.out).mono ?_); rintro e w19 ⟨rfl, hb⟩; refine ⟨_, rfl, ?_⟩; have n0_ := Aside0.mk (blk_below (g := gb279) (o := .cells #[.int .i64 a0_0, .int .i64 a0_1, .int .i64 a0_2] 23 (0, 0)) (by (with_reducible repeat (first | refine blk_drewN ?_ _ | refine blk_drew ?_ | refine blk_alloc ?_ _)); exact BK279.out) hb); have n1_ := Aside0.mk (below_step (by repeat (first | (with_reducible first | exact HB.out | apply below_alloc | apply pw_below_drewN | apply below_drew1 | refine below_set ?_ GE279.out) | exact HB.out)) hb); clear BK279; clear HB; have BK279 := n0_; have HB := n1_; clear n0_ n1_; (try clear hb); (try clear hb2); (try clear hk); (try clear hi); have hcz20_0 : w19.cell? ⟨gb279, 0, none⟩ = some (.int .i64 a0_0) := (blk_cell BK279.out 0).trans rfl; have hcz20_1 : w19.cell? ⟨gb279, 1, none⟩ = some (.int .i64 a0_1) := (blk_cell BK279.out 1).trans rfl; have hcz20_2 : w19.cell? ⟨gb279, 2, none⟩ = some (.int .i64 a0_2) := (blk_cell BK279.out 2).trans rfl; have hfz20_0 := blk_frozen BK279.out 0; have hfz20_1 := blk_frozen BK279.out 1; have hfz20_2 := blk_frozen BK279.out 2) | (go_at_call 18; (with_reducible refine (gossip_Check.calls a0_0 a0_1 a0_2 t281 _ A12.out).mono ?_); rintro e w21 ⟨rfl, hb⟩; have n0_ := Aside0.mk (blk_below (g := gb279) (o := .cells #[.int .i64 a0_0, .int .i64 a0_1, .int .i64 a0_2] 23 (0, 0)) (by (with_reducible repeat (first | refine blk_drewN ?_ _ | refine blk_drew ?_ | refine blk_alloc ?_ _)); exact BK279.out) hb); have n1_ := Aside0.mk (below_step (by repeat (first | (with_reducible first | exact HB.out | apply below_alloc | apply pw_below_drewN | apply below_drew1 | refine below_set ?_ GE279.out) | exact HB.out)) hb); clear BK279; clear HB; have BK279 := n0_; have HB := n1_; clear n0_ n1_; (try clear hb); (try clear hb2); (try clear hk); (try clear hi)))
                go_meet
                case rel => exact ⟨_, (true), (by first | rfl | (simp; done) | (simp [*]; done)), H', ⟨by first | omega | exact Nat.le_refl _⟩, ⟨by (with_reducible repeat (first | refine blk_drewN ?_ _ | refine blk_drew ?_ | refine blk_alloc ?_ _)); exact BK279.out⟩, ⟨by repeat (first | (with_reducible first | exact HB.out | apply below_alloc | apply pw_below_drewN | apply below_drew1 | refine below_set ?_ GE279.out) | exact HB.out)⟩⟩
              · rw [if_neg c18] at H
                have c18b0 : decide (1048576 < a1) = false := decide_eq_false c18
                clear c18
                replace H := Option.bind_eq_some_iff.mp H
                obtain ⟨t282, A220, H⟩ := H
                replace H : (hopmeshlaw47_GossipSpeaks.j0 k a1 l2 (decide (t282 > 600)) a0_0 a0_1 a0_2) = some r := H
                have A22 := Aside0.mk A220
                clear A220
                have H' := Aside0.mk H
                clear H
                go_wp2_with (first | ((with_reducible refine gate_callee (f := 9) rfl ?_); refine goesL_ (some 14) rfl rfl Try.func9 (by kernel_rfl) rfl #[] rfl (by (try simp only [List.map_toArray, List.map_cons, List.map_nil]); first | done | rfl | (simp only [List.length_drop, List.length_take]; rfl)) ?_; (with_reducible refine (hopmeshlaw47_awake.calls  true _ A6.out).mono ?_); rintro e w23 ⟨rfl, hb⟩; refine ⟨_, rfl, ?_⟩; have n0_ := Aside0.mk (blk_below (g := gb279) (o := .cells #[.int .i64 a0_0, .int .i64 a0_1, .int .i64 a0_2] 23 (0, 0)) (by (with_reducible repeat (first | refine blk_drewN ?_ _ | refine blk_drew ?_ | refine blk_alloc ?_ _)); exact BK279.out) hb); have n1_ := Aside0.mk (below_step (by repeat (first | (with_reducible first | exact HB.out | apply below_alloc | apply pw_below_drewN | apply below_drew1 | refine below_set ?_ GE279.out) | exact HB.out)) hb); clear BK279; clear HB; have BK279 := n0_; have HB := n1_; clear n0_ n1_; (try clear hb); (try clear hb2); (try clear hk); (try clear hi); have hcz24_0 : w23.cell? ⟨gb279, 0, none⟩ = some (.int .i64 a0_0) := (blk_cell BK279.out 0).trans rfl; have hcz24_1 : w23.cell? ⟨gb279, 1, none⟩ = some (.int .i64 a0_1) := (blk_cell BK279.out 1).trans rfl; have hcz24_2 : w23.cell? ⟨gb279, 2, none⟩ = some (.int .i64 a0_2) := (blk_cell BK279.out 2).trans rfl; have hfz24_0 := blk_frozen BK279.out 0; have hfz24_1 := blk_frozen BK279.out 1; have hfz24_2 := blk_frozen BK279.out 2) | (go_at_call 18; (with_reducible refine (gossip_Check.calls a0_0 a0_1 a0_2 t281 _ A12.out).mono ?_); rintro e w25 ⟨rfl, hb⟩; have n0_ := Aside0.mk (blk_below (g := gb279) (o := .cells #[.int .i64 a0_0, .int .i64 a0_1, .int .i64 a0_2] 23 (0, 0)) (by (with_reducible repeat (first | refine blk_drewN ?_ _ | refine blk_drew ?_ | refine blk_alloc ?_ _)); exact BK279.out) hb); have n1_ := Aside0.mk (below_step (by repeat (first | (with_reducible first | exact HB.out | apply below_alloc | apply pw_below_drewN | apply below_drew1 | refine below_set ?_ GE279.out) | exact HB.out)) hb); clear BK279; clear HB; have BK279 := n0_; have HB := n1_; clear n0_ n1_; (try clear hb); (try clear hb2); (try clear hk); (try clear hi); have hcz26_0 : w25.cell? ⟨gb279, 0, none⟩ = some (.int .i64 a0_0) := (blk_cell BK279.out 0).trans rfl; have hcz26_1 : w25.cell? ⟨gb279, 1, none⟩ = some (.int .i64 a0_1) := (blk_cell BK279.out 1).trans rfl; have hcz26_2 : w25.cell? ⟨gb279, 2, none⟩ = some (.int .i64 a0_2) := (blk_cell BK279.out 2).trans rfl; have hfz26_0 := blk_frozen BK279.out 0; have hfz26_1 := blk_frozen BK279.out 1; have hfz26_2 := blk_frozen BK279.out 2) | (go_at_call 17; (with_reducible refine (gossip_Greatest.calls a0_0 a0_1 a0_2 t282 _ A22.out).mono ?_); rintro e w27 ⟨rfl, hb⟩; have n0_ := Aside0.mk (blk_below (g := gb279) (o := .cells #[.int .i64 a0_0, .int .i64 a0_1, .int .i64 a0_2] 23 (0, 0)) (by (with_reducible repeat (first | refine blk_drewN ?_ _ | refine blk_drew ?_ | refine blk_alloc ?_ _)); exact BK279.out) hb); have n1_ := Aside0.mk (below_step (by repeat (first | (with_reducible first | exact HB.out | apply below_alloc | apply pw_below_drewN | apply below_drew1 | refine below_set ?_ GE279.out) | exact HB.out)) hb); clear BK279; clear HB; have BK279 := n0_; have HB := n1_; clear n0_ n1_; (try clear hb); (try clear hb2); (try clear hk); (try clear hi)))
                go_meet
                case rel => exact ⟨_, (decide (t282 > 600)), (by first | rfl | (simp; done) | (simp [*]; done)), H', ⟨by first | omega | exact Nat.le_refl _⟩, ⟨by (with_reducible repeat (first | refine blk_drewN ?_ _ | refine blk_drew ?_ | refine blk_alloc ?_ _)); exact BK279.out⟩, ⟨by repeat (first | (with_reducible first | exact HB.out | apply below_alloc | apply pw_below_drewN | apply below_drew1 | refine below_set ?_ GE279.out) | exact HB.out)⟩⟩
          · rw [if_neg c13] at H
            have c13b0 : (t281 == 0) = false := beq_eq_false_iff_ne.mpr c13
            have c13b1 : (t281 != 0) = true := bne_iff_ne.mpr c13
            have H' := Aside0.mk H
            clear H
            go_wp2_with (first | ((with_reducible refine gate_callee (f := 9) rfl ?_); refine goesL_ (some 14) rfl rfl Try.func9 (by kernel_rfl) rfl #[] rfl (by (try simp only [List.map_toArray, List.map_cons, List.map_nil]); first | done | rfl | (simp only [List.length_drop, List.length_take]; rfl)) ?_; (with_reducible refine (hopmeshlaw47_awake.calls  true _ A6.out).mono ?_); rintro e w28 ⟨rfl, hb⟩; refine ⟨_, rfl, ?_⟩; have n0_ := Aside0.mk (blk_below (g := gb279) (o := .cells #[.int .i64 a0_0, .int .i64 a0_1, .int .i64 a0_2] 23 (0, 0)) (by (with_reducible repeat (first | refine blk_drewN ?_ _ | refine blk_drew ?_ | refine blk_alloc ?_ _)); exact BK279.out) hb); have n1_ := Aside0.mk (below_step (by repeat (first | (with_reducible first | exact HB.out | apply below_alloc | apply pw_below_drewN | apply below_drew1 | refine below_set ?_ GE279.out) | exact HB.out)) hb); clear BK279; clear HB; have BK279 := n0_; have HB := n1_; clear n0_ n1_; (try clear hb); (try clear hb2); (try clear hk); (try clear hi); have hcz29_0 : w28.cell? ⟨gb279, 0, none⟩ = some (.int .i64 a0_0) := (blk_cell BK279.out 0).trans rfl; have hcz29_1 : w28.cell? ⟨gb279, 1, none⟩ = some (.int .i64 a0_1) := (blk_cell BK279.out 1).trans rfl; have hcz29_2 : w28.cell? ⟨gb279, 2, none⟩ = some (.int .i64 a0_2) := (blk_cell BK279.out 2).trans rfl; have hfz29_0 := blk_frozen BK279.out 0; have hfz29_1 := blk_frozen BK279.out 1; have hfz29_2 := blk_frozen BK279.out 2) | (go_at_call 18; (with_reducible refine (gossip_Check.calls a0_0 a0_1 a0_2 t281 _ A12.out).mono ?_); rintro e w30 ⟨rfl, hb⟩; have n0_ := Aside0.mk (blk_below (g := gb279) (o := .cells #[.int .i64 a0_0, .int .i64 a0_1, .int .i64 a0_2] 23 (0, 0)) (by (with_reducible repeat (first | refine blk_drewN ?_ _ | refine blk_drew ?_ | refine blk_alloc ?_ _)); exact BK279.out) hb); have n1_ := Aside0.mk (below_step (by repeat (first | (with_reducible first | exact HB.out | apply below_alloc | apply pw_below_drewN | apply below_drew1 | refine below_set ?_ GE279.out) | exact HB.out)) hb); clear BK279; clear HB; have BK279 := n0_; have HB := n1_; clear n0_ n1_; (try clear hb); (try clear hb2); (try clear hk); (try clear hi)))
            go_meet
            case rel => exact ⟨_, (true), (by first | rfl | (simp; done) | (simp [*]; done)), H', ⟨by first | omega | exact Nat.le_refl _⟩, ⟨by (with_reducible repeat (first | refine blk_drewN ?_ _ | refine blk_drew ?_ | refine blk_alloc ?_ _)); exact BK279.out⟩, ⟨by repeat (first | (with_reducible first | exact HB.out | apply below_alloc | apply pw_below_drewN | apply below_drew1 | refine below_set ?_ GE279.out) | exact HB.out)⟩⟩
    · replace c7 := Bool.eq_false_iff.mpr c7
      subst c7
      have H1 : (hopmeshlaw47_GossipSpeaks.j0 k a1 l2 true a0_0 a0_1 a0_2) = some r := by rw [if_neg (show ¬ (false = true) by decide)] at H; exact H
      clear H
      have H := H1
      clear H1
      have H' := Aside0.mk H
      clear H
      go_wp2_with (first | ((with_reducible refine gate_callee (f := 9) rfl ?_); refine goesL_ (some 14) rfl rfl Try.func9 (by kernel_rfl) rfl #[] rfl (by (try simp only [List.map_toArray, List.map_cons, List.map_nil]); first | done | rfl | (simp only [List.length_drop, List.length_take]; rfl)) ?_; (with_reducible refine (hopmeshlaw47_awake.calls  false _ A6.out).mono ?_); rintro e w31 ⟨rfl, hb⟩; refine ⟨_, rfl, ?_⟩; have n0_ := Aside0.mk (blk_below (g := gb279) (o := .cells #[.int .i64 a0_0, .int .i64 a0_1, .int .i64 a0_2] 23 (0, 0)) (by (with_reducible repeat (first | refine blk_drewN ?_ _ | refine blk_drew ?_ | refine blk_alloc ?_ _)); exact BK279.out) hb); have n1_ := Aside0.mk (below_step (by repeat (first | (with_reducible first | exact HB.out | apply below_alloc | apply pw_below_drewN | apply below_drew1 | refine below_set ?_ GE279.out) | exact HB.out)) hb); clear BK279; clear HB; have BK279 := n0_; have HB := n1_; clear n0_ n1_; (try clear hb); (try clear hb2); (try clear hk); (try clear hi)))
      go_meet
      case rel => exact ⟨_, (true), (by first | rfl | (simp; done) | (simp [*]; done)), H', ⟨by first | omega | exact Nat.le_refl _⟩, ⟨by (with_reducible repeat (first | refine blk_drewN ?_ _ | refine blk_drew ?_ | refine blk_alloc ?_ _)); exact BK279.out⟩, ⟨by repeat (first | (with_reducible first | exact HB.out | apply below_alloc | apply pw_below_drewN | apply below_drew1 | refine below_set ?_ GE279.out) | exact HB.out)⟩⟩
  case rest =>
    clear HC4
    try clear c1
    try clear c2
    try clear p2
    try clear c5
    try clear c7
    try clear c8
    try clear c8b0
    try clear c8b1
    try clear c8b2
    try clear c9
    try clear c10
    try clear c10b0
    try clear c10b1
    try clear c13
    try clear c13b0
    try clear c13b1
    try clear c14
    try clear c14b0
    try clear c18
    try clear c18b0
    try clear hcz16_0
    try clear hcz16_1
    try clear hcz16_2
    try clear hcz20_0
    try clear hcz20_1
    try clear hcz20_2
    try clear hcz24_0
    try clear hcz24_1
    try clear hcz24_2
    try clear hcz26_0
    try clear hcz26_1
    try clear hcz26_2
    try clear hcz29_0
    try clear hcz29_1
    try clear hcz29_2
    try clear hfz16_0
    try clear hfz16_1
    try clear hfz16_2
    try clear hfz20_0
    try clear hfz20_1
    try clear hfz20_2
    try clear hfz24_0
    try clear hfz24_1
    try clear hfz24_2
    try clear hfz26_0
    try clear hfz26_1
    try clear hfz26_2
    try clear hfz29_0
    try clear hfz29_1
    try clear hfz29_2
    obtain ⟨kq, x43_3, rfl, HA, HJ3, BK279, HB⟩ := hcut
    cases kq with
    | zero => exact absurd HA.out (by simp [hopmeshlaw47_GossipSpeaks.j0])
    | succ kj3 =>
      have H := HA.out
      clear HA
      simp only [hopmeshlaw47_GossipSpeaks.j0] at H
      by_cases c32 : x43_3 = true
      · subst c32
        have H1 : ((hopmeshlaw47_awake.f).bind fun t283 => (some t283)) = some r := by rw [if_pos rfl] at H; exact H
        clear H
        have H := H1
        clear H1
        replace H := Option.bind_eq_some_iff.mp H
        obtain ⟨t283, A330, H⟩ := H
        replace H : (some t283) = some r := H
        have A33 := Aside0.mk A330
        clear A330
        obtain rfl := Option.some.inj H
        go_wp2_with (first | ((with_reducible refine gate_callee (f := 9) rfl ?_); refine goesL_ (some 44) rfl rfl Try.func9 (by kernel_rfl) rfl #[] rfl (by (try simp only [List.map_toArray, List.map_cons, List.map_nil]); first | done | rfl | (simp only [List.length_drop, List.length_take]; rfl)) ?_; (with_reducible refine (hopmeshlaw47_awake.calls  t283 _ A33.out).mono ?_); rintro e w34 ⟨rfl, hb⟩; refine ⟨_, rfl, ?_⟩; have n0_ := Aside0.mk (blk_below (g := gb279) (o := .cells #[.int .i64 a0_0, .int .i64 a0_1, .int .i64 a0_2] 23 (0, 0)) (by (with_reducible repeat (first | refine blk_drewN ?_ _ | refine blk_drew ?_ | refine blk_alloc ?_ _)); exact BK279.out) hb); have n1_ := Aside0.mk (below_step (by repeat (first | (with_reducible first | exact HB.out | apply below_alloc | apply pw_below_drewN | apply below_drew1 | refine below_set ?_ GE279.out) | exact HB.out)) hb); clear BK279; clear HB; have BK279 := n0_; have HB := n1_; clear n0_ n1_; (try clear hb); (try clear hb2); (try clear hk); (try clear hi)))
        go_ret
        exact ⟨by first | rfl | (simp [errW_none, errW_some] <;> rfl) | (simp [*, errW_none, errW_some] <;> rfl), by repeat (first | (with_reducible first | exact HB.out | apply below_alloc | apply pw_below_drewN | apply below_drew1 | refine below_set ?_ GE279.out) | exact HB.out)⟩
      · replace c32 := Bool.eq_false_iff.mpr c32
        subst c32
        have H1 : (if 0 < (l2.length : Int) then ((gossip_Start.f a0_0 a0_1 a0_2 a1 (rd l2 0)).bind fun bt285 => (if bt285.2.2.2.2 = 0 then (hopmeshlaw47_GossipSpeaks.l0 kj3 l2 a0_0 a1 (l2.length : Int) 0 a0_0 a0_1 a0_2 bt285.1 bt285.2.1 bt285.2.2.1 bt285.2.2.2.1) else (some false))) else (none)) = some r := by rw [if_neg (show ¬ (false = true) by decide)] at H; exact H
        clear H
        have H := H1
        clear H1
        by_cases c35 : 0 < (l2.length : Int)
        · rw [if_pos c35] at H
          have c35b0 : decide (0 < (l2.length : Int)) = true := decide_eq_true c35
          have c35b1 : decide (0 < l2.length) = true := decide_eq_true (by omega)
          clear c35
          replace H := Option.bind_eq_some_iff.mp H
          obtain ⟨⟨t285, t286, t287, t288, t289⟩, A360, H⟩ := H
          replace H : (if t289 = 0 then (hopmeshlaw47_GossipSpeaks.l0 kj3 l2 a0_0 a1 (l2.length : Int) 0 a0_0 a0_1 a0_2 t285 t286 t287 t288) else (some false)) = some r := H
          have A36 := Aside0.mk A360
          clear A360
          by_cases c37 : t289 = 0
          · rw [if_pos c37] at H
            have c37b0 : (t289 == 0) = true := beq_iff_eq.mpr c37
            have c37b1 : (t289 != 0) = false := bne_eq_false_iff_eq.mpr c37
            clear c37
            have H' := Aside0.mk H
            clear H
            try go_wp2
            have n0_ := Aside0.mk (blk_drew BK279.out)
            have n1_ := Aside0.mk (below_drew1 HB.out)
            clear BK279
            clear HB
            have BK279 := n0_
            have HB := n1_
            clear n0_ n1_
            have p284 : 0 ≤ (0 : Int) := (by omega)
            have q284 : 0 < (l2.length : Int) := of_decide_eq_true (by first | (with_reducible assumption) | assumption)
            obtain ⟨ad284, e284, hx284_0⟩ := Kd.at_int HR2.out 0 p284 q284
            have hw284_0 := hx284_0
            (try rw [show ((0 : Int)).toNat = 0 from rfl] at hw284_0)
            (try rw [show 0 * 1 = 0 from rfl] at hw284_0)
            (try rw [Addr.add_zero'] at hw284_0)
            cases e284
            have qi284 : (0 < l2.length) = True := eq_true (by omega)
            (try rw [show ((0 : Int)).toNat = 0 from rfl] at hx284_0)
            (try rw [Addr.add_zero'] at hx284_0)
            replace hx284_0 := (HB.out.cell (World.block_lt_of_cell? w _ hx284_0)).trans hx284_0
            replace p284 := eq_true p284
            replace q284 := eq_true q284
            refine start_ (n := 12) (S := fun w' => w'.cell? ⟨gb279, 0, none⟩ = some (.int .i64 a0_0) ∧ w'.cell? ⟨gb279, 1, none⟩ = some (.int .i64 a0_1) ∧ w'.cell? ⟨gb279, 2, none⟩ = some (.int .i64 a0_2) ∧ w'.cell? ad284 = some (.int .u32 (rd l2 0))) (ds := []) #[false, false, false, false, false, false, false, false, false, false, false, false] (by kernel_rfl) rfl rfl ⟨(blk_cell BK279.out 0).trans rfl, (blk_cell BK279.out 1).trans rfl, (blk_cell BK279.out 2).trans rfl, ((HB.out.cell (World.block_lt_of_cell? w _ hw284_0)).trans hw284_0)⟩ (fun hHeld => ?_); refine with_tabW hopmeshlaw47_GossipSpeaks.tab3 hopmeshlaw47_GossipSpeaks.bits3 (fun HT_ HW_ => ?_)
            generalize wc.drew = w38 at BK279 HB hx284_0 hHeld ⊢
            refine pure_ (i := 1) (N := some 47) (v := ?_) (a' := ?_) #[false, true, false, false, false, false, false, false, false, false, false, false] rfl rfl (any_of HT_.out (by kernel_rfl)) (fun _ _ _ h => h) (Or.inl ⟨by rfl, ?_⟩) ?_ ?_
            rotate_left
            · intro w'
              go_simp
              with_reducible rfl
            rotate_left
            · simp only [Act.put, List.setIfInBounds_toArray, List.set_cons_zero, List.set_cons_succ, i64_w, i32_w]
              rfl
            refine pure_ (i := 2) (N := some 48) (v := ?_) (a' := ?_) #[false, true, true, false, false, false, false, false, false, false, false, false] rfl rfl (any_of HT_.out (by kernel_rfl)) (fun _ _ _ h => h) (Or.inl ⟨by rfl, ?_⟩) ?_ ?_
            rotate_left
            · intro w'
              go_simp
              with_reducible rfl
            rotate_left
            · simp only [Act.put, List.setIfInBounds_toArray, List.set_cons_zero, List.set_cons_succ, i64_w, i32_w]
              rfl
            refine pure_ (i := 3) (N := some 49) (v := ?_) (a' := ?_) #[false, true, true, true, false, false, false, false, false, false, false, false] rfl rfl (any_of HT_.out (by kernel_rfl)) (fun _ _ _ h => h) (Or.inl ⟨by rfl, ?_⟩) ?_ ?_
            rotate_left
            · intro w'
              go_simp
              with_reducible rfl
            rotate_left
            · simp only [Act.put, List.setIfInBounds_toArray, List.set_cons_zero, List.set_cons_succ, i64_w, i32_w]
              rfl
            refine take_ (i := 0) (N := some 46) (v := ?_) (a' := ?_) #[true, true, true, true, false, false, false, false, false, false, false, false] rfl rfl (take_ofW HT_.out HW_.out (by kernel_rfl)) (fun _ _ _ h => h) (Or.inl ⟨by rfl, ?_⟩) hHeld ?_ ?_
            rotate_left
            · rintro w' ⟨s0, s1, s2, s3⟩
              go_simp
              with_reducible rfl
            rotate_left
            · simp only [Act.put, List.setIfInBounds_toArray, List.set_cons_zero, List.set_cons_succ, i64_w, i32_w]
              rfl
            refine take_ (i := 4) (N := some 50) (v := ?_) (a' := ?_) #[true, true, true, true, true, false, false, false, false, false, false, false] rfl rfl (take_ofW HT_.out HW_.out (by kernel_rfl)) (fun _ _ _ h => h) (Or.inl ⟨by rfl, ?_⟩) hHeld ?_ ?_
            rotate_left
            · rintro w' ⟨s0, s1, s2, s3⟩
              go_simp
              with_reducible rfl
            rotate_left
            · simp only [Act.put, List.setIfInBounds_toArray, List.set_cons_zero, List.set_cons_succ, i64_w, i32_w]
              rfl
            refine join_ (σ := Nat) 2 #[true, true, true, true, true, true, true, true, true, true, false, false] (fun s_ => [(51, .tuple #[.agg #[.int .i64 t285, .int .i64 t286, .int .i64 t287, .int .i64 t288], .int .i64 t289]), (7, .pointer (some ⟨s_, 0, none⟩)), (45, .tuple #[.agg #[.int .i64 t285, .int .i64 t286, .int .i64 t287, .int .i64 t288], .int .i64 t289]), (52, .agg #[.int .i64 t285, .int .i64 t286, .int .i64 t287, .int .i64 t288]), (53, .int .i64 t289)]) (fun s_ w' => (w'.cell? ⟨gb279, 0, none⟩ = some (.int .i64 a0_0) ∧ w'.cell? ⟨gb279, 1, none⟩ = some (.int .i64 a0_1) ∧ w'.cell? ⟨gb279, 2, none⟩ = some (.int .i64 a0_2) ∧ w'.cell? ad284 = some (.int .u32 (rd l2 0))) ∧ (w'.heap[gb279]? = some (.cells #[.int .i64 a0_0, .int .i64 a0_1, .int .i64 a0_2] 23 (0, 0))) ∧ (w'.heap[s_]? = some (.cells #[.int .i64 0, .int .i64 0, .int .i64 0, .int .i64 0] 28 (0, 0))) ∧ (w.heap.size ≤ s_) ∧ (w.heap.size ≤ s_) ∧ (gb279 ≠ s_) ∧ (s_ ≠ gb279) ∧ (Below w.heap.size w w')) ?_ ?_
            rotate_left
            · intro hCont
              refine two_ (i := 5) (j := 9) (Ni := some 51) (Nj := some 7) #[true, true, true, true, true, true, false, false, false, false, false, false] #[true, true, true, true, true, false, false, false, false, true, false, false] rfl rfl rfl rfl (two_of HT_.out (by kernel_rfl)) (by decide) (by decide) (fun K hK => ?_) (fun K hK => ?_)
              · skip
                refine goes_ Try.func10 (by kernel_rfl) rfl #[.agg #[.int .i64 a0_0, .int .i64 a0_1, .int .i64 a0_2], .int .i64 a1, .int .u32 (rd l2 0)] (by rfl) rfl rfl (by (try simp only [List.map_toArray, List.map_cons, List.map_nil]); first | done | rfl | (simp only [List.length_drop, List.length_take]; rfl)) ?_
                with_reducible refine (gossip_Start.calls a0_0 a0_1 a0_2 a1 (rd l2 0) t285 t286 t287 t288 t289 _ A36.out).mono ?_
                rintro e w39 ⟨rfl, hb⟩
                refine ⟨_, rfl, ?_⟩
                have n0_ := Aside0.mk (blk_below (g := gb279) (o := .cells #[.int .i64 a0_0, .int .i64 a0_1, .int .i64 a0_2] 23 (0, 0)) (by (with_reducible repeat (first | refine blk_drewN ?_ _ | refine blk_drew ?_ | refine blk_alloc ?_ _)); exact BK279.out) hb)
                have n1_ := Aside0.mk (below_step (by repeat (first | (with_reducible first | exact HB.out | apply below_alloc | apply pw_below_drewN | apply below_drew1 | refine below_set ?_ GE279.out) | exact HB.out)) hb)
                clear BK279
                clear HB
                have BK279 := n0_
                have HB := n1_
                clear n0_ n1_
                (try clear hb)
                (try clear hb2)
                (try clear hk)
                (try clear hi)
                refine hK.out _ _ ⟨(blk_cell BK279.out 0).trans rfl, (blk_cell BK279.out 1).trans rfl, (blk_cell BK279.out 2).trans rfl, ((HB.out.cell (World.block_lt_of_cell? w _ hw284_0)).trans hw284_0)⟩ (fun hHeld => ?_)
                clear hK K
                refine norm_ (a' := ?_) ?_ ?_
                rotate_left
                · show Act.put _ (some 51) _ = _
                  simp only [Act.put, List.setIfInBounds_toArray, List.set_cons_zero, List.set_cons_succ, i64_w, i32_w]
                  rfl
                refine pure_ (i := 6) (N := some 45) (v := ?_) (a' := ?_) #[true, true, true, true, true, true, true, false, false, false, false, false] rfl rfl (any_of HT_.out (by kernel_rfl)) (fun _ _ _ h => h) (Or.inl ⟨by rfl, ?_⟩) ?_ ?_
                rotate_left
                · intro w'
                  go_simp
                  with_reducible rfl
                rotate_left
                · simp only [Act.put, List.setIfInBounds_toArray, List.set_cons_zero, List.set_cons_succ, i64_w, i32_w]
                  rfl
                refine pure_ (i := 7) (N := some 52) (v := ?_) (a' := ?_) #[true, true, true, true, true, true, true, true, false, false, false, false] rfl rfl (any_of HT_.out (by kernel_rfl)) (fun _ _ _ h => h) (Or.inl ⟨by rfl, ?_⟩) ?_ ?_
                rotate_left
                · intro w'
                  go_simp
                  with_reducible rfl
                rotate_left
                · simp only [Act.put, List.setIfInBounds_toArray, List.set_cons_zero, List.set_cons_succ, i64_w, i32_w]
                  rfl
                refine pure_ (i := 8) (N := some 53) (v := ?_) (a' := ?_) #[true, true, true, true, true, true, true, true, true, false, false, false] rfl rfl (any_of HT_.out (by kernel_rfl)) (fun _ _ _ h => h) (Or.inl ⟨by rfl, ?_⟩) ?_ ?_
                rotate_left
                · intro w'
                  go_simp
                  with_reducible rfl
                rotate_left
                · simp only [Act.put, List.setIfInBounds_toArray, List.set_cons_zero, List.set_cons_succ, i64_w, i32_w]
                  rfl
                refine one_ (i := 9) (N := some 7) #[true, true, true, true, true, true, true, true, true, true, false, false] rfl rfl (one_of HT_.out (by kernel_rfl)) (by decide) (fun K hK => ?_)
                refine box_step ?hg (N := 7) ?hd (cs := #[.int .i64 0, .int .i64 0, .int .i64 0, .int .i64 0]) (t := 28) ?hr ?_; (case hd => rfl); (case hg => rfl); (case hr => first | (go_simp; done) | (go_simp; rfl))
                intro gb290 hg w40 hbox hb
                have n0_ := Aside0.mk (blk_below (g := gb279) (o := .cells #[.int .i64 a0_0, .int .i64 a0_1, .int .i64 a0_2] 23 (0, 0)) (by (with_reducible repeat (first | refine blk_drewN ?_ _ | refine blk_drew ?_ | refine blk_alloc ?_ _)); exact BK279.out) hb)
                have n1_ := Aside0.mk (below_step (by repeat (first | (with_reducible first | exact HB.out | apply below_alloc | apply pw_below_drewN | apply below_drew1 | refine below_set ?_ GE279.out) | exact HB.out)) hb)
                have n2_ := Aside0.mk (hbox)
                have n3_ := Aside0.mk ((by rw [hg]; exact (below_size (by repeat (first | (with_reducible first | exact HB.out | apply below_alloc | apply pw_below_drewN | apply below_drew1 | refine below_set ?_ GE279.out) | exact HB.out))) : w.heap.size ≤ gb290))
                have n4_ := Aside0.mk ((by rw [hg]; exact (below_size (by repeat (first | (with_reducible first | exact HB.out | apply below_alloc | apply pw_below_drewN | apply below_drew1 | refine below_set ?_ GE279.out) | exact HB.out))) : w.heap.size ≤ gb290))
                have n5_ := Aside0.mk ((by rw [hg]; exact Nat.ne_of_lt (blk_lt (g := gb279) (o := .cells #[.int .i64 a0_0, .int .i64 a0_1, .int .i64 a0_2] 23 (0, 0)) (by (with_reducible repeat (first | refine blk_drewN ?_ _ | refine blk_drew ?_ | refine blk_alloc ?_ _)); exact BK279.out)) : gb279 ≠ gb290))
                have n6_ := Aside0.mk ((by rw [hg]; exact Nat.ne_of_gt (blk_lt (g := gb279) (o := .cells #[.int .i64 a0_0, .int .i64 a0_1, .int .i64 a0_2] 23 (0, 0)) (by (with_reducible repeat (first | refine blk_drewN ?_ _ | refine blk_drew ?_ | refine blk_alloc ?_ _)); exact BK279.out)) : gb290 ≠ gb279))
                clear BK279
                clear HB
                have BK279 := n0_
                have HB := n1_
                have BK290 := n2_
                have GW290 := n3_
                have GE290 := n4_
                have NB279_290 := n5_
                have NB290_279 := n6_
                clear n0_ n1_ n2_ n3_ n4_ n5_ n6_
                clear hb hbox hg
                refine hK.out _ _ ⟨(blk_cell BK279.out 0).trans rfl, (blk_cell BK279.out 1).trans rfl, (blk_cell BK279.out 2).trans rfl, ((HB.out.cell (World.block_lt_of_cell? w _ hw284_0)).trans hw284_0)⟩ (fun hHeld => ?_)
                clear hK K
                refine norm_ (a' := ?_) ?_ ?_
                rotate_left
                · show Act.put _ (some 7) _ = _
                  simp only [Act.put, List.setIfInBounds_toArray, List.set_cons_zero, List.set_cons_succ, i64_w, i32_w]
                  rfl
                exact norm_ (by simp only [putAll, Act.put, List.setIfInBounds_toArray, List.set_cons_zero, List.set_cons_succ]) (hCont (gb290) _ ⟨hHeld, (by (with_reducible repeat (first | refine blk_drewN ?_ _ | refine blk_drew ?_ | refine blk_alloc ?_ _)); exact BK279.out), (by (with_reducible repeat (first | refine blk_drewN ?_ _ | refine blk_drew ?_ | refine blk_alloc ?_ _)); exact BK290.out), GW290.out, GE290.out, NB279_290.out, NB290_279.out, (by repeat (first | (with_reducible first | exact HB.out | apply below_alloc | apply pw_below_drewN | apply below_drew1 | refine below_set ?_ GE279.out | refine below_set ?_ GE290.out) | exact HB.out))⟩)
              · skip
                refine box_step ?hg (N := 7) ?hd (cs := #[.int .i64 0, .int .i64 0, .int .i64 0, .int .i64 0]) (t := 28) ?hr ?_; (case hd => rfl); (case hg => rfl); (case hr => first | (go_simp; done) | (go_simp; rfl))
                intro gb290 hg w39 hbox hb
                have n0_ := Aside0.mk (blk_below (g := gb279) (o := .cells #[.int .i64 a0_0, .int .i64 a0_1, .int .i64 a0_2] 23 (0, 0)) (by (with_reducible repeat (first | refine blk_drewN ?_ _ | refine blk_drew ?_ | refine blk_alloc ?_ _)); exact BK279.out) hb)
                have n1_ := Aside0.mk (below_step (by repeat (first | (with_reducible first | exact HB.out | apply below_alloc | apply pw_below_drewN | apply below_drew1 | refine below_set ?_ GE279.out) | exact HB.out)) hb)
                have n2_ := Aside0.mk (hbox)
                have n3_ := Aside0.mk ((by rw [hg]; exact (below_size (by repeat (first | (with_reducible first | exact HB.out | apply below_alloc | apply pw_below_drewN | apply below_drew1 | refine below_set ?_ GE279.out) | exact HB.out))) : w.heap.size ≤ gb290))
                have n4_ := Aside0.mk ((by rw [hg]; exact (below_size (by repeat (first | (with_reducible first | exact HB.out | apply below_alloc | apply pw_below_drewN | apply below_drew1 | refine below_set ?_ GE279.out) | exact HB.out))) : w.heap.size ≤ gb290))
                have n5_ := Aside0.mk ((by rw [hg]; exact Nat.ne_of_lt (blk_lt (g := gb279) (o := .cells #[.int .i64 a0_0, .int .i64 a0_1, .int .i64 a0_2] 23 (0, 0)) (by (with_reducible repeat (first | refine blk_drewN ?_ _ | refine blk_drew ?_ | refine blk_alloc ?_ _)); exact BK279.out)) : gb279 ≠ gb290))
                have n6_ := Aside0.mk ((by rw [hg]; exact Nat.ne_of_gt (blk_lt (g := gb279) (o := .cells #[.int .i64 a0_0, .int .i64 a0_1, .int .i64 a0_2] 23 (0, 0)) (by (with_reducible repeat (first | refine blk_drewN ?_ _ | refine blk_drew ?_ | refine blk_alloc ?_ _)); exact BK279.out)) : gb290 ≠ gb279))
                clear BK279
                clear HB
                have BK279 := n0_
                have HB := n1_
                have BK290 := n2_
                have GW290 := n3_
                have GE290 := n4_
                have NB279_290 := n5_
                have NB290_279 := n6_
                clear n0_ n1_ n2_ n3_ n4_ n5_ n6_
                clear hb hbox hg
                refine hK.out _ _ ⟨(blk_cell BK279.out 0).trans rfl, (blk_cell BK279.out 1).trans rfl, (blk_cell BK279.out 2).trans rfl, ((HB.out.cell (World.block_lt_of_cell? w _ hw284_0)).trans hw284_0)⟩ (fun hHeld => ?_)
                clear hK K
                refine norm_ (a' := ?_) ?_ ?_
                rotate_left
                · show Act.put _ (some 7) _ = _
                  simp only [Act.put, List.setIfInBounds_toArray, List.set_cons_zero, List.set_cons_succ, i64_w, i32_w]
                  rfl
                refine one_ (i := 5) (N := some 51) #[true, true, true, true, true, true, false, false, false, true, false, false] rfl rfl (one_of HT_.out (by kernel_rfl)) (by decide) (fun K hK => ?_)
                refine goes_ Try.func10 (by kernel_rfl) rfl #[.agg #[.int .i64 a0_0, .int .i64 a0_1, .int .i64 a0_2], .int .i64 a1, .int .u32 (rd l2 0)] (by rfl) rfl rfl (by (try simp only [List.map_toArray, List.map_cons, List.map_nil]); first | done | rfl | (simp only [List.length_drop, List.length_take]; rfl)) ?_
                with_reducible refine (gossip_Start.calls a0_0 a0_1 a0_2 a1 (rd l2 0) t285 t286 t287 t288 t289 _ A36.out).mono ?_
                rintro e w40 ⟨rfl, hb⟩
                refine ⟨_, rfl, ?_⟩
                have n0_ := Aside0.mk (blk_below (g := gb279) (o := .cells #[.int .i64 a0_0, .int .i64 a0_1, .int .i64 a0_2] 23 (0, 0)) (by (with_reducible repeat (first | refine blk_drewN ?_ _ | refine blk_drew ?_ | refine blk_alloc ?_ _)); exact BK279.out) hb)
                have n1_ := Aside0.mk (blk_below (g := gb290) (o := .cells #[.int .i64 0, .int .i64 0, .int .i64 0, .int .i64 0] 28 (0, 0)) (by (with_reducible repeat (first | refine blk_drewN ?_ _ | refine blk_drew ?_ | refine blk_alloc ?_ _)); exact BK290.out) hb)
                have n2_ := Aside0.mk (below_step (by repeat (first | (with_reducible first | exact HB.out | apply below_alloc | apply pw_below_drewN | apply below_drew1 | refine below_set ?_ GE279.out | refine below_set ?_ GE290.out) | exact HB.out)) hb)
                clear BK279
                clear BK290
                clear HB
                have BK279 := n0_
                have BK290 := n1_
                have HB := n2_
                clear n0_ n1_ n2_
                (try clear hb)
                (try clear hb2)
                (try clear hk)
                (try clear hi)
                refine hK.out _ _ ⟨(blk_cell BK279.out 0).trans rfl, (blk_cell BK279.out 1).trans rfl, (blk_cell BK279.out 2).trans rfl, ((HB.out.cell (World.block_lt_of_cell? w _ hw284_0)).trans hw284_0)⟩ (fun hHeld => ?_)
                clear hK K
                refine norm_ (a' := ?_) ?_ ?_
                rotate_left
                · show Act.put _ (some 51) _ = _
                  simp only [Act.put, List.setIfInBounds_toArray, List.set_cons_zero, List.set_cons_succ, i64_w, i32_w]
                  rfl
                refine pure_ (i := 6) (N := some 45) (v := ?_) (a' := ?_) #[true, true, true, true, true, true, true, false, false, true, false, false] rfl rfl (any_of HT_.out (by kernel_rfl)) (fun _ _ _ h => h) (Or.inl ⟨by rfl, ?_⟩) ?_ ?_
                rotate_left
                · intro w'
                  go_simp
                  with_reducible rfl
                rotate_left
                · simp only [Act.put, List.setIfInBounds_toArray, List.set_cons_zero, List.set_cons_succ, i64_w, i32_w]
                  rfl
                refine pure_ (i := 7) (N := some 52) (v := ?_) (a' := ?_) #[true, true, true, true, true, true, true, true, false, true, false, false] rfl rfl (any_of HT_.out (by kernel_rfl)) (fun _ _ _ h => h) (Or.inl ⟨by rfl, ?_⟩) ?_ ?_
                rotate_left
                · intro w'
                  go_simp
                  with_reducible rfl
                rotate_left
                · simp only [Act.put, List.setIfInBounds_toArray, List.set_cons_zero, List.set_cons_succ, i64_w, i32_w]
                  rfl
                refine pure_ (i := 8) (N := some 53) (v := ?_) (a' := ?_) #[true, true, true, true, true, true, true, true, true, true, false, false] rfl rfl (any_of HT_.out (by kernel_rfl)) (fun _ _ _ h => h) (Or.inl ⟨by rfl, ?_⟩) ?_ ?_
                rotate_left
                · intro w'
                  go_simp
                  with_reducible rfl
                rotate_left
                · simp only [Act.put, List.setIfInBounds_toArray, List.set_cons_zero, List.set_cons_succ, i64_w, i32_w]
                  rfl
                exact norm_ (by simp only [putAll, Act.put, List.setIfInBounds_toArray, List.set_cons_zero, List.set_cons_succ]) (hCont (gb290) _ ⟨hHeld, (by (with_reducible repeat (first | refine blk_drewN ?_ _ | refine blk_drew ?_ | refine blk_alloc ?_ _)); exact BK279.out), (by (with_reducible repeat (first | refine blk_drewN ?_ _ | refine blk_drew ?_ | refine blk_alloc ?_ _)); exact BK290.out), GW290.out, GE290.out, NB279_290.out, NB290_279.out, (by repeat (first | (with_reducible first | exact HB.out | apply below_alloc | apply pw_below_drewN | apply below_drew1 | refine below_set ?_ GE279.out | refine below_set ?_ GE290.out) | exact HB.out))⟩)
            rintro gb290 w41 ⟨hS_, h0_, h1_, h2_, h3_, h4_, h5_, h6_⟩
            have n0_ : Aside0 (w41.heap[gb279]? = some (.cells #[.int .i64 a0_0, .int .i64 a0_1, .int .i64 a0_2] 23 (0, 0))) := ⟨h0_⟩
            have n1_ : Aside0 (w41.heap[gb290]? = some (.cells #[.int .i64 0, .int .i64 0, .int .i64 0, .int .i64 0] 28 (0, 0))) := ⟨h1_⟩
            have n2_ : Aside0 (w.heap.size ≤ gb290) := ⟨h2_⟩
            have n3_ : Aside0 (w.heap.size ≤ gb290) := ⟨h3_⟩
            have n4_ : Aside0 (gb279 ≠ gb290) := ⟨h4_⟩
            have n5_ : Aside0 (gb290 ≠ gb279) := ⟨h5_⟩
            have n6_ : Aside0 (Below w.heap.size w w41) := ⟨h6_⟩
            clear BK279
            clear HB
            clear h0_ h1_ h2_ h3_ h4_ h5_ h6_
            have BK279 := n0_
            have BK290 := n1_
            have GW290 := n2_
            have GE290 := n3_
            have NB279_290 := n4_
            have NB290_279 := n5_
            have HB := n6_
            clear n0_ n1_ n2_ n3_ n4_ n5_ n6_
            have hHeld : w41.cell? ⟨gb279, 0, none⟩ = some (.int .i64 a0_0) ∧ w41.cell? ⟨gb279, 1, none⟩ = some (.int .i64 a0_1) ∧ w41.cell? ⟨gb279, 2, none⟩ = some (.int .i64 a0_2) ∧ w41.cell? ad284 = some (.int .u32 (rd l2 0)) := hS_
            refine norm_ (a' := ?_) ?_ ?_
            rotate_left
            · simp only [putAll, Act.put, List.setIfInBounds_toArray, List.set_cons_zero, List.set_cons_succ]
              rfl
            refine one_ (i := 10) (N := none) #[true, true, true, true, true, true, true, true, true, true, true, false] rfl rfl (one_of HT_.out (by kernel_rfl)) (by decide) (fun K hK => ?_)
            have hs42 : w41.cell? ⟨gb290, 0, none⟩ = some (.int .i64 0) := (blk_cell BK290.out 0).trans rfl
            have hfs42 := blk_frozen BK290.out 0
            have hns42_0 := NB279_290.out
            have hms42_0 := NB290_279.out
            have hs43 : w41.cell? ⟨gb290, 1, none⟩ = some (.int .i64 0) := (blk_cell BK290.out 1).trans rfl
            have hfs43 := blk_frozen BK290.out 1
            have hns43_0 := NB279_290.out
            have hms43_0 := NB290_279.out
            have hs44 : w41.cell? ⟨gb290, 2, none⟩ = some (.int .i64 0) := (blk_cell BK290.out 2).trans rfl
            have hfs44 := blk_frozen BK290.out 2
            have hns44_0 := NB279_290.out
            have hms44_0 := NB290_279.out
            have hs45 : w41.cell? ⟨gb290, 3, none⟩ = some (.int .i64 0) := (blk_cell BK290.out 3).trans rfl
            have hfs45 := blk_frozen BK290.out 3
            have hns45_0 := NB279_290.out
            have hms45_0 := NB290_279.out
            refine skip_ (w1 := ?_) (by rfl) rfl ?_ ?_
            rotate_left
            · go_simp
              rfl
            refine hK.out _ _ ⟨((cell_far (p := ⟨gb290, _, none⟩) NB279_290.out _).trans (((cell_far (p := ⟨gb290, _, none⟩) NB279_290.out _).trans (((cell_far (p := ⟨gb290, _, none⟩) NB279_290.out _).trans (((cell_far (p := ⟨gb290, _, none⟩) NB279_290.out _).trans (hHeld.1)))))))), ((cell_far (p := ⟨gb290, _, none⟩) NB279_290.out _).trans (((cell_far (p := ⟨gb290, _, none⟩) NB279_290.out _).trans (((cell_far (p := ⟨gb290, _, none⟩) NB279_290.out _).trans (((cell_far (p := ⟨gb290, _, none⟩) NB279_290.out _).trans (hHeld.2.1)))))))), ((cell_far (p := ⟨gb290, _, none⟩) NB279_290.out _).trans (((cell_far (p := ⟨gb290, _, none⟩) NB279_290.out _).trans (((cell_far (p := ⟨gb290, _, none⟩) NB279_290.out _).trans (((cell_far (p := ⟨gb290, _, none⟩) NB279_290.out _).trans (hHeld.2.2.1)))))))), ((cell_far (p := ⟨gb290, _, none⟩) (by first | exact Nat.ne_of_lt (Nat.lt_of_lt_of_le (by have := World.block_lt_of_cell? _ _ hw284_0; first | rwa [add_block] at this | exact this) GW290.out) | (rw [add_block]; exact Nat.ne_of_lt (Nat.lt_of_lt_of_le (by have := World.block_lt_of_cell? _ _ hw284_0; first | rwa [add_block] at this | exact this) GW290.out)) | (show (Addr.add _ _).block ≠ _; rw [add_block]; exact Nat.ne_of_lt (Nat.lt_of_lt_of_le (by have := World.block_lt_of_cell? _ _ hw284_0; first | rwa [add_block] at this | exact this) GW290.out)) | (dsimp only; exact Nat.ne_of_lt (Nat.lt_of_lt_of_le (by have := World.block_lt_of_cell? _ _ hw284_0; first | rwa [add_block] at this | exact this) GW290.out))) _).trans (((cell_far (p := ⟨gb290, _, none⟩) (by first | exact Nat.ne_of_lt (Nat.lt_of_lt_of_le (by have := World.block_lt_of_cell? _ _ hw284_0; first | rwa [add_block] at this | exact this) GW290.out) | (rw [add_block]; exact Nat.ne_of_lt (Nat.lt_of_lt_of_le (by have := World.block_lt_of_cell? _ _ hw284_0; first | rwa [add_block] at this | exact this) GW290.out)) | (show (Addr.add _ _).block ≠ _; rw [add_block]; exact Nat.ne_of_lt (Nat.lt_of_lt_of_le (by have := World.block_lt_of_cell? _ _ hw284_0; first | rwa [add_block] at this | exact this) GW290.out)) | (dsimp only; exact Nat.ne_of_lt (Nat.lt_of_lt_of_le (by have := World.block_lt_of_cell? _ _ hw284_0; first | rwa [add_block] at this | exact this) GW290.out))) _).trans (((cell_far (p := ⟨gb290, _, none⟩) (by first | exact Nat.ne_of_lt (Nat.lt_of_lt_of_le (by have := World.block_lt_of_cell? _ _ hw284_0; first | rwa [add_block] at this | exact this) GW290.out) | (rw [add_block]; exact Nat.ne_of_lt (Nat.lt_of_lt_of_le (by have := World.block_lt_of_cell? _ _ hw284_0; first | rwa [add_block] at this | exact this) GW290.out)) | (show (Addr.add _ _).block ≠ _; rw [add_block]; exact Nat.ne_of_lt (Nat.lt_of_lt_of_le (by have := World.block_lt_of_cell? _ _ hw284_0; first | rwa [add_block] at this | exact this) GW290.out)) | (dsimp only; exact Nat.ne_of_lt (Nat.lt_of_lt_of_le (by have := World.block_lt_of_cell? _ _ hw284_0; first | rwa [add_block] at this | exact this) GW290.out))) _).trans (((cell_far (p := ⟨gb290, _, none⟩) (by first | exact Nat.ne_of_lt (Nat.lt_of_lt_of_le (by have := World.block_lt_of_cell? _ _ hw284_0; first | rwa [add_block] at this | exact this) GW290.out) | (rw [add_block]; exact Nat.ne_of_lt (Nat.lt_of_lt_of_le (by have := World.block_lt_of_cell? _ _ hw284_0; first | rwa [add_block] at this | exact this) GW290.out)) | (show (Addr.add _ _).block ≠ _; rw [add_block]; exact Nat.ne_of_lt (Nat.lt_of_lt_of_le (by have := World.block_lt_of_cell? _ _ hw284_0; first | rwa [add_block] at this | exact this) GW290.out)) | (dsimp only; exact Nat.ne_of_lt (Nat.lt_of_lt_of_le (by have := World.block_lt_of_cell? _ _ hw284_0; first | rwa [add_block] at this | exact this) GW290.out))) _).trans (hHeld.2.2.2))))))))⟩ (fun hHeld => ?_)
            clear hK K
            refine pure_ (i := 11) (N := some 8) (v := ?_) (a' := ?_) #[true, true, true, true, true, true, true, true, true, true, true, true] rfl rfl (any_of HT_.out (by kernel_rfl)) (fun _ _ _ h => h) (Or.inl ⟨by rfl, ?_⟩) ?_ ?_
            rotate_left
            · intro w'
              go_simp
              with_reducible rfl
            rotate_left
            · simp only [Act.put, List.setIfInBounds_toArray, List.set_cons_zero, List.set_cons_succ, i64_w, i32_w]
              rfl
            refine done_ (done_of HT_.out (by kernel_rfl)) ?_
            have hnb46 := NB279_290.out
            have hnc46 := NB290_279.out
            have hcz47_0 : w41.cell? ⟨gb279, 0, none⟩ = some (.int .i64 a0_0) := (blk_cell BK279.out 0).trans rfl
            have hcz47_1 : w41.cell? ⟨gb279, 1, none⟩ = some (.int .i64 a0_1) := (blk_cell BK279.out 1).trans rfl
            have hcz47_2 : w41.cell? ⟨gb279, 2, none⟩ = some (.int .i64 a0_2) := (blk_cell BK279.out 2).trans rfl
            have hfz47_0 := blk_frozen BK279.out 0
            have hfz47_1 := blk_frozen BK279.out 1
            have hfz47_2 := blk_frozen BK279.out 2
            try go_wp2
            go_loopg [9, 10, 61] kj3 (fun kq v9 v10 v61 w' => ∃ (x9_2 : Int) (x10_2 : Int) (x61_2 : Int) (x291000_2 : Int) (x291001_2 : Int) (x291002_2 : Int) (x291003_2 : Int), v9 = .int .i64 x9_2 ∧ v10 = .int .i64 x10_2 ∧ v61 = .int .i64 x61_2 ∧ Aside0 (hopmeshlaw47_GossipSpeaks.l0 kq l2 x9_2 x10_2 (l2.length : Int) x61_2 a0_0 a0_1 a0_2 x291000_2 x291001_2 x291002_2 x291003_2 = some r) ∧ Aside0 (kq ≤ kj3) ∧ Aside0 (w'.heap[gb279]? = some (.cells #[.int .i64 a0_0, .int .i64 a0_1, .int .i64 a0_2] 23 (0, 0))) ∧ Aside0 (w'.heap[gb290]? = some (.cells #[.int .i64 x291000_2, .int .i64 x291001_2, .int .i64 x291002_2, .int .i64 x291003_2] 28 (0, 0))) ∧ Aside0 (Below w.heap.size w w'))
            case atStart => exact ⟨(a0_0), (a1), (0), (t285), (t286), (t287), (t288), (by first | rfl | (simp; done) | (simp [*]; done)), (by first | rfl | (simp; done) | (simp [*]; done)), (by first | rfl | (simp; done) | (simp [*]; done)), H', ⟨Nat.le_refl _⟩, ⟨by (with_reducible repeat (first | refine blk_drewN ?_ _ | refine blk_drew ?_ | refine blk_alloc ?_ _)); refine blk_far ?_ NB279_290.out _; (with_reducible repeat (first | refine blk_drewN ?_ _ | refine blk_drew ?_ | refine blk_alloc ?_ _)); refine blk_far ?_ NB279_290.out _; (with_reducible repeat (first | refine blk_drewN ?_ _ | refine blk_drew ?_ | refine blk_alloc ?_ _)); refine blk_far ?_ NB279_290.out _; (with_reducible repeat (first | refine blk_drewN ?_ _ | refine blk_drew ?_ | refine blk_alloc ?_ _)); refine blk_far ?_ NB279_290.out _; (with_reducible repeat (first | refine blk_drewN ?_ _ | refine blk_drew ?_ | refine blk_alloc ?_ _)); exact BK279.out⟩, ⟨by (with_reducible repeat (first | refine blk_drewN ?_ _ | refine blk_drew ?_ | refine blk_alloc ?_ _)); refine blk_put (cs := #[.int .i64 t285, .int .i64 t286, .int .i64 t287, .int .i64 0]) ?_ 3 _ rfl; (with_reducible repeat (first | refine blk_drewN ?_ _ | refine blk_drew ?_ | refine blk_alloc ?_ _)); refine blk_put (cs := #[.int .i64 t285, .int .i64 t286, .int .i64 0, .int .i64 0]) ?_ 2 _ rfl; (with_reducible repeat (first | refine blk_drewN ?_ _ | refine blk_drew ?_ | refine blk_alloc ?_ _)); refine blk_put (cs := #[.int .i64 t285, .int .i64 0, .int .i64 0, .int .i64 0]) ?_ 1 _ rfl; (with_reducible repeat (first | refine blk_drewN ?_ _ | refine blk_drew ?_ | refine blk_alloc ?_ _)); refine blk_put (cs := #[.int .i64 0, .int .i64 0, .int .i64 0, .int .i64 0]) ?_ 0 _ rfl; (with_reducible repeat (first | refine blk_drewN ?_ _ | refine blk_drew ?_ | refine blk_alloc ?_ _)); exact BK290.out⟩, ⟨by repeat (first | (with_reducible first | exact HB.out | apply below_alloc | apply pw_below_drewN | apply below_drew1 | refine below_set ?_ GE279.out | refine below_set ?_ GE290.out) | exact HB.out)⟩⟩
            case round =>
              clear H'
              try clear c1
              try clear c2
              try clear p2
              try clear q2
              try clear hx2
              try clear qi2
              try clear c3
              try clear c4
              try clear c5
              try clear c7
              try clear c8
              try clear c8b0
              try clear c8b1
              try clear c8b2
              try clear c9
              try clear c10
              try clear c10b0
              try clear c10b1
              try clear c13
              try clear c13b0
              try clear c13b1
              try clear c14
              try clear c14b0
              try clear c18
              try clear c18b0
              try clear p28
              try clear q28
              try clear hx28
              try clear qi28
              try clear c32
              try clear c35
              try clear c35b0
              try clear c35b1
              try clear c37
              try clear c37b0
              try clear c37b1
              try clear c46
              try clear hcz16_0
              try clear hcz16_1
              try clear hcz16_2
              try clear hcz20_0
              try clear hcz20_1
              try clear hcz20_2
              try clear hcz24_0
              try clear hcz24_1
              try clear hcz24_2
              try clear hcz26_0
              try clear hcz26_1
              try clear hcz26_2
              try clear hcz29_0
              try clear hcz29_1
              try clear hcz29_2
              try clear hcz47_0
              try clear hcz47_1
              try clear hcz47_2
              try clear hfz16_0
              try clear hfz16_1
              try clear hfz16_2
              try clear hfz20_0
              try clear hfz20_1
              try clear hfz20_2
              try clear hfz24_0
              try clear hfz24_1
              try clear hfz24_2
              try clear hfz26_0
              try clear hfz26_1
              try clear hfz26_2
              try clear hfz29_0
              try clear hfz29_1
              try clear hfz29_2
              try clear hfz47_0
              try clear hfz47_1
              try clear hfz47_2
              try clear hx284_0
              try clear p2
              try clear p284
              try clear q284
              obtain ⟨x9_2, x10_2, x61_2, x291000_2, x291001_2, x291002_2, x291003_2, rfl, rfl, rfl, HA, HK2, BK279, BK290, HB⟩ := hrel
              cases gk with
              | zero => exact absurd HA.out (by simp [hopmeshlaw47_GossipSpeaks.l0])
              | succ k2 =>
                have H := HA.out
                clear HA
                simp only [hopmeshlaw47_GossipSpeaks.l0] at H
                by_cases c48 : x61_2 < (l2.length : Int)
                · rw [if_pos c48] at H
                  have c48b0 : decide (x61_2 < (l2.length : Int)) = true := decide_eq_true c48
                  clear c48
                  have H' := Aside0.mk H
                  clear H
                  go_wp2
                  go_loopg [10, 12, 65] k2 (fun kq v10 v12 v65 w' => ∃ (x10_3 : Int) (x12_3 : Int) (x65_3 : Int) (x291000_3 : Int) (x291001_3 : Int) (x291002_3 : Int) (x291003_3 : Int), v10 = .int .i64 x10_3 ∧ v12 = .int .i64 x12_3 ∧ v65 = .int .i64 x65_3 ∧ Aside0 (hopmeshlaw47_GossipSpeaks.l1 kq l2 x9_2 x10_3 x61_2 x12_3 (l2.length : Int) x61_2 x9_2 x65_3 a0_0 a0_1 a0_2 x291000_3 x291001_3 x291002_3 x291003_3 = some r) ∧ Aside0 (kq ≤ k2) ∧ Aside0 (w'.heap[gb279]? = some (.cells #[.int .i64 a0_0, .int .i64 a0_1, .int .i64 a0_2] 23 (0, 0))) ∧ Aside0 (w'.heap[gb290]? = some (.cells #[.int .i64 x291000_3, .int .i64 x291001_3, .int .i64 x291002_3, .int .i64 x291003_3] 28 (0, 0))) ∧ Aside0 (Below w.heap.size w w'))
                  case atStart => exact ⟨(x10_2), (0), (0), (x291000_2), (x291001_2), (x291002_2), (x291003_2), (by first | rfl | (simp; done) | (simp [*]; done)), (by first | rfl | (simp; done) | (simp [*]; done)), (by first | rfl | (simp; done) | (simp [*]; done)), H', ⟨Nat.le_refl _⟩, ⟨by (with_reducible repeat (first | refine blk_drewN ?_ _ | refine blk_drew ?_ | refine blk_alloc ?_ _)); exact BK279.out⟩, ⟨by (with_reducible repeat (first | refine blk_drewN ?_ _ | refine blk_drew ?_ | refine blk_alloc ?_ _)); exact BK290.out⟩, ⟨by repeat (first | (with_reducible first | exact HB.out | apply below_alloc | apply pw_below_drewN | apply below_drew1 | refine below_set ?_ GE279.out | refine below_set ?_ GE290.out) | exact HB.out)⟩⟩
                  case round =>
                    clear H'
                    try clear c1
                    try clear c2
                    try clear p2
                    try clear q2
                    try clear hx2
                    try clear qi2
                    try clear c3
                    try clear c4
                    try clear c5
                    try clear c7
                    try clear c8
                    try clear c8b0
                    try clear c8b1
                    try clear c8b2
                    try clear c9
                    try clear c10
                    try clear c10b0
                    try clear c10b1
                    try clear c13
                    try clear c13b0
                    try clear c13b1
                    try clear c14
                    try clear c14b0
                    try clear c18
                    try clear c18b0
                    try clear p28
                    try clear q28
                    try clear hx28
                    try clear qi28
                    try clear c32
                    try clear c35
                    try clear c35b0
                    try clear c35b1
                    try clear c37
                    try clear c37b0
                    try clear c37b1
                    try clear c46
                    try clear c48
                    try clear c48b0
                    try clear hcz16_0
                    try clear hcz16_1
                    try clear hcz16_2
                    try clear hcz20_0
                    try clear hcz20_1
                    try clear hcz20_2
                    try clear hcz24_0
                    try clear hcz24_1
                    try clear hcz24_2
                    try clear hcz26_0
                    try clear hcz26_1
                    try clear hcz26_2
                    try clear hcz29_0
                    try clear hcz29_1
                    try clear hcz29_2
                    try clear hcz47_0
                    try clear hcz47_1
                    try clear hcz47_2
                    try clear hfz16_0
                    try clear hfz16_1
                    try clear hfz16_2
                    try clear hfz20_0
                    try clear hfz20_1
                    try clear hfz20_2
                    try clear hfz24_0
                    try clear hfz24_1
                    try clear hfz24_2
                    try clear hfz26_0
                    try clear hfz26_1
                    try clear hfz26_2
                    try clear hfz29_0
                    try clear hfz29_1
                    try clear hfz29_2
                    try clear hfz47_0
                    try clear hfz47_1
                    try clear hfz47_2
                    try clear hx284_0
                    try clear p2
                    try clear p28
                    try clear p284
                    try clear q2
                    try clear q28
                    try clear q284
                    obtain ⟨x10_3, x12_3, x65_3, x291000_3, x291001_3, x291002_3, x291003_3, rfl, rfl, rfl, HA, HK3, BK279, BK290, HB⟩ := hrel
                    cases gk with
                    | zero => exact absurd HA.out (by simp [hopmeshlaw47_GossipSpeaks.l1])
                    | succ k3 =>
                      have H := HA.out
                      clear HA
                      simp only [hopmeshlaw47_GossipSpeaks.l1] at H
                      by_cases c49 : x65_3 < x9_2
                      · rw [if_pos c49] at H
                        have c49b0 : decide (x65_3 < x9_2) = true := decide_eq_true c49
                        clear c49
                        by_cases c50 : 0 ≤ x61_2
                        · rw [if_pos c50] at H
                          have c50b0 : decide (0 ≤ x61_2) = true := decide_eq_true c50
                          clear c50
                          by_cases c51 : x61_2 < (l2.length : Int)
                          · rw [if_pos c51] at H
                            have c51b0 : decide (x61_2 < (l2.length : Int)) = true := decide_eq_true c51
                            clear c51
                            replace H := Option.bind_eq_some_iff.mp H
                            obtain ⟨⟨t293, t294, t295, t296, t297, t298⟩, A520, H⟩ := H
                            replace H : (if t298 = 0 then (hopmeshlaw47_GossipSpeaks.j3 k3 l2 x9_2 x10_3 x61_2 x12_3 t297 (l2.length : Int) x61_2 x9_2 x65_3 (t293 != x9_2) a0_0 a0_1 a0_2 t293 t294 t295 t296) else (hopmeshlaw47_GossipSpeaks.j3 k3 l2 x9_2 x10_3 x61_2 x12_3 t297 (l2.length : Int) x61_2 x9_2 x65_3 true a0_0 a0_1 a0_2 t293 t294 t295 t296)) = some r := H
                            have A52 := Aside0.mk A520
                            clear A520
                            have HC53 := Aside0.mk H
                            clear H
                            try go_wp2
                            have n0_ := Aside0.mk (blk_drew BK279.out)
                            have n1_ := Aside0.mk (blk_drew BK290.out)
                            have n2_ := Aside0.mk (below_drew1 HB.out)
                            clear BK279
                            clear BK290
                            clear HB
                            have BK279 := n0_
                            have BK290 := n1_
                            have HB := n2_
                            clear n0_ n1_ n2_
                            have p292 : 0 ≤ (x61_2 : Int) := of_decide_eq_true (by first | (with_reducible assumption) | assumption)
                            have q292 : x61_2 < (l2.length : Int) := of_decide_eq_true (by first | (with_reducible assumption) | assumption)
                            obtain ⟨ad292, e292, hx292_0⟩ := Kd.at_int HR2.out x61_2 p292 q292
                            have hw292_0 := hx292_0
                            obtain rfl : ad284 = ad292 := (by injection e292)
                            replace hx292_0 := (HB.out.cell (World.block_lt_of_cell? w _ hx292_0)).trans hx292_0
                            replace p292 := eq_true p292
                            replace q292 := eq_true q292
                            refine start_ (n := 15) (S := fun w' => w'.cell? ⟨gb279, 0, none⟩ = some (.int .i64 a0_0) ∧ w'.cell? ⟨gb279, 1, none⟩ = some (.int .i64 a0_1) ∧ w'.cell? ⟨gb279, 2, none⟩ = some (.int .i64 a0_2) ∧ w'.cell? ⟨gb290, 0, none⟩ = some (.int .i64 x291000_3) ∧ w'.cell? ⟨gb290, 1, none⟩ = some (.int .i64 x291001_3) ∧ w'.cell? ⟨gb290, 2, none⟩ = some (.int .i64 x291002_3) ∧ w'.cell? ⟨gb290, 3, none⟩ = some (.int .i64 x291003_3) ∧ w'.cell? (ad284.add (x61_2).toNat) = some (.int .u32 (rd l2 x61_2))) (ds := [12]) #[false, false, false, false, false, false, false, false, false, false, false, false, false, false, false] (by kernel_rfl) rfl rfl ⟨(blk_cell BK279.out 0).trans rfl, (blk_cell BK279.out 1).trans rfl, (blk_cell BK279.out 2).trans rfl, (blk_cell BK290.out 0).trans rfl, (blk_cell BK290.out 1).trans rfl, (blk_cell BK290.out 2).trans rfl, (blk_cell BK290.out 3).trans rfl, ((HB.out.cell (World.block_lt_of_cell? w _ hw292_0)).trans hw292_0)⟩ (fun hHeld => ?_); refine with_tabW hopmeshlaw47_GossipSpeaks.tab14 hopmeshlaw47_GossipSpeaks.bits14 (fun HT_ HW_ => ?_)
                            generalize wr.drew = w54 at BK279 BK290 HB hx292_0 hHeld ⊢
                            refine pure_ (i := 2) (N := some 70) (v := ?_) (a' := ?_) #[false, false, true, false, false, false, false, false, false, false, false, false, false, false, false] rfl rfl (any_of HT_.out (by kernel_rfl)) (fun _ _ _ h => h) (Or.inl ⟨by rfl, ?_⟩) ?_ ?_
                            rotate_left
                            · intro w'
                              go_simp
                              with_reducible rfl
                            rotate_left
                            · simp only [Act.put, List.setIfInBounds_toArray, List.set_cons_zero, List.set_cons_succ, i64_w, i32_w]
                              rfl
                            refine pure_ (i := 3) (N := some 71) (v := ?_) (a' := ?_) #[false, false, true, true, false, false, false, false, false, false, false, false, false, false, false] rfl rfl (any_of HT_.out (by kernel_rfl)) (fun _ _ _ h => h) (Or.inl ⟨by rfl, ?_⟩) ?_ ?_
                            rotate_left
                            · intro w'
                              go_simp
                              with_reducible rfl
                            rotate_left
                            · simp only [Act.put, List.setIfInBounds_toArray, List.set_cons_zero, List.set_cons_succ, i64_w, i32_w]
                              rfl
                            refine pure_ (i := 4) (N := some 72) (v := ?_) (a' := ?_) #[false, false, true, true, true, false, false, false, false, false, false, false, false, false, false] rfl rfl (any_of HT_.out (by kernel_rfl)) (fun _ _ _ h => h) (Or.inl ⟨by rfl, ?_⟩) ?_ ?_
                            rotate_left
                            · intro w'
                              go_simp
                              with_reducible rfl
                            rotate_left
                            · simp only [Act.put, List.setIfInBounds_toArray, List.set_cons_zero, List.set_cons_succ, i64_w, i32_w]
                              rfl
                            refine pure_ (i := 5) (N := some 73) (v := ?_) (a' := ?_) #[false, false, true, true, true, true, false, false, false, false, false, false, false, false, false] rfl rfl (any_of HT_.out (by kernel_rfl)) (fun _ _ _ h => h) (Or.inl ⟨by rfl, ?_⟩) ?_ ?_
                            rotate_left
                            · intro w'
                              go_simp
                              with_reducible rfl
                            rotate_left
                            · simp only [Act.put, List.setIfInBounds_toArray, List.set_cons_zero, List.set_cons_succ, i64_w, i32_w]
                              rfl
                            refine take_ (i := 0) (N := some 68) (v := ?_) (a' := ?_) #[true, false, true, true, true, true, false, false, false, false, false, false, false, false, false] rfl rfl (take_ofW HT_.out HW_.out (by kernel_rfl)) (fun _ _ _ h => h) (Or.inl ⟨by rfl, ?_⟩) hHeld ?_ ?_
                            rotate_left
                            · rintro w' ⟨s0, s1, s2, s3, s4, s5, s6, s7⟩
                              go_simp
                              with_reducible rfl
                            rotate_left
                            · simp only [Act.put, List.setIfInBounds_toArray, List.set_cons_zero, List.set_cons_succ, i64_w, i32_w]
                              rfl
                            refine take_ (i := 1) (N := some 69) (v := ?_) (a' := ?_) #[true, true, true, true, true, true, false, false, false, false, false, false, false, false, false] rfl rfl (take_ofW HT_.out HW_.out (by kernel_rfl)) (fun _ _ _ h => h) (Or.inl ⟨by rfl, ?_⟩) hHeld ?_ ?_
                            rotate_left
                            · rintro w' ⟨s0, s1, s2, s3, s4, s5, s6, s7⟩
                              go_simp
                              with_reducible rfl
                            rotate_left
                            · simp only [Act.put, List.setIfInBounds_toArray, List.set_cons_zero, List.set_cons_succ, i64_w, i32_w]
                              rfl
                            refine take_ (i := 6) (N := some 74) (v := ?_) (a' := ?_) #[true, true, true, true, true, true, true, false, false, false, false, false, false, false, false] rfl rfl (take_ofW HT_.out HW_.out (by kernel_rfl)) (fun _ _ _ h => h) (Or.inl ⟨by rfl, ?_⟩) hHeld ?_ ?_
                            rotate_left
                            · rintro w' ⟨s0, s1, s2, s3, s4, s5, s6, s7⟩
                              go_simp
                              with_reducible rfl
                            rotate_left
                            · simp only [Act.put, List.setIfInBounds_toArray, List.set_cons_zero, List.set_cons_succ, i64_w, i32_w]
                              rfl
                            refine one_ (i := 7) (N := some 75) #[true, true, true, true, true, true, true, true, false, false, false, false, false, false, false] rfl rfl (one_of HT_.out (by kernel_rfl)) (by decide) (fun K hK => ?_)
                            refine goes_ Try.func12 (by kernel_rfl) rfl #[.agg #[.int .i64 a0_0, .int .i64 a0_1, .int .i64 a0_2], .agg #[.int .i64 x291000_3, .int .i64 x291001_3, .int .i64 x291002_3, .int .i64 x291003_3], .int .i64 x10_3, .int .u32 (rd l2 x61_2)] (by rfl) rfl rfl (by (try simp only [List.map_toArray, List.map_cons, List.map_nil]); first | done | rfl | (simp only [List.length_drop, List.length_take]; rfl)) ?_
                            with_reducible refine (gossip_Step.calls k3 a0_0 a0_1 a0_2 x291000_3 x291001_3 x291002_3 x291003_3 x10_3 (rd l2 x61_2) t293 t294 t295 t296 t297 t298 _ A52.out).mono ?_
                            rintro e w55 ⟨rfl, hb⟩
                            refine ⟨_, rfl, ?_⟩
                            have n0_ := Aside0.mk (blk_below (g := gb279) (o := .cells #[.int .i64 a0_0, .int .i64 a0_1, .int .i64 a0_2] 23 (0, 0)) (by (with_reducible repeat (first | refine blk_drewN ?_ _ | refine blk_drew ?_ | refine blk_alloc ?_ _)); exact BK279.out) hb)
                            have n1_ := Aside0.mk (blk_below (g := gb290) (o := .cells #[.int .i64 x291000_3, .int .i64 x291001_3, .int .i64 x291002_3, .int .i64 x291003_3] 28 (0, 0)) (by (with_reducible repeat (first | refine blk_drewN ?_ _ | refine blk_drew ?_ | refine blk_alloc ?_ _)); exact BK290.out) hb)
                            have n2_ := Aside0.mk (below_step (by repeat (first | (with_reducible first | exact HB.out | apply below_alloc | apply pw_below_drewN | apply below_drew1 | refine below_set ?_ GE279.out | refine below_set ?_ GE290.out) | exact HB.out)) hb)
                            clear BK279
                            clear BK290
                            clear HB
                            have BK279 := n0_
                            have BK290 := n1_
                            have HB := n2_
                            clear n0_ n1_ n2_
                            (try clear hb)
                            (try clear hb2)
                            (try clear hk)
                            (try clear hi)
                            refine hK.out _ _ ⟨(blk_cell BK279.out 0).trans rfl, (blk_cell BK279.out 1).trans rfl, (blk_cell BK279.out 2).trans rfl, (blk_cell BK290.out 0).trans rfl, (blk_cell BK290.out 1).trans rfl, (blk_cell BK290.out 2).trans rfl, (blk_cell BK290.out 3).trans rfl, ((HB.out.cell (World.block_lt_of_cell? w _ hw292_0)).trans hw292_0)⟩ (fun hHeld => ?_)
                            clear hK K
                            refine norm_ (a' := ?_) ?_ ?_
                            rotate_left
                            · show Act.put _ (some 75) _ = _
                              simp only [Act.put, List.setIfInBounds_toArray, List.set_cons_zero, List.set_cons_succ, i64_w, i32_w]
                              rfl
                            refine pure_ (i := 8) (N := some 67) (v := ?_) (a' := ?_) #[true, true, true, true, true, true, true, true, true, false, false, false, false, false, false] rfl rfl (any_of HT_.out (by kernel_rfl)) (fun _ _ _ h => h) (Or.inl ⟨by rfl, ?_⟩) ?_ ?_
                            rotate_left
                            · intro w'
                              go_simp
                              with_reducible rfl
                            rotate_left
                            · simp only [Act.put, List.setIfInBounds_toArray, List.set_cons_zero, List.set_cons_succ, i64_w, i32_w]
                              rfl
                            refine pure_ (i := 9) (N := some 76) (v := ?_) (a' := ?_) #[true, true, true, true, true, true, true, true, true, true, false, false, false, false, false] rfl rfl (any_of HT_.out (by kernel_rfl)) (fun _ _ _ h => h) (Or.inl ⟨by rfl, ?_⟩) ?_ ?_
                            rotate_left
                            · intro w'
                              go_simp
                              with_reducible rfl
                            rotate_left
                            · simp only [Act.put, List.setIfInBounds_toArray, List.set_cons_zero, List.set_cons_succ, i64_w, i32_w]
                              rfl
                            refine pure_ (i := 10) (N := some 77) (v := ?_) (a' := ?_) #[true, true, true, true, true, true, true, true, true, true, true, false, false, false, false] rfl rfl (any_of HT_.out (by kernel_rfl)) (fun _ _ _ h => h) (Or.inl ⟨by rfl, ?_⟩) ?_ ?_
                            rotate_left
                            · intro w'
                              go_simp
                              with_reducible rfl
                            rotate_left
                            · simp only [Act.put, List.setIfInBounds_toArray, List.set_cons_zero, List.set_cons_succ, i64_w, i32_w]
                              rfl
                            refine pure_ (i := 11) (N := some 78) (v := ?_) (a' := ?_) #[true, true, true, true, true, true, true, true, true, true, true, true, false, false, false] rfl rfl (any_of HT_.out (by kernel_rfl)) (fun _ _ _ h => h) (Or.inl ⟨by rfl, ?_⟩) ?_ ?_
                            rotate_left
                            · intro w'
                              go_simp
                              with_reducible rfl
                            rotate_left
                            · simp only [Act.put, List.setIfInBounds_toArray, List.set_cons_zero, List.set_cons_succ, i64_w, i32_w]
                              rfl
                            refine last_ (i := 12) (N := none) #[true, true, true, true, true, true, true, true, true, true, true, true, true, false, false] rfl rfl (one_of HT_.out (by kernel_rfl)) (by decide) (fun K hK => ?_)
                            have hs56 : w55.cell? ⟨gb290, 0, none⟩ = some (.int .i64 x291000_3) := (blk_cell BK290.out 0).trans rfl
                            have hfs56 := blk_frozen BK290.out 0
                            have hns56_0 := NB279_290.out
                            have hms56_0 := NB290_279.out
                            have hs57 : w55.cell? ⟨gb290, 1, none⟩ = some (.int .i64 x291001_3) := (blk_cell BK290.out 1).trans rfl
                            have hfs57 := blk_frozen BK290.out 1
                            have hns57_0 := NB279_290.out
                            have hms57_0 := NB290_279.out
                            have hs58 : w55.cell? ⟨gb290, 2, none⟩ = some (.int .i64 x291002_3) := (blk_cell BK290.out 2).trans rfl
                            have hfs58 := blk_frozen BK290.out 2
                            have hns58_0 := NB279_290.out
                            have hms58_0 := NB290_279.out
                            have hs59 : w55.cell? ⟨gb290, 3, none⟩ = some (.int .i64 x291003_3) := (blk_cell BK290.out 3).trans rfl
                            have hfs59 := blk_frozen BK290.out 3
                            have hns59_0 := NB279_290.out
                            have hms59_0 := NB290_279.out
                            refine skip_ (w1 := ?_) (by rfl) rfl ?_ ?_
                            rotate_left
                            · go_simp
                              rfl
                            refine hK.out _ _ ?_
                            clear hK K
                            refine pure_ (i := 13) (N := some 13) (v := ?_) (a' := ?_) #[true, true, true, true, true, true, true, true, true, true, true, true, true, true, false] rfl rfl (any_of HT_.out (by kernel_rfl)) (fun _ _ _ h => h) (Or.inl ⟨by rfl, ?_⟩) ?_ ?_
                            rotate_left
                            · intro w'
                              go_simp
                              with_reducible rfl
                            rotate_left
                            · simp only [Act.put, List.setIfInBounds_toArray, List.set_cons_zero, List.set_cons_succ, i64_w, i32_w]
                              rfl
                            refine pure_ (i := 14) (N := some 8) (v := ?_) (a' := ?_) #[true, true, true, true, true, true, true, true, true, true, true, true, true, true, true] rfl rfl (any_of HT_.out (by kernel_rfl)) (fun _ _ _ h => h) (Or.inl ⟨by rfl, ?_⟩) ?_ ?_
                            rotate_left
                            · intro w'
                              go_simp
                              with_reducible rfl
                            rotate_left
                            · simp only [Act.put, List.setIfInBounds_toArray, List.set_cons_zero, List.set_cons_succ, i64_w, i32_w]
                              rfl
                            refine done_ (done_of HT_.out (by kernel_rfl)) ?_
                            go_upto_region 15 with (fail)
                            go_cut [86] (fun v86 wc => ∃ (kq : Nat) (x86_52 : Bool), v86 = .bool x86_52 ∧ Aside0 (hopmeshlaw47_GossipSpeaks.j3 kq l2 x9_2 x10_3 x61_2 x12_3 t297 (l2.length : Int) x61_2 x9_2 x65_3 x86_52 a0_0 a0_1 a0_2 t293 t294 t295 t296 = some r) ∧ Aside0 (kq ≤ k3) ∧ Aside0 (wc.heap[gb279]? = some (.cells #[.int .i64 a0_0, .int .i64 a0_1, .int .i64 a0_2] 23 (0, 0))) ∧ Aside0 (wc.heap[gb290]? = some (.cells #[.int .i64 t293, .int .i64 t294, .int .i64 t295, .int .i64 t296] 28 (0, 0))) ∧ Aside0 (Below w.heap.size w wc))
                            case first =>
                              have H := HC53.out
                              clear HC53
                              by_cases c60 : t298 = 0
                              · rw [if_pos c60] at H
                                have c60b0 : (t298 == 0) = true := beq_iff_eq.mpr c60
                                have c60b1 : (t298 != 0) = false := bne_eq_false_iff_eq.mpr c60
                                clear c60
                                (first | rw [c60b0] | (simp only [i64_w, i32_w]; rw [c60b0]) | skip)
                                have H' := Aside0.mk H
                                clear H
                                have hnb61 := NB290_279.out
                                have hnc61 := NB279_290.out
                                have hcz62_0 : w55.cell? ⟨gb290, 0, none⟩ = some (.int .i64 x291000_3) := (blk_cell BK290.out 0).trans rfl
                                have hcz62_1 : w55.cell? ⟨gb290, 1, none⟩ = some (.int .i64 x291001_3) := (blk_cell BK290.out 1).trans rfl
                                have hcz62_2 : w55.cell? ⟨gb290, 2, none⟩ = some (.int .i64 x291002_3) := (blk_cell BK290.out 2).trans rfl
                                have hcz62_3 : w55.cell? ⟨gb290, 3, none⟩ = some (.int .i64 x291003_3) := (blk_cell BK290.out 3).trans rfl
                                have hfz62_0 := blk_frozen BK290.out 0
                                have hfz62_1 := blk_frozen BK290.out 1
                                have hfz62_2 := blk_frozen BK290.out 2
                                have hfz62_3 := blk_frozen BK290.out 3
                                go_wp2
                                go_meet
                                case rel => exact ⟨_, ((t293 != x9_2)), (by first | rfl | (simp; done) | (simp [*]; done)), H', ⟨by have := HJ3.out; have := HK2.out; have := HK3.out; first | omega | exact Nat.le_refl _⟩, ⟨by (with_reducible repeat (first | refine blk_drewN ?_ _ | refine blk_drew ?_ | refine blk_alloc ?_ _)); refine blk_far ?_ NB279_290.out _; (with_reducible repeat (first | refine blk_drewN ?_ _ | refine blk_drew ?_ | refine blk_alloc ?_ _)); refine blk_far ?_ NB279_290.out _; (with_reducible repeat (first | refine blk_drewN ?_ _ | refine blk_drew ?_ | refine blk_alloc ?_ _)); refine blk_far ?_ NB279_290.out _; (with_reducible repeat (first | refine blk_drewN ?_ _ | refine blk_drew ?_ | refine blk_alloc ?_ _)); refine blk_far ?_ NB279_290.out _; (with_reducible repeat (first | refine blk_drewN ?_ _ | refine blk_drew ?_ | refine blk_alloc ?_ _)); exact BK279.out⟩, ⟨by (with_reducible repeat (first | refine blk_drewN ?_ _ | refine blk_drew ?_ | refine blk_alloc ?_ _)); refine blk_put (cs := #[.int .i64 t293, .int .i64 t294, .int .i64 t295, .int .i64 x291003_3]) ?_ 3 _ rfl; (with_reducible repeat (first | refine blk_drewN ?_ _ | refine blk_drew ?_ | refine blk_alloc ?_ _)); refine blk_put (cs := #[.int .i64 t293, .int .i64 t294, .int .i64 x291002_3, .int .i64 x291003_3]) ?_ 2 _ rfl; (with_reducible repeat (first | refine blk_drewN ?_ _ | refine blk_drew ?_ | refine blk_alloc ?_ _)); refine blk_put (cs := #[.int .i64 t293, .int .i64 x291001_3, .int .i64 x291002_3, .int .i64 x291003_3]) ?_ 1 _ rfl; (with_reducible repeat (first | refine blk_drewN ?_ _ | refine blk_drew ?_ | refine blk_alloc ?_ _)); refine blk_put (cs := #[.int .i64 x291000_3, .int .i64 x291001_3, .int .i64 x291002_3, .int .i64 x291003_3]) ?_ 0 _ rfl; (with_reducible repeat (first | refine blk_drewN ?_ _ | refine blk_drew ?_ | refine blk_alloc ?_ _)); exact BK290.out⟩, ⟨by repeat (first | (with_reducible first | exact HB.out | apply below_alloc | apply pw_below_drewN | apply below_drew1 | refine below_set ?_ GE279.out | refine below_set ?_ GE290.out) | exact HB.out)⟩⟩
                              · rw [if_neg c60] at H
                                have c60b0 : (t298 == 0) = false := beq_eq_false_iff_ne.mpr c60
                                have c60b1 : (t298 != 0) = true := bne_iff_ne.mpr c60
                                (first | rw [c60b0] | (simp only [i64_w, i32_w]; rw [c60b0]) | skip)
                                have H' := Aside0.mk H
                                clear H
                                go_wp2
                                go_meet
                                case rel => exact ⟨_, (true), (by first | rfl | (simp; done) | (simp [*]; done)), H', ⟨by have := HJ3.out; have := HK2.out; have := HK3.out; first | omega | exact Nat.le_refl _⟩, ⟨by (with_reducible repeat (first | refine blk_drewN ?_ _ | refine blk_drew ?_ | refine blk_alloc ?_ _)); refine blk_far ?_ NB279_290.out _; (with_reducible repeat (first | refine blk_drewN ?_ _ | refine blk_drew ?_ | refine blk_alloc ?_ _)); refine blk_far ?_ NB279_290.out _; (with_reducible repeat (first | refine blk_drewN ?_ _ | refine blk_drew ?_ | refine blk_alloc ?_ _)); refine blk_far ?_ NB279_290.out _; (with_reducible repeat (first | refine blk_drewN ?_ _ | refine blk_drew ?_ | refine blk_alloc ?_ _)); refine blk_far ?_ NB279_290.out _; (with_reducible repeat (first | refine blk_drewN ?_ _ | refine blk_drew ?_ | refine blk_alloc ?_ _)); exact BK279.out⟩, ⟨by (with_reducible repeat (first | refine blk_drewN ?_ _ | refine blk_drew ?_ | refine blk_alloc ?_ _)); refine blk_put (cs := #[.int .i64 t293, .int .i64 t294, .int .i64 t295, .int .i64 x291003_3]) ?_ 3 _ rfl; (with_reducible repeat (first | refine blk_drewN ?_ _ | refine blk_drew ?_ | refine blk_alloc ?_ _)); refine blk_put (cs := #[.int .i64 t293, .int .i64 t294, .int .i64 x291002_3, .int .i64 x291003_3]) ?_ 2 _ rfl; (with_reducible repeat (first | refine blk_drewN ?_ _ | refine blk_drew ?_ | refine blk_alloc ?_ _)); refine blk_put (cs := #[.int .i64 t293, .int .i64 x291001_3, .int .i64 x291002_3, .int .i64 x291003_3]) ?_ 1 _ rfl; (with_reducible repeat (first | refine blk_drewN ?_ _ | refine blk_drew ?_ | refine blk_alloc ?_ _)); refine blk_put (cs := #[.int .i64 x291000_3, .int .i64 x291001_3, .int .i64 x291002_3, .int .i64 x291003_3]) ?_ 0 _ rfl; (with_reducible repeat (first | refine blk_drewN ?_ _ | refine blk_drew ?_ | refine blk_alloc ?_ _)); exact BK290.out⟩, ⟨by repeat (first | (with_reducible first | exact HB.out | apply below_alloc | apply pw_below_drewN | apply below_drew1 | refine below_set ?_ GE279.out | refine below_set ?_ GE290.out) | exact HB.out)⟩⟩
                            case rest =>
                              clear HC53
                              try clear c1
                              try clear c2
                              try clear p2
                              try clear q2
                              try clear hx2
                              try clear qi2
                              try clear c3
                              try clear c4
                              try clear c5
                              try clear c6
                              try clear c7
                              try clear c8
                              try clear c8b0
                              try clear c8b1
                              try clear c8b2
                              try clear c9
                              try clear c10
                              try clear c10b0
                              try clear c10b1
                              try clear c12
                              try clear c13
                              try clear c13b0
                              try clear c13b1
                              try clear c14
                              try clear c14b0
                              try clear c18
                              try clear c18b0
                              try clear p28
                              try clear q28
                              try clear hx28
                              try clear qi28
                              try clear p29
                              try clear q29
                              try clear hx29
                              try clear c32
                              try clear c35
                              try clear c35b0
                              try clear c35b1
                              try clear c37
                              try clear c37b0
                              try clear c37b1
                              try clear c46
                              try clear c48
                              try clear c48b0
                              try clear c49
                              try clear c49b0
                              try clear c50
                              try clear c50b0
                              try clear c51
                              try clear c51b0
                              try clear c60
                              try clear c60b0
                              try clear c60b1
                              try clear c61
                              try clear hcz16_0
                              try clear hcz16_1
                              try clear hcz16_2
                              try clear hcz20_0
                              try clear hcz20_1
                              try clear hcz20_2
                              try clear hcz24_0
                              try clear hcz24_1
                              try clear hcz24_2
                              try clear hcz26_0
                              try clear hcz26_1
                              try clear hcz26_2
                              try clear hcz29_0
                              try clear hcz29_1
                              try clear hcz29_2
                              try clear hcz47_0
                              try clear hcz47_1
                              try clear hcz47_2
                              try clear hcz62_0
                              try clear hcz62_1
                              try clear hcz62_2
                              try clear hcz62_3
                              try clear hfz16_0
                              try clear hfz16_1
                              try clear hfz16_2
                              try clear hfz20_0
                              try clear hfz20_1
                              try clear hfz20_2
                              try clear hfz24_0
                              try clear hfz24_1
                              try clear hfz24_2
                              try clear hfz26_0
                              try clear hfz26_1
                              try clear hfz26_2
                              try clear hfz29_0
                              try clear hfz29_1
                              try clear hfz29_2
                              try clear hfz47_0
                              try clear hfz47_1
                              try clear hfz47_2
                              try clear hfz62_0
                              try clear hfz62_1
                              try clear hfz62_2
                              try clear hfz62_3
                              try clear hx284_0
                              try clear hx292_0
                              try clear p2
                              try clear p28
                              try clear p284
                              try clear p292
                              try clear q2
                              try clear q28
                              try clear q284
                              try clear q292
                              obtain ⟨kq, x86_52, rfl, HA, HJ52, BK279, BK290, HB⟩ := hcut
                              cases kq with
                              | zero => exact absurd HA.out (by simp [hopmeshlaw47_GossipSpeaks.j3])
                              | succ kj52 =>
                                have H := HA.out
                                clear HA
                                simp only [hopmeshlaw47_GossipSpeaks.j3] at H
                                by_cases c63 : x86_52 = true
                                · subst c63
                                  have H1 : (some false) = some r := by rw [if_pos rfl] at H; exact H
                                  clear H
                                  have H := H1
                                  clear H1
                                  exact absurd (H.trans (congrArg some HRT.out)) (by simp)
                                · replace c63 := Bool.eq_false_iff.mpr c63
                                  subst c63
                                  have H1 : (if t297 = true then (hopmeshlaw47_GossipSpeaks.l1 kj52 l2 x9_2 (wrap64 (x10_3 + 1)) x61_2 (wrap64 (x12_3 + 1)) (l2.length : Int) x61_2 x9_2 (wrap64 (x65_3 + 1)) a0_0 a0_1 a0_2 t293 t294 t295 t296) else (hopmeshlaw47_GossipSpeaks.l1 kj52 l2 x9_2 (wrap64 (x10_3 + 1)) x61_2 x12_3 (l2.length : Int) x61_2 x9_2 (wrap64 (x65_3 + 1)) a0_0 a0_1 a0_2 t293 t294 t295 t296)) = some r := by rw [if_neg (show ¬ (false = true) by decide)] at H; exact H
                                  clear H
                                  have H := H1
                                  clear H1
                                  by_cases c64 : t297 = true
                                  · subst c64
                                    have H1 : (hopmeshlaw47_GossipSpeaks.l1 kj52 l2 x9_2 (wrap64 (x10_3 + 1)) x61_2 (wrap64 (x12_3 + 1)) (l2.length : Int) x61_2 x9_2 (wrap64 (x65_3 + 1)) a0_0 a0_1 a0_2 t293 t294 t295 t296) = some r := by rw [if_pos rfl] at H; exact H
                                    clear H
                                    have H := H1
                                    clear H1
                                    have H' := Aside0.mk H
                                    clear H
                                    go_wp2
                                    go_roundg kj52
                                    case measure => have := HJ3.out; have := HK2.out; have := HK3.out; have := HJ52.out; omega
                                    case rel => exact ⟨(wrap64 (x10_3 + 1)), (wrap64 (x12_3 + 1)), (wrap64 (x65_3 + 1)), (t293), (t294), (t295), (t296), (by first | rfl | (simp; done) | (simp [*]; done)), (by first | rfl | (simp; done) | (simp [*]; done)), (by first | rfl | (simp; done) | (simp [*]; done)), H', ⟨by have := HJ3.out; have := HK2.out; have := HK3.out; have := HJ52.out; omega⟩, ⟨by (with_reducible repeat (first | refine blk_drewN ?_ _ | refine blk_drew ?_ | refine blk_alloc ?_ _)); exact BK279.out⟩, ⟨by (with_reducible repeat (first | refine blk_drewN ?_ _ | refine blk_drew ?_ | refine blk_alloc ?_ _)); exact BK290.out⟩, ⟨by repeat (first | (with_reducible first | exact HB.out | apply below_alloc | apply pw_below_drewN | apply below_drew1 | refine below_set ?_ GE279.out | refine below_set ?_ GE290.out) | exact HB.out)⟩⟩
                                  · replace c64 := Bool.eq_false_iff.mpr c64
                                    subst c64
                                    have H1 : (hopmeshlaw47_GossipSpeaks.l1 kj52 l2 x9_2 (wrap64 (x10_3 + 1)) x61_2 x12_3 (l2.length : Int) x61_2 x9_2 (wrap64 (x65_3 + 1)) a0_0 a0_1 a0_2 t293 t294 t295 t296) = some r := by rw [if_neg (show ¬ (false = true) by decide)] at H; exact H
                                    clear H
                                    have H := H1
                                    clear H1
                                    have H' := Aside0.mk H
                                    clear H
                                    go_wp2
                                    go_roundg kj52
                                    case measure => have := HJ3.out; have := HK2.out; have := HK3.out; have := HJ52.out; omega
                                    case rel => exact ⟨(wrap64 (x10_3 + 1)), (x12_3), (wrap64 (x65_3 + 1)), (t293), (t294), (t295), (t296), (by first | rfl | (simp; done) | (simp [*]; done)), (by first | rfl | (simp; done) | (simp [*]; done)), (by first | rfl | (simp; done) | (simp [*]; done)), H', ⟨by have := HJ3.out; have := HK2.out; have := HK3.out; have := HJ52.out; omega⟩, ⟨by (with_reducible repeat (first | refine blk_drewN ?_ _ | refine blk_drew ?_ | refine blk_alloc ?_ _)); exact BK279.out⟩, ⟨by (with_reducible repeat (first | refine blk_drewN ?_ _ | refine blk_drew ?_ | refine blk_alloc ?_ _)); exact BK290.out⟩, ⟨by repeat (first | (with_reducible first | exact HB.out | apply below_alloc | apply pw_below_drewN | apply below_drew1 | refine below_set ?_ GE279.out | refine below_set ?_ GE290.out) | exact HB.out)⟩⟩
                          · rw [if_neg c51] at H
                            exact absurd H (by simp)
                        · rw [if_neg c50] at H
                          exact absurd H (by simp)
                      · rw [if_neg c49] at H
                        have c49b0 : decide (x65_3 < x9_2) = false := decide_eq_false c49
                        clear c49
                        by_cases c65 : x12_3 = 1
                        · rw [if_pos c65] at H
                          have c65b0 : (x12_3 == 1) = true := beq_iff_eq.mpr c65
                          have c65b1 : (x12_3 != 1) = false := bne_eq_false_iff_eq.mpr c65
                          clear c65
                          replace H := Option.bind_eq_some_iff.mp H
                          obtain ⟨t291, A660, H⟩ := H
                          replace H : (hopmeshlaw47_GossipSpeaks.l0 k3 l2 (mn (wrap64 (2 * x9_2)) t291) x10_3 (l2.length : Int) (wrap64 (x61_2 + 1)) a0_0 a0_1 a0_2 x291000_3 x291001_3 x291002_3 x291003_3) = some r := H
                          have A66 := Aside0.mk A660
                          clear A660
                          obtain ⟨ji67, hji67⟩ : ∃ j_ : Int, (mn (wrap64 (2 * x9_2)) t291) = j_ := ⟨_, rfl⟩
                          replace H : (hopmeshlaw47_GossipSpeaks.l0 k3 l2 ji67 x10_3 (l2.length : Int) (wrap64 (x61_2 + 1)) a0_0 a0_1 a0_2 x291000_3 x291001_3 x291002_3 x291003_3) = some r := by first | (rw [hji67] at H; exact H) | (simp only [hji67] at H ⊢; exact H)
                          (try rw [hji67] at A66)
                          have hji67_ : (if t291 < (wrap64 (2 * x9_2)) then t291 else (wrap64 (2 * x9_2))) = ji67 := hji67
                          have H' := Aside0.mk H
                          clear H
                          have hnb68 := NB279_290.out
                          have hnc68 := NB290_279.out
                          have hcz69_0 : wr.cell? ⟨gb279, 0, none⟩ = some (.int .i64 a0_0) := (blk_cell BK279.out 0).trans rfl
                          have hcz69_1 : wr.cell? ⟨gb279, 1, none⟩ = some (.int .i64 a0_1) := (blk_cell BK279.out 1).trans rfl
                          have hcz69_2 : wr.cell? ⟨gb279, 2, none⟩ = some (.int .i64 a0_2) := (blk_cell BK279.out 2).trans rfl
                          have hfz69_0 := blk_frozen BK279.out 0
                          have hfz69_1 := blk_frozen BK279.out 1
                          have hfz69_2 := blk_frozen BK279.out 2
                          go_wp2_with (first | ((with_reducible refine gate_callee (f := 17) rfl ?_); refine goesL_ (some 98) rfl rfl Try.func17 (by kernel_rfl) rfl #[.agg #[.int .i64 a0_0, .int .i64 a0_1, .int .i64 a0_2]] rfl (by (try simp only [List.map_toArray, List.map_cons, List.map_nil]); first | done | rfl | (simp only [List.length_drop, List.length_take]; rfl)) ?_; (with_reducible refine (gossip_Greatest.calls a0_0 a0_1 a0_2 t291 _ A66.out).mono ?_); rintro e w70 ⟨rfl, hb⟩; refine ⟨_, rfl, ?_⟩; have n0_ := Aside0.mk (blk_below (g := gb279) (o := .cells #[.int .i64 a0_0, .int .i64 a0_1, .int .i64 a0_2] 23 (0, 0)) (by (with_reducible repeat (first | refine blk_drewN ?_ _ | refine blk_drew ?_ | refine blk_alloc ?_ _)); exact BK279.out) hb); have n1_ := Aside0.mk (blk_below (g := gb290) (o := .cells #[.int .i64 x291000_3, .int .i64 x291001_3, .int .i64 x291002_3, .int .i64 x291003_3] 28 (0, 0)) (by (with_reducible repeat (first | refine blk_drewN ?_ _ | refine blk_drew ?_ | refine blk_alloc ?_ _)); exact BK290.out) hb); have n2_ := Aside0.mk (below_step (by repeat (first | (with_reducible first | exact HB.out | apply below_alloc | apply pw_below_drewN | apply below_drew1 | refine below_set ?_ GE279.out | refine below_set ?_ GE290.out) | exact HB.out)) hb); clear BK279; clear BK290; clear HB; have BK279 := n0_; have BK290 := n1_; have HB := n2_; clear n0_ n1_ n2_; (try clear hb); (try clear hb2); (try clear hk); (try clear hi)))
                          go_roundg k3
                          case measure => have := HJ3.out; have := HK2.out; have := HK3.out; omega
                          case rel => exact ⟨(ji67), (x10_3), (wrap64 (x61_2 + 1)), (x291000_3), (x291001_3), (x291002_3), (x291003_3), (by first | rfl | (simp; done) | (simp only [← hji67] <;> (first | rfl | simp)) | (simp [*]; done)), (by first | rfl | (simp; done) | (simp [*]; done)), (by first | rfl | (simp; done) | (simp [*]; done)), H', ⟨by have := HJ3.out; have := HK2.out; have := HK3.out; omega⟩, ⟨by (with_reducible repeat (first | refine blk_drewN ?_ _ | refine blk_drew ?_ | refine blk_alloc ?_ _)); exact BK279.out⟩, ⟨by (with_reducible repeat (first | refine blk_drewN ?_ _ | refine blk_drew ?_ | refine blk_alloc ?_ _)); exact BK290.out⟩, ⟨by repeat (first | (with_reducible first | exact HB.out | apply below_alloc | apply pw_below_drewN | apply below_drew1 | refine below_set ?_ GE279.out | refine below_set ?_ GE290.out) | exact HB.out)⟩⟩
                        · rw [if_neg c65] at H
                          have c65b0 : (x12_3 == 1) = false := beq_eq_false_iff_ne.mpr c65
                          have c65b1 : (x12_3 != 1) = true := bne_iff_ne.mpr c65
                          exact absurd (H.trans (congrArg some HRT.out)) (by simp)
                · rw [if_neg c48] at H
                  have c48b0 : decide (x61_2 < (l2.length : Int)) = false := decide_eq_false c48
                  clear c48
                  obtain rfl := Option.some.inj H
                  go_wp2
                  go_ret
                  exact ⟨by first | rfl | (simp [errW_none, errW_some] <;> rfl) | (simp [*, errW_none, errW_some] <;> rfl), by repeat (first | (with_reducible first | exact HB.out | apply below_alloc | apply pw_below_drewN | apply below_drew1 | refine below_set ?_ GE279.out | refine below_set ?_ GE290.out) | exact HB.out)⟩
          · rw [if_neg c37] at H
            have c37b0 : (t289 == 0) = false := beq_eq_false_iff_ne.mpr c37
            have c37b1 : (t289 != 0) = true := bne_iff_ne.mpr c37
            exact absurd (H.trans (congrArg some HRT.out)) (by simp)
        · rw [if_neg c35] at H
          exact absurd H (by simp)

end Go.Proofs.Ytmmknoaapllcmaa.PA
