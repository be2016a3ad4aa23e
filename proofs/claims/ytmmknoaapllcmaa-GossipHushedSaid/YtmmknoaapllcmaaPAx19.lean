-- Written by a program of this session (mkprint.py: the kit's print, changed) for this claim. Not trusted: Lean checks it.
import Derived.Test.YtmmknoaapllcmaaPAx0
import Derived.Test.YtmmknoaapllcmaaPAx2
import Derived.Test.YtmmknoaapllcmaaPAx5
import Derived.Test.YtmmknoaapllcmaaPAx6
import Derived.Test.YtmmknoaapllcmaaPAx18
namespace Go.Proofs.Ytmmknoaapllcmaa.PA
open Go.RowKit Go.Proofs.YtmmknoaapllcmaaW.PrintWords Go.Proofs.YtmmknoaapllcmaaW.PrintLast Go.Proofs.YtmmknoaapllcmaaW.PrintMore
attribute [local go_sem] max2_int min2_int max_two min_two max_three min_three max_four min_four   -- for this text's walks alone
set_option linter.unusedVariables false
set_option linter.unusedSimpArgs false

/-! ### hopmeshlaw47_GossipHushed: function 8 -/
mutual
def hopmeshlaw47_GossipHushed.j0 : Nat → Int → Int → Int → Bool → Int → Int → Int → Option (Bool)
  | 0, _, _, _, _, _, _, _ => none
  | k + 1, x1, x2, x3, x35, x363000, x363001, x363002 => if x35 = true then ((hopmeshlaw47_awake.f).bind fun t365 => (some t365)) else ((gossip_Start.f x363000 x363001 x363002 x1 x2).bind fun bt366 => (if bt366.2.2.2.2 = 0 then (hopmeshlaw47_GossipHushed.l0 k x1 x2 (wrap64 (x363002 + (wrap64 (Int.tmod x3 4)))) 0 x363000 x363001 x363002 bt366.1 bt366.2.1 bt366.2.2.1 bt366.2.2.2.1) else (some false)))
def hopmeshlaw47_GossipHushed.l0 : Nat → Int → Int → Int → Int → Int → Int → Int → Int → Int → Int → Int → Option (Bool)
  | 0, _, _, _, _, _, _, _, _, _, _, _ => none
  | k + 1, x1, x2, x51, x52, x363000, x363001, x363002, x372000, x372001, x372002, x372003 => if x52 < x51 then ((gossip_Hear.f k x363000 x363001 x363002 x372000 x372001 x372002 x372003 true x1 x2).bind fun bt372 => (if bt372.2.2.2.2 = 0 then (hopmeshlaw47_GossipHushed.l0 k x1 x2 x51 (wrap64 (x52 + 1)) x363000 x363001 x363002 bt372.1 bt372.2.1 bt372.2.2.1 bt372.2.2.2.1) else (some false))) else ((gossip_Due.f k x363000 x363001 x363002 x372000 x372001 x372002 x372003 x1 (wrap64 (x1 + x363000))).bind fun bt377 => (if bt377.2.1 = true then (hopmeshlaw47_GossipHushed.j2 k x1 x2 true x363000 x363001 x363002 x372000 x372001 x372002 x372003) else (hopmeshlaw47_GossipHushed.j2 k x1 x2 (bt377.2.2 != 0) x363000 x363001 x363002 x372000 x372001 x372002 x372003)))
def hopmeshlaw47_GossipHushed.j2 : Nat → Int → Int → Bool → Int → Int → Int → Int → Int → Int → Int → Option (Bool)
  | 0, _, _, _, _, _, _, _, _, _, _ => none
  | k + 1, x1, x2, x81, x363000, x363001, x363002, x372000, x372001, x372002, x372003 => if x81 = true then (some false) else (hopmeshlaw47_GossipHushed.l1 k x1 x2 x363000 0 x363000 x363001 x363002 x372000 x372001 x372002 x372003)
def hopmeshlaw47_GossipHushed.l1 : Nat → Int → Int → Int → Int → Int → Int → Int → Int → Int → Int → Int → Option (Bool)
  | 0, _, _, _, _, _, _, _, _, _, _, _ => none
  | k + 1, x1, x2, x83, x84, x363000, x363001, x363002, x372000, x372001, x372002, x372003 => if x84 < x83 then ((gossip_Step.f k x363000 x363001 x363002 x372000 x372001 x372002 x372003 (wrap64 (x1 + x84)) x2).bind fun bt380 => (if bt380.2.2.2.2.1 = true then (some false) else (if bt380.2.2.2.2.2 = 0 then (hopmeshlaw47_GossipHushed.l1 k x1 x2 x83 (wrap64 (x84 + 1)) x363000 x363001 x363002 bt380.1 bt380.2.1 bt380.2.2.1 bt380.2.2.2.1) else (some false)))) else (some true)
end
def hopmeshlaw47_GossipHushed.f (k : Nat) (a0_0 : Int) (a0_1 : Int) (a0_2 : Int) (a1 : Int) (a2 : Int) (a3 : Int) : Option (Bool) := (hopmeshlaw47_awake.f).bind fun t363 => (if t363 = true then ((gossip_Check.f a0_0 a0_1 a0_2).bind fun t364 => (if t364 = 0 then (if a0_2 = 0 then (hopmeshlaw47_GossipHushed.j0 k a1 a2 a3 true a0_0 a0_1 a0_2) else (if a1 < 0 then (hopmeshlaw47_GossipHushed.j0 k a1 a2 a3 true a0_0 a0_1 a0_2) else (hopmeshlaw47_GossipHushed.j0 k a1 a2 a3 (decide (a1 > 1048576)) a0_0 a0_1 a0_2))) else (hopmeshlaw47_GossipHushed.j0 k a1 a2 a3 true a0_0 a0_1 a0_2))) else (hopmeshlaw47_GossipHushed.j0 k a1 a2 a3 true a0_0 a0_1 a0_2))
theorem hopmeshlaw47_GossipHushed.mono_l : ∀ k, (∀ y0 y1 y2 y3 y4 y5 y6, LeO (hopmeshlaw47_GossipHushed.j0 k y0 y1 y2 y3 y4 y5 y6) (hopmeshlaw47_GossipHushed.j0 (k + 1) y0 y1 y2 y3 y4 y5 y6)) ∧ (∀ y0 y1 y2 y3 y4 y5 y6 y7 y8 y9 y10, LeO (hopmeshlaw47_GossipHushed.l0 k y0 y1 y2 y3 y4 y5 y6 y7 y8 y9 y10) (hopmeshlaw47_GossipHushed.l0 (k + 1) y0 y1 y2 y3 y4 y5 y6 y7 y8 y9 y10)) ∧ (∀ y0 y1 y2 y3 y4 y5 y6 y7 y8 y9, LeO (hopmeshlaw47_GossipHushed.j2 k y0 y1 y2 y3 y4 y5 y6 y7 y8 y9) (hopmeshlaw47_GossipHushed.j2 (k + 1) y0 y1 y2 y3 y4 y5 y6 y7 y8 y9)) ∧ (∀ y0 y1 y2 y3 y4 y5 y6 y7 y8 y9 y10, LeO (hopmeshlaw47_GossipHushed.l1 k y0 y1 y2 y3 y4 y5 y6 y7 y8 y9 y10) (hopmeshlaw47_GossipHushed.l1 (k + 1) y0 y1 y2 y3 y4 y5 y6 y7 y8 y9 y10))
  | 0 => ⟨fun _ _ _ _ _ _ _ r h => by simp [hopmeshlaw47_GossipHushed.j0] at h, fun _ _ _ _ _ _ _ _ _ _ _ r h => by simp [hopmeshlaw47_GossipHushed.l0] at h, fun _ _ _ _ _ _ _ _ _ _ r h => by simp [hopmeshlaw47_GossipHushed.j2] at h, fun _ _ _ _ _ _ _ _ _ _ _ r h => by simp [hopmeshlaw47_GossipHushed.l1] at h⟩
  | k + 1 => by
    obtain ⟨ih0, ih1, ih2, ih3⟩ := hopmeshlaw47_GossipHushed.mono_l k
    refine ⟨?_, ?_, ?_, ?_⟩
    · intro y0 y1 y2 y3 y4 y5 y6
      unfold hopmeshlaw47_GossipHushed.j0
      repeat' first
      | (with_reducible exact ih0 _ _ _ _ _ _ _)
      | (with_reducible exact ih1 _ _ _ _ _ _ _ _ _ _ _)
      | (with_reducible exact ih2 _ _ _ _ _ _ _ _ _ _)
      | (with_reducible exact ih3 _ _ _ _ _ _ _ _ _ _ _)
      | (with_reducible exact gossip_Due.mono _ _ _ _ _ _ _ _ _ _)
      | (with_reducible exact gossip_Hear.mono _ _ _ _ _ _ _ _ _ _ _)
      | (with_reducible exact gossip_Step.mono _ _ _ _ _ _ _ _ _ _)
      | (with_reducible exact LeO.refl _)
      | (with_reducible exact LeO.none _)
      | (with_reducible refine LeO.ite ?_ ?_)
      | (with_reducible refine LeO.bind ?_ (fun _ => ?_))
      | exact ih0 _ _ _ _ _ _ _
      | exact ih1 _ _ _ _ _ _ _ _ _ _ _
      | exact ih2 _ _ _ _ _ _ _ _ _ _
      | exact ih3 _ _ _ _ _ _ _ _ _ _ _
      | exact gossip_Due.mono _ _ _ _ _ _ _ _ _ _
      | exact gossip_Hear.mono _ _ _ _ _ _ _ _ _ _ _
      | exact gossip_Step.mono _ _ _ _ _ _ _ _ _ _
      | exact LeO.none _
      | refine LeO.ite ?_ ?_
      | refine LeO.bind ?_ (fun _ => ?_)
    · intro y0 y1 y2 y3 y4 y5 y6 y7 y8 y9 y10
      unfold hopmeshlaw47_GossipHushed.l0
      repeat' first
      | (with_reducible exact ih0 _ _ _ _ _ _ _)
      | (with_reducible exact ih1 _ _ _ _ _ _ _ _ _ _ _)
      | (with_reducible exact ih2 _ _ _ _ _ _ _ _ _ _)
      | (with_reducible exact ih3 _ _ _ _ _ _ _ _ _ _ _)
      | (with_reducible exact gossip_Due.mono _ _ _ _ _ _ _ _ _ _)
      | (with_reducible exact gossip_Hear.mono _ _ _ _ _ _ _ _ _ _ _)
      | (with_reducible exact gossip_Step.mono _ _ _ _ _ _ _ _ _ _)
      | (with_reducible exact LeO.refl _)
      | (with_reducible exact LeO.none _)
      | (with_reducible refine LeO.ite ?_ ?_)
      | (with_reducible refine LeO.bind ?_ (fun _ => ?_))
      | exact ih0 _ _ _ _ _ _ _
      | exact ih1 _ _ _ _ _ _ _ _ _ _ _
      | exact ih2 _ _ _ _ _ _ _ _ _ _
      | exact ih3 _ _ _ _ _ _ _ _ _ _ _
      | exact gossip_Due.mono _ _ _ _ _ _ _ _ _ _
      | exact gossip_Hear.mono _ _ _ _ _ _ _ _ _ _ _
      | exact gossip_Step.mono _ _ _ _ _ _ _ _ _ _
      | exact LeO.none _
      | refine LeO.ite ?_ ?_
      | refine LeO.bind ?_ (fun _ => ?_)
    · intro y0 y1 y2 y3 y4 y5 y6 y7 y8 y9
      unfold hopmeshlaw47_GossipHushed.j2
      repeat' first
      | (with_reducible exact ih0 _ _ _ _ _ _ _)
      | (with_reducible exact ih1 _ _ _ _ _ _ _ _ _ _ _)
      | (with_reducible exact ih2 _ _ _ _ _ _ _ _ _ _)
      | (with_reducible exact ih3 _ _ _ _ _ _ _ _ _ _ _)
      | (with_reducible exact gossip_Due.mono _ _ _ _ _ _ _ _ _ _)
      | (with_reducible exact gossip_Hear.mono _ _ _ _ _ _ _ _ _ _ _)
      | (with_reducible exact gossip_Step.mono _ _ _ _ _ _ _ _ _ _)
      | (with_reducible exact LeO.refl _)
      | (with_reducible exact LeO.none _)
      | (with_reducible refine LeO.ite ?_ ?_)
      | (with_reducible refine LeO.bind ?_ (fun _ => ?_))
      | exact ih0 _ _ _ _ _ _ _
      | exact ih1 _ _ _ _ _ _ _ _ _ _ _
      | exact ih2 _ _ _ _ _ _ _ _ _ _
      | exact ih3 _ _ _ _ _ _ _ _ _ _ _
      | exact gossip_Due.mono _ _ _ _ _ _ _ _ _ _
      | exact gossip_Hear.mono _ _ _ _ _ _ _ _ _ _ _
      | exact gossip_Step.mono _ _ _ _ _ _ _ _ _ _
      | exact LeO.none _
      | refine LeO.ite ?_ ?_
      | refine LeO.bind ?_ (fun _ => ?_)
    · intro y0 y1 y2 y3 y4 y5 y6 y7 y8 y9 y10
      unfold hopmeshlaw47_GossipHushed.l1
      repeat' first
      | (with_reducible exact ih0 _ _ _ _ _ _ _)
      | (with_reducible exact ih1 _ _ _ _ _ _ _ _ _ _ _)
      | (with_reducible exact ih2 _ _ _ _ _ _ _ _ _ _)
      | (with_reducible exact ih3 _ _ _ _ _ _ _ _ _ _ _)
      | (with_reducible exact gossip_Due.mono _ _ _ _ _ _ _ _ _ _)
      | (with_reducible exact gossip_Hear.mono _ _ _ _ _ _ _ _ _ _ _)
      | (with_reducible exact gossip_Step.mono _ _ _ _ _ _ _ _ _ _)
      | (with_reducible exact LeO.refl _)
      | (with_reducible exact LeO.none _)
      | (with_reducible refine LeO.ite ?_ ?_)
      | (with_reducible refine LeO.bind ?_ (fun _ => ?_))
      | exact ih0 _ _ _ _ _ _ _
      | exact ih1 _ _ _ _ _ _ _ _ _ _ _
      | exact ih2 _ _ _ _ _ _ _ _ _ _
      | exact ih3 _ _ _ _ _ _ _ _ _ _ _
      | exact gossip_Due.mono _ _ _ _ _ _ _ _ _ _
      | exact gossip_Hear.mono _ _ _ _ _ _ _ _ _ _ _
      | exact gossip_Step.mono _ _ _ _ _ _ _ _ _ _
      | exact LeO.none _
      | refine LeO.ite ?_ ?_
      | refine LeO.bind ?_ (fun _ => ?_)
theorem hopmeshlaw47_GossipHushed.mono : ∀ a0 a1 a2 a3 a4 a5 k, LeO (hopmeshlaw47_GossipHushed.f k a0 a1 a2 a3 a4 a5) (hopmeshlaw47_GossipHushed.f (k + 1) a0 a1 a2 a3 a4 a5) := by
  intro a0 a1 a2 a3 a4 a5 k
  obtain ⟨ih0, ih1, ih2, ih3⟩ := hopmeshlaw47_GossipHushed.mono_l k
  unfold hopmeshlaw47_GossipHushed.f
  repeat' first
      | (with_reducible exact ih0 _ _ _ _ _ _ _)
      | (with_reducible exact ih1 _ _ _ _ _ _ _ _ _ _ _)
      | (with_reducible exact ih2 _ _ _ _ _ _ _ _ _ _)
      | (with_reducible exact ih3 _ _ _ _ _ _ _ _ _ _ _)
      | (with_reducible exact gossip_Due.mono _ _ _ _ _ _ _ _ _ _)
      | (with_reducible exact gossip_Hear.mono _ _ _ _ _ _ _ _ _ _ _)
      | (with_reducible exact gossip_Step.mono _ _ _ _ _ _ _ _ _ _)
      | (with_reducible exact LeO.refl _)
      | (with_reducible exact LeO.none _)
      | (with_reducible refine LeO.ite ?_ ?_)
      | (with_reducible refine LeO.bind ?_ (fun _ => ?_))
      | exact ih0 _ _ _ _ _ _ _
      | exact ih1 _ _ _ _ _ _ _ _ _ _ _
      | exact ih2 _ _ _ _ _ _ _ _ _ _
      | exact ih3 _ _ _ _ _ _ _ _ _ _ _
      | exact gossip_Due.mono _ _ _ _ _ _ _ _ _ _
      | exact gossip_Hear.mono _ _ _ _ _ _ _ _ _ _ _
      | exact gossip_Step.mono _ _ _ _ _ _ _ _ _ _
      | exact LeO.none _
      | refine LeO.ite ?_ ?_
      | refine LeO.bind ?_ (fun _ => ?_)
set_option maxHeartbeats 8000000 in
set_option maxRecDepth 100000 in
theorem hopmeshlaw47_GossipHushed.calls (k : Nat) (a0_0 : Int) (a0_1 : Int) (a0_2 : Int) (a1 : Int) (a2 : Int) (a3 : Int) (r : Bool) (w : World) (h : hopmeshlaw47_GossipHushed.f k a0_0 a0_1 a0_2 a1 a2 a3 = some r) (hr_ : r = true) :
    Calls Try.prog 8 #[.agg #[.int .i64 a0_0, .int .i64 a0_1, .int .i64 a0_2], .int .i64 a1, .int .u32 a2, .int .u8 a3] w fun e w' => e = .returned (.bool r) ∧ Below w.heap.size w w' := by
  have hu23 := Try.underlying23
  have hu28 := Try.underlying28
  have HRT := Aside0.mk hr_
  clear hr_
  have HB := Aside0.mk (Below.refl w.heap.size w)
  have H : ((hopmeshlaw47_awake.f).bind fun t363 => (if t363 = true then ((gossip_Check.f a0_0 a0_1 a0_2).bind fun t364 => (if t364 = 0 then (if a0_2 = 0 then (hopmeshlaw47_GossipHushed.j0 k a1 a2 a3 true a0_0 a0_1 a0_2) else (if a1 < 0 then (hopmeshlaw47_GossipHushed.j0 k a1 a2 a3 true a0_0 a0_1 a0_2) else (hopmeshlaw47_GossipHushed.j0 k a1 a2 a3 (decide (a1 > 1048576)) a0_0 a0_1 a0_2))) else (hopmeshlaw47_GossipHushed.j0 k a1 a2 a3 true a0_0 a0_1 a0_2))) else (hopmeshlaw47_GossipHushed.j0 k a1 a2 a3 true a0_0 a0_1 a0_2))) = some r := h
  clear h
  have HC5 := Aside0.mk H
  clear H
  go_enter Try.func8, Try.ntmps8
  go_upto_region 1 with (first | ((with_reducible refine gate_dst (N := 4) rfl ?_); refine box_event ?hg (N := 4) ?hd (cs := #[.int .i64 a0_0, .int .i64 a0_1, .int .i64 a0_2]) (t := 23) ?hr ?_; (case hd => rfl); (case hg => rfl); (case hr => first | (go_simp; done) | (go_simp; rfl)); intro gb362 hg w6 hbox hb; have n0_ := Aside0.mk (below_step (by repeat (first | (with_reducible first | exact HB.out | apply below_alloc | apply pw_below_drewN | apply below_drew1) | exact HB.out)) hb); have n1_ := Aside0.mk (hbox); have n2_ := Aside0.mk ((by rw [hg]; exact (below_size (by repeat (first | (with_reducible first | exact HB.out | apply below_alloc | apply pw_below_drewN | apply below_drew1) | exact HB.out))) : w.heap.size ≤ gb362)); have n3_ := Aside0.mk ((by rw [hg]; exact (below_size (by repeat (first | (with_reducible first | exact HB.out | apply below_alloc | apply pw_below_drewN | apply below_drew1) | exact HB.out))) : w.heap.size ≤ gb362)); clear HB; have HB := n0_; have BK362 := n1_; have GW362 := n2_; have GE362 := n3_; clear n0_ n1_ n2_ n3_; clear hb hbox hg))
  (try simp only [Act.put, List.setIfInBounds_toArray, List.set_cons_zero, List.set_cons_succ])
  go_cut [35] (fun v35 wc => ∃ (kq : Nat) (x35_4 : Bool), v35 = .bool x35_4 ∧ Aside0 (hopmeshlaw47_GossipHushed.j0 kq a1 a2 a3 x35_4 a0_0 a0_1 a0_2 = some r) ∧ Aside0 (kq ≤ k) ∧ Aside0 (wc.heap[gb362]? = some (.cells #[.int .i64 a0_0, .int .i64 a0_1, .int .i64 a0_2] 23 (0, 0))) ∧ Aside0 (Below w.heap.size w wc))
  case first =>
    have H := HC5.out
    clear HC5
    replace H := Option.bind_eq_some_iff.mp H
    obtain ⟨t363, A70, H⟩ := H
    replace H : (if t363 = true then ((gossip_Check.f a0_0 a0_1 a0_2).bind fun t364 => (if t364 = 0 then (if a0_2 = 0 then (hopmeshlaw47_GossipHushed.j0 k a1 a2 a3 true a0_0 a0_1 a0_2) else (if a1 < 0 then (hopmeshlaw47_GossipHushed.j0 k a1 a2 a3 true a0_0 a0_1 a0_2) else (hopmeshlaw47_GossipHushed.j0 k a1 a2 a3 (decide (a1 > 1048576)) a0_0 a0_1 a0_2))) else (hopmeshlaw47_GossipHushed.j0 k a1 a2 a3 true a0_0 a0_1 a0_2))) else (hopmeshlaw47_GossipHushed.j0 k a1 a2 a3 true a0_0 a0_1 a0_2)) = some r := H
    have A7 := Aside0.mk A70
    clear A70
    by_cases c8 : t363 = true
    · subst c8
      have H1 : ((gossip_Check.f a0_0 a0_1 a0_2).bind fun t364 => (if t364 = 0 then (if a0_2 = 0 then (hopmeshlaw47_GossipHushed.j0 k a1 a2 a3 true a0_0 a0_1 a0_2) else (if a1 < 0 then (hopmeshlaw47_GossipHushed.j0 k a1 a2 a3 true a0_0 a0_1 a0_2) else (hopmeshlaw47_GossipHushed.j0 k a1 a2 a3 (decide (a1 > 1048576)) a0_0 a0_1 a0_2))) else (hopmeshlaw47_GossipHushed.j0 k a1 a2 a3 true a0_0 a0_1 a0_2))) = some r := by rw [if_pos rfl] at H; exact H
      clear H
      have H := H1
      clear H1
      replace H := Option.bind_eq_some_iff.mp H
      obtain ⟨t364, A90, H⟩ := H
      replace H : (if t364 = 0 then (if a0_2 = 0 then (hopmeshlaw47_GossipHushed.j0 k a1 a2 a3 true a0_0 a0_1 a0_2) else (if a1 < 0 then (hopmeshlaw47_GossipHushed.j0 k a1 a2 a3 true a0_0 a0_1 a0_2) else (hopmeshlaw47_GossipHushed.j0 k a1 a2 a3 (decide (a1 > 1048576)) a0_0 a0_1 a0_2))) else (hopmeshlaw47_GossipHushed.j0 k a1 a2 a3 true a0_0 a0_1 a0_2)) = some r := H
      have A9 := Aside0.mk A90
      clear A90
      by_cases c10 : t364 = 0
      · rw [if_pos c10] at H
        have c10b0 : (t364 == 0) = true := beq_iff_eq.mpr c10
        have c10b1 : (t364 != 0) = false := bne_eq_false_iff_eq.mpr c10
        clear c10
        (first | rw [c10b0] | (simp only [i64_w, i32_w]; rw [c10b0]) | skip)
        by_cases c11 : a0_2 = 0
        · rw [if_pos c11] at H
          have c11b0 : (a0_2 == 0) = true := beq_iff_eq.mpr c11
          have c11b1 : (a0_2 != 0) = false := bne_eq_false_iff_eq.mpr c11
          clear c11
          have H' := Aside0.mk H
          clear H
          go_wp2_with (first | ((with_reducible refine gate_callee (f := 9) rfl ?_); refine goesL_ (some 16) rfl rfl Try.func9 (by kernel_rfl) rfl #[] rfl (by (try simp only [List.map_toArray, List.map_cons, List.map_nil]); first | done | rfl | (simp only [List.length_drop, List.length_take]; rfl)) ?_; (with_reducible refine (hopmeshlaw47_awake.calls  true _ A7.out).mono ?_); rintro e w12 ⟨rfl, hb⟩; refine ⟨_, rfl, ?_⟩; have n0_ := Aside0.mk (blk_below (g := gb362) (o := .cells #[.int .i64 a0_0, .int .i64 a0_1, .int .i64 a0_2] 23 (0, 0)) (by (with_reducible repeat (first | refine blk_drewN ?_ _ | refine blk_drew ?_ | refine blk_alloc ?_ _)); exact BK362.out) hb); have n1_ := Aside0.mk (below_step (by repeat (first | (with_reducible first | exact HB.out | apply below_alloc | apply pw_below_drewN | apply below_drew1 | refine below_set ?_ GE362.out) | exact HB.out)) hb); clear BK362; clear HB; have BK362 := n0_; have HB := n1_; clear n0_ n1_; (try clear hb); (try clear hb2); (try clear hk); (try clear hi); have hcz13_0 : w12.cell? ⟨gb362, 0, none⟩ = some (.int .i64 a0_0) := (blk_cell BK362.out 0).trans rfl; have hcz13_1 : w12.cell? ⟨gb362, 1, none⟩ = some (.int .i64 a0_1) := (blk_cell BK362.out 1).trans rfl; have hcz13_2 : w12.cell? ⟨gb362, 2, none⟩ = some (.int .i64 a0_2) := (blk_cell BK362.out 2).trans rfl; have hfz13_0 := blk_frozen BK362.out 0; have hfz13_1 := blk_frozen BK362.out 1; have hfz13_2 := blk_frozen BK362.out 2) | (go_at_call 18; (with_reducible refine (gossip_Check.calls a0_0 a0_1 a0_2 t364 _ A9.out).mono ?_); rintro e w14 ⟨rfl, hb⟩; have n0_ := Aside0.mk (blk_below (g := gb362) (o := .cells #[.int .i64 a0_0, .int .i64 a0_1, .int .i64 a0_2] 23 (0, 0)) (by (with_reducible repeat (first | refine blk_drewN ?_ _ | refine blk_drew ?_ | refine blk_alloc ?_ _)); exact BK362.out) hb); have n1_ := Aside0.mk (below_step (by repeat (first | (with_reducible first | exact HB.out | apply below_alloc | apply pw_below_drewN | apply below_drew1 | refine below_set ?_ GE362.out) | exact HB.out)) hb); clear BK362; clear HB; have BK362 := n0_; have HB := n1_; clear n0_ n1_; (try clear hb); (try clear hb2); (try clear hk); (try clear hi); have hcz15_0 : w14.cell? ⟨gb362, 0, none⟩ = some (.int .i64 a0_0) := (blk_cell BK362.out 0).trans rfl; have hcz15_1 : w14.cell? ⟨gb362, 1, none⟩ = some (.int .i64 a0_1) := (blk_cell BK362.out 1).trans rfl; have hcz15_2 : w14.cell? ⟨gb362, 2, none⟩ = some (.int .i64 a0_2) := (blk_cell BK362.out 2).trans rfl; have hfz15_0 := blk_frozen BK362.out 0; have hfz15_1 := blk_frozen BK362.out 1; have hfz15_2 := blk_frozen BK362.out 2))
          go_meet
          case rel => exact ⟨_, (true), (by first | rfl | (simp; done) | (simp [*]; done)), H', ⟨by first | omega | exact Nat.le_refl _⟩, ⟨by (with_reducible repeat (first | refine blk_drewN ?_ _ | refine blk_drew ?_ | refine blk_alloc ?_ _)); exact BK362.out⟩, ⟨by repeat (first | (with_reducible first | exact HB.out | apply below_alloc | apply pw_below_drewN | apply below_drew1 | refine below_set ?_ GE362.out) | exact HB.out)⟩⟩
        · rw [if_neg c11] at H
          have c11b0 : (a0_2 == 0) = false := beq_eq_false_iff_ne.mpr c11
          have c11b1 : (a0_2 != 0) = true := bne_iff_ne.mpr c11
          by_cases c16 : a1 < 0
          · rw [if_pos c16] at H
            have c16b0 : decide (a1 < 0) = true := decide_eq_true c16
            clear c16
            have H' := Aside0.mk H
            clear H
            go_wp2_with (first | ((with_reducible refine gate_callee (f := 9) rfl ?_); refine goesL_ (some 16) rfl rfl Try.func9 (by kernel_rfl) rfl #[] rfl (by (try simp only [List.map_toArray, List.map_cons, List.map_nil]); first | done | rfl | (simp only [List.length_drop, List.length_take]; rfl)) ?_; (with_reducible refine (hopmeshlaw47_awake.calls  true _ A7.out).mono ?_); rintro e w17 ⟨rfl, hb⟩; refine ⟨_, rfl, ?_⟩; have n0_ := Aside0.mk (blk_below (g := gb362) (o := .cells #[.int .i64 a0_0, .int .i64 a0_1, .int .i64 a0_2] 23 (0, 0)) (by (with_reducible repeat (first | refine blk_drewN ?_ _ | refine blk_drew ?_ | refine blk_alloc ?_ _)); exact BK362.out) hb); have n1_ := Aside0.mk (below_step (by repeat (first | (with_reducible first | exact HB.out | apply below_alloc | apply pw_below_drewN | apply below_drew1 | refine below_set ?_ GE362.out) | exact HB.out)) hb); clear BK362; clear HB; have BK362 := n0_; have HB := n1_; clear n0_ n1_; (try clear hb); (try clear hb2); (try clear hk); (try clear hi); have hcz18_0 : w17.cell? ⟨gb362, 0, none⟩ = some (.int .i64 a0_0) := (blk_cell BK362.out 0).trans rfl; have hcz18_1 : w17.cell? ⟨gb362, 1, none⟩ = some (.int .i64 a0_1) := (blk_cell BK362.out 1).trans rfl; have hcz18_2 : w17.cell? ⟨gb362, 2, none⟩ = some (.int .i64 a0_2) := (blk_cell BK362.out 2).trans rfl; have hfz18_0 := blk_frozen BK362.out 0; have hfz18_1 := blk_frozen BK362.out 1; have hfz18_2 := blk_frozen BK362.out 2) | (go_at_call 18; (with_reducible refine (gossip_Check.calls a0_0 a0_1 a0_2 t364 _ A9.out).mono ?_); rintro e w19 ⟨rfl, hb⟩; have n0_ := Aside0.mk (blk_below (g := gb362) (o := .cells #[.int .i64 a0_0, .int .i64 a0_1, .int .i64 a0_2] 23 (0, 0)) (by (with_reducible repeat (first | refine blk_drewN ?_ _ | refine blk_drew ?_ | refine blk_alloc ?_ _)); exact BK362.out) hb); have n1_ := Aside0.mk (below_step (by repeat (first | (with_reducible first | exact HB.out | apply below_alloc | apply pw_below_drewN | apply below_drew1 | refine below_set ?_ GE362.out) | exact HB.out)) hb); clear BK362; clear HB; have BK362 := n0_; have HB := n1_; clear n0_ n1_; (try clear hb); (try clear hb2); (try clear hk); (try clear hi); have hcz20_0 : w19.cell? ⟨gb362, 0, none⟩ = some (.int .i64 a0_0) := (blk_cell BK362.out 0).trans rfl; have hcz20_1 : w19.cell? ⟨gb362, 1, none⟩ = some (.int .i64 a0_1) := (blk_cell BK362.out 1).trans rfl; have hcz20_2 : w19.cell? ⟨gb362, 2, none⟩ = some (.int .i64 a0_2) := (blk_cell BK362.out 2).trans rfl; have hfz20_0 := blk_frozen BK362.out 0; have hfz20_1 := blk_frozen BK362.out 1; have hfz20_2 := blk_frozen BK362.out 2))
            go_meet
            case rel => exact ⟨_, (true), (by first | rfl | (simp; done) | (simp [*]; done)), H', ⟨by first | omega | exact Nat.le_refl _⟩, ⟨by (with_reducible repeat (first | refine blk_drewN ?_ _ | refine blk_drew ?_ | refine blk_alloc ?_ _)); exact BK362.out⟩, ⟨by repeat (first | (with_reducible first | exact HB.out | apply below_alloc | apply pw_below_drewN | apply below_drew1 | refine below_set ?_ GE362.out) | exact HB.out)⟩⟩
          · rw [if_neg c16] at H
            have c16b0 : decide (a1 < 0) = false := decide_eq_false c16
            clear c16
            have H' := Aside0.mk H
            clear H
            go_wp2_with (first | ((with_reducible refine gate_callee (f := 9) rfl ?_); refine goesL_ (some 16) rfl rfl Try.func9 (by kernel_rfl) rfl #[] rfl (by (try simp only [List.map_toArray, List.map_cons, List.map_nil]); first | done | rfl | (simp only [List.length_drop, List.length_take]; rfl)) ?_; (with_reducible refine (hopmeshlaw47_awake.calls  true _ A7.out).mono ?_); rintro e w21 ⟨rfl, hb⟩; refine ⟨_, rfl, ?_⟩; have n0_ := Aside0.mk (blk_below (g := gb362) (o := .cells #[.int .i64 a0_0, .int .i64 a0_1, .int .i64 a0_2] 23 (0, 0)) (by (with_reducible repeat (first | refine blk_drewN ?_ _ | refine blk_drew ?_ | refine blk_alloc ?_ _)); exact BK362.out) hb); have n1_ := Aside0.mk (below_step (by repeat (first | (with_reducible first | exact HB.out | apply below_alloc | apply pw_below_drewN | apply below_drew1 | refine below_set ?_ GE362.out) | exact HB.out)) hb); clear BK362; clear HB; have BK362 := n0_; have HB := n1_; clear n0_ n1_; (try clear hb); (try clear hb2); (try clear hk); (try clear hi); have hcz22_0 : w21.cell? ⟨gb362, 0, none⟩ = some (.int .i64 a0_0) := (blk_cell BK362.out 0).trans rfl; have hcz22_1 : w21.cell? ⟨gb362, 1, none⟩ = some (.int .i64 a0_1) := (blk_cell BK362.out 1).trans rfl; have hcz22_2 : w21.cell? ⟨gb362, 2, none⟩ = some (.int .i64 a0_2) := (blk_cell BK362.out 2).trans rfl; have hfz22_0 := blk_frozen BK362.out 0; have hfz22_1 := blk_frozen BK362.out 1; have hfz22_2 := blk_frozen BK362.out 2) | (go_at_call 18; (with_reducible refine (gossip_Check.calls a0_0 a0_1 a0_2 t364 _ A9.out).mono ?_); rintro e w23 ⟨rfl, hb⟩; have n0_ := Aside0.mk (blk_below (g := gb362) (o := .cells #[.int .i64 a0_0, .int .i64 a0_1, .int .i64 a0_2] 23 (0, 0)) (by (with_reducible repeat (first | refine blk_drewN ?_ _ | refine blk_drew ?_ | refine blk_alloc ?_ _)); exact BK362.out) hb); have n1_ := Aside0.mk (below_step (by repeat (first | (with_reducible first | exact HB.out | apply below_alloc | apply pw_below_drewN | apply below_drew1 | refine below_set ?_ GE362.out) | exact HB.out)) hb); clear BK362; clear HB; have BK362 := n0_; have HB := n1_; clear n0_ n1_; (try clear hb); (try clear hb2); (try clear hk); (try clear hi); have hcz24_0 : w23.cell? ⟨gb362, 0, none⟩ = some (.int .i64 a0_0) := (blk_cell BK362.out 0).trans rfl; have hcz24_1 : w23.cell? ⟨gb362, 1, none⟩ = some (.int .i64 a0_1) := (blk_cell BK362.out 1).trans rfl; have hcz24_2 : w23.cell? ⟨gb362, 2, none⟩ = some (.int .i64 a0_2) := (blk_cell BK362.out 2).trans rfl; have hfz24_0 := blk_frozen BK362.out 0; have hfz24_1 := blk_frozen BK362.out 1; have hfz24_2 := blk_frozen BK362.out 2))
            go_meet
            case rel => exact ⟨_, (decide (a1 > 1048576)), (by first | rfl | (simp; done) | (simp [*]; done)), H', ⟨by first | omega | exact Nat.le_refl _⟩, ⟨by (with_reducible repeat (first | refine blk_drewN ?_ _ | refine blk_drew ?_ | refine blk_alloc ?_ _)); exact BK362.out⟩, ⟨by repeat (first | (with_reducible first | exact HB.out | apply below_alloc | apply pw_below_drewN | apply below_drew1 | refine below_set ?_ GE362.out) | exact HB.out)⟩⟩
      · rw [if_neg c10] at H
        have c10b0 : (t364 == 0) = false := beq_eq_false_iff_ne.mpr c10
        have c10b1 : (t364 != 0) = true := bne_iff_ne.mpr c10
        (first | rw [c10b0] | (simp only [i64_w, i32_w]; rw [c10b0]) | skip)
        have H' := Aside0.mk H
        clear H
        go_wp2_with (first | ((with_reducible refine gate_callee (f := 9) rfl ?_); refine goesL_ (some 16) rfl rfl Try.func9 (by kernel_rfl) rfl #[] rfl (by (try simp only [List.map_toArray, List.map_cons, List.map_nil]); first | done | rfl | (simp only [List.length_drop, List.length_take]; rfl)) ?_; (with_reducible refine (hopmeshlaw47_awake.calls  true _ A7.out).mono ?_); rintro e w25 ⟨rfl, hb⟩; refine ⟨_, rfl, ?_⟩; have n0_ := Aside0.mk (blk_below (g := gb362) (o := .cells #[.int .i64 a0_0, .int .i64 a0_1, .int .i64 a0_2] 23 (0, 0)) (by (with_reducible repeat (first | refine blk_drewN ?_ _ | refine blk_drew ?_ | refine blk_alloc ?_ _)); exact BK362.out) hb); have n1_ := Aside0.mk (below_step (by repeat (first | (with_reducible first | exact HB.out | apply below_alloc | apply pw_below_drewN | apply below_drew1 | refine below_set ?_ GE362.out) | exact HB.out)) hb); clear BK362; clear HB; have BK362 := n0_; have HB := n1_; clear n0_ n1_; (try clear hb); (try clear hb2); (try clear hk); (try clear hi); have hcz26_0 : w25.cell? ⟨gb362, 0, none⟩ = some (.int .i64 a0_0) := (blk_cell BK362.out 0).trans rfl; have hcz26_1 : w25.cell? ⟨gb362, 1, none⟩ = some (.int .i64 a0_1) := (blk_cell BK362.out 1).trans rfl; have hcz26_2 : w25.cell? ⟨gb362, 2, none⟩ = some (.int .i64 a0_2) := (blk_cell BK362.out 2).trans rfl; have hfz26_0 := blk_frozen BK362.out 0; have hfz26_1 := blk_frozen BK362.out 1; have hfz26_2 := blk_frozen BK362.out 2) | (go_at_call 18; (with_reducible refine (gossip_Check.calls a0_0 a0_1 a0_2 t364 _ A9.out).mono ?_); rintro e w27 ⟨rfl, hb⟩; have n0_ := Aside0.mk (blk_below (g := gb362) (o := .cells #[.int .i64 a0_0, .int .i64 a0_1, .int .i64 a0_2] 23 (0, 0)) (by (with_reducible repeat (first | refine blk_drewN ?_ _ | refine blk_drew ?_ | refine blk_alloc ?_ _)); exact BK362.out) hb); have n1_ := Aside0.mk (below_step (by repeat (first | (with_reducible first | exact HB.out | apply below_alloc | apply pw_below_drewN | apply below_drew1 | refine below_set ?_ GE362.out) | exact HB.out)) hb); clear BK362; clear HB; have BK362 := n0_; have HB := n1_; clear n0_ n1_; (try clear hb); (try clear hb2); (try clear hk); (try clear hi)))
        go_meet
        case rel => exact ⟨_, (true), (by first | rfl | (simp; done) | (simp [*]; done)), H', ⟨by first | omega | exact Nat.le_refl _⟩, ⟨by (with_reducible repeat (first | refine blk_drewN ?_ _ | refine blk_drew ?_ | refine blk_alloc ?_ _)); exact BK362.out⟩, ⟨by repeat (first | (with_reducible first | exact HB.out | apply below_alloc | apply pw_below_drewN | apply below_drew1 | refine below_set ?_ GE362.out) | exact HB.out)⟩⟩
    · replace c8 := Bool.eq_false_iff.mpr c8
      subst c8
      have H1 : (hopmeshlaw47_GossipHushed.j0 k a1 a2 a3 true a0_0 a0_1 a0_2) = some r := by rw [if_neg (show ¬ (false = true) by decide)] at H; exact H
      clear H
      have H := H1
      clear H1
      have H' := Aside0.mk H
      clear H
      go_wp2_with (first | ((with_reducible refine gate_callee (f := 9) rfl ?_); refine goesL_ (some 16) rfl rfl Try.func9 (by kernel_rfl) rfl #[] rfl (by (try simp only [List.map_toArray, List.map_cons, List.map_nil]); first | done | rfl | (simp only [List.length_drop, List.length_take]; rfl)) ?_; (with_reducible refine (hopmeshlaw47_awake.calls  false _ A7.out).mono ?_); rintro e w28 ⟨rfl, hb⟩; refine ⟨_, rfl, ?_⟩; have n0_ := Aside0.mk (blk_below (g := gb362) (o := .cells #[.int .i64 a0_0, .int .i64 a0_1, .int .i64 a0_2] 23 (0, 0)) (by (with_reducible repeat (first | refine blk_drewN ?_ _ | refine blk_drew ?_ | refine blk_alloc ?_ _)); exact BK362.out) hb); have n1_ := Aside0.mk (below_step (by repeat (first | (with_reducible first | exact HB.out | apply below_alloc | apply pw_below_drewN | apply below_drew1 | refine below_set ?_ GE362.out) | exact HB.out)) hb); clear BK362; clear HB; have BK362 := n0_; have HB := n1_; clear n0_ n1_; (try clear hb); (try clear hb2); (try clear hk); (try clear hi)))
      go_meet
      case rel => exact ⟨_, (true), (by first | rfl | (simp; done) | (simp [*]; done)), H', ⟨by first | omega | exact Nat.le_refl _⟩, ⟨by (with_reducible repeat (first | refine blk_drewN ?_ _ | refine blk_drew ?_ | refine blk_alloc ?_ _)); exact BK362.out⟩, ⟨by repeat (first | (with_reducible first | exact HB.out | apply below_alloc | apply pw_below_drewN | apply below_drew1 | refine below_set ?_ GE362.out) | exact HB.out)⟩⟩
  case rest =>
    clear HC5
    try clear c1
    try clear p2
    try clear c8
    try clear c9
    try clear c10
    try clear c10b0
    try clear c10b1
    try clear c11
    try clear c11b0
    try clear c11b1
    try clear c16
    try clear c16b0
    try clear hcz13_0
    try clear hcz13_1
    try clear hcz13_2
    try clear hcz15_0
    try clear hcz15_1
    try clear hcz15_2
    try clear hcz18_0
    try clear hcz18_1
    try clear hcz18_2
    try clear hcz20_0
    try clear hcz20_1
    try clear hcz20_2
    try clear hcz22_0
    try clear hcz22_1
    try clear hcz22_2
    try clear hcz24_0
    try clear hcz24_1
    try clear hcz24_2
    try clear hcz26_0
    try clear hcz26_1
    try clear hcz26_2
    try clear hfz13_0
    try clear hfz13_1
    try clear hfz13_2
    try clear hfz15_0
    try clear hfz15_1
    try clear hfz15_2
    try clear hfz18_0
    try clear hfz18_1
    try clear hfz18_2
    try clear hfz20_0
    try clear hfz20_1
    try clear hfz20_2
    try clear hfz22_0
    try clear hfz22_1
    try clear hfz22_2
    try clear hfz24_0
    try clear hfz24_1
    try clear hfz24_2
    try clear hfz26_0
    try clear hfz26_1
    try clear hfz26_2
    obtain ⟨kq, x35_4, rfl, HA, HJ4, BK362, HB⟩ := hcut
    cases kq with
    | zero => exact absurd HA.out (by simp [hopmeshlaw47_GossipHushed.j0])
    | succ kj4 =>
      have H := HA.out
      clear HA
      simp only [hopmeshlaw47_GossipHushed.j0] at H
      by_cases c29 : x35_4 = true
      · subst c29
        have H1 : ((hopmeshlaw47_awake.f).bind fun t365 => (some t365)) = some r := by rw [if_pos rfl] at H; exact H
        clear H
        have H := H1
        clear H1
        replace H := Option.bind_eq_some_iff.mp H
        obtain ⟨t365, A300, H⟩ := H
        replace H : (some t365) = some r := H
        have A30 := Aside0.mk A300
        clear A300
        obtain rfl := Option.some.inj H
        go_wp2_with (first | ((with_reducible refine gate_callee (f := 9) rfl ?_); refine goesL_ (some 36) rfl rfl Try.func9 (by kernel_rfl) rfl #[] rfl (by (try simp only [List.map_toArray, List.map_cons, List.map_nil]); first | done | rfl | (simp only [List.length_drop, List.length_take]; rfl)) ?_; (with_reducible refine (hopmeshlaw47_awake.calls  t365 _ A30.out).mono ?_); rintro e w31 ⟨rfl, hb⟩; refine ⟨_, rfl, ?_⟩; have n0_ := Aside0.mk (blk_below (g := gb362) (o := .cells #[.int .i64 a0_0, .int .i64 a0_1, .int .i64 a0_2] 23 (0, 0)) (by (with_reducible repeat (first | refine blk_drewN ?_ _ | refine blk_drew ?_ | refine blk_alloc ?_ _)); exact BK362.out) hb); have n1_ := Aside0.mk (below_step (by repeat (first | (with_reducible first | exact HB.out | apply below_alloc | apply pw_below_drewN | apply below_drew1 | refine below_set ?_ GE362.out) | exact HB.out)) hb); clear BK362; clear HB; have BK362 := n0_; have HB := n1_; clear n0_ n1_; (try clear hb); (try clear hb2); (try clear hk); (try clear hi)))
        go_ret
        exact ⟨by first | rfl | (simp [errW_none, errW_some] <;> rfl) | (simp [*, errW_none, errW_some] <;> rfl), by repeat (first | (with_reducible first | exact HB.out | apply below_alloc | apply pw_below_drewN | apply below_drew1 | refine below_set ?_ GE362.out) | exact HB.out)⟩
      · replace c29 := Bool.eq_false_iff.mpr c29
        subst c29
        have H1 : ((gossip_Start.f a0_0 a0_1 a0_2 a1 a2).bind fun bt366 => (if bt366.2.2.2.2 = 0 then (hopmeshlaw47_GossipHushed.l0 kj4 a1 a2 (wrap64 (a0_2 + (wrap64 (Int.tmod a3 4)))) 0 a0_0 a0_1 a0_2 bt366.1 bt366.2.1 bt366.2.2.1 bt366.2.2.2.1) else (some false))) = some r := by rw [if_neg (show ¬ (false = true) by decide)] at H; exact H
        clear H
        have H := H1
        clear H1
        replace H := Option.bind_eq_some_iff.mp H
        obtain ⟨⟨t366, t367, t368, t369, t370⟩, A320, H⟩ := H
        replace H : (if t370 = 0 then (hopmeshlaw47_GossipHushed.l0 kj4 a1 a2 (wrap64 (a0_2 + (wrap64 (Int.tmod a3 4)))) 0 a0_0 a0_1 a0_2 t366 t367 t368 t369) else (some false)) = some r := H
        have A32 := Aside0.mk A320
        clear A320
        by_cases c33 : t370 = 0
        · rw [if_pos c33] at H
          have c33b0 : (t370 == 0) = true := beq_iff_eq.mpr c33
          have c33b1 : (t370 != 0) = false := bne_eq_false_iff_eq.mpr c33
          clear c33
          have H' := Aside0.mk H
          clear H
          have hcz34_0 : wc.cell? ⟨gb362, 0, none⟩ = some (.int .i64 a0_0) := (blk_cell BK362.out 0).trans rfl
          have hcz34_1 : wc.cell? ⟨gb362, 1, none⟩ = some (.int .i64 a0_1) := (blk_cell BK362.out 1).trans rfl
          have hcz34_2 : wc.cell? ⟨gb362, 2, none⟩ = some (.int .i64 a0_2) := (blk_cell BK362.out 2).trans rfl
          have hfz34_0 := blk_frozen BK362.out 0
          have hfz34_1 := blk_frozen BK362.out 1
          have hfz34_2 := blk_frozen BK362.out 2
          go_wp2_with (first | ((with_reducible refine gate_callee (f := 10) rfl ?_); refine goesL_ (some 41) rfl rfl Try.func10 (by kernel_rfl) rfl #[.agg #[.int .i64 a0_0, .int .i64 a0_1, .int .i64 a0_2], .int .i64 a1, .int .u32 a2] rfl (by (try simp only [List.map_toArray, List.map_cons, List.map_nil]); first | done | rfl | (simp only [List.length_drop, List.length_take]; rfl)) ?_; (with_reducible refine (gossip_Start.calls a0_0 a0_1 a0_2 a1 a2 t366 t367 t368 t369 t370 _ A32.out).mono ?_); rintro e w35 ⟨rfl, hb⟩; refine ⟨_, rfl, ?_⟩; have n0_ := Aside0.mk (blk_below (g := gb362) (o := .cells #[.int .i64 a0_0, .int .i64 a0_1, .int .i64 a0_2] 23 (0, 0)) (by (with_reducible repeat (first | refine blk_drewN ?_ _ | refine blk_drew ?_ | refine blk_alloc ?_ _)); exact BK362.out) hb); have n1_ := Aside0.mk (below_step (by repeat (first | (with_reducible first | exact HB.out | apply below_alloc | apply pw_below_drewN | apply below_drew1 | refine below_set ?_ GE362.out) | exact HB.out)) hb); clear BK362; clear HB; have BK362 := n0_; have HB := n1_; clear n0_ n1_; (try clear hb); (try clear hb2); (try clear hk); (try clear hi)) | ((with_reducible refine gate_dst (N := 9) rfl ?_); refine box_event ?hg (N := 9) ?hd (cs := #[.int .i64 0, .int .i64 0, .int .i64 0, .int .i64 0]) (t := 28) ?hr ?_; (case hd => rfl); (case hg => rfl); (case hr => first | (go_simp; done) | (go_simp; rfl)); intro gb371 hg w36 hbox hb; have n0_ := Aside0.mk (blk_below (g := gb362) (o := .cells #[.int .i64 a0_0, .int .i64 a0_1, .int .i64 a0_2] 23 (0, 0)) (by (with_reducible repeat (first | refine blk_drewN ?_ _ | refine blk_drew ?_ | refine blk_alloc ?_ _)); exact BK362.out) hb); have n1_ := Aside0.mk (below_step (by repeat (first | (with_reducible first | exact HB.out | apply below_alloc | apply pw_below_drewN | apply below_drew1 | refine below_set ?_ GE362.out) | exact HB.out)) hb); have n2_ := Aside0.mk (hbox); have n3_ := Aside0.mk ((by rw [hg]; exact (below_size (by repeat (first | (with_reducible first | exact HB.out | apply below_alloc | apply pw_below_drewN | apply below_drew1 | refine below_set ?_ GE362.out) | exact HB.out))) : w.heap.size ≤ gb371)); have n4_ := Aside0.mk ((by rw [hg]; exact (below_size (by repeat (first | (with_reducible first | exact HB.out | apply below_alloc | apply pw_below_drewN | apply below_drew1 | refine below_set ?_ GE362.out) | exact HB.out))) : w.heap.size ≤ gb371)); have n5_ := Aside0.mk ((by rw [hg]; exact Nat.ne_of_lt (blk_lt (g := gb362) (o := .cells #[.int .i64 a0_0, .int .i64 a0_1, .int .i64 a0_2] 23 (0, 0)) (by (with_reducible repeat (first | refine blk_drewN ?_ _ | refine blk_drew ?_ | refine blk_alloc ?_ _)); exact BK362.out)) : gb362 ≠ gb371)); have n6_ := Aside0.mk ((by rw [hg]; exact Nat.ne_of_gt (blk_lt (g := gb362) (o := .cells #[.int .i64 a0_0, .int .i64 a0_1, .int .i64 a0_2] 23 (0, 0)) (by (with_reducible repeat (first | refine blk_drewN ?_ _ | refine blk_drew ?_ | refine blk_alloc ?_ _)); exact BK362.out)) : gb371 ≠ gb362)); clear BK362; clear HB; have BK362 := n0_; have HB := n1_; have BK371 := n2_; have GW371 := n3_; have GE371 := n4_; have NB362_371 := n5_; have NB371_362 := n6_; clear n0_ n1_ n2_ n3_ n4_ n5_ n6_; clear hb hbox hg; have hnb37 := NB371_362.out; have hnc37 := NB362_371.out; have hcz38_0 : w36.cell? ⟨gb371, 0, none⟩ = some (.int .i64 0) := (blk_cell BK371.out 0).trans rfl; have hcz38_1 : w36.cell? ⟨gb371, 1, none⟩ = some (.int .i64 0) := (blk_cell BK371.out 1).trans rfl; have hcz38_2 : w36.cell? ⟨gb371, 2, none⟩ = some (.int .i64 0) := (blk_cell BK371.out 2).trans rfl; have hcz38_3 : w36.cell? ⟨gb371, 3, none⟩ = some (.int .i64 0) := (blk_cell BK371.out 3).trans rfl; have hfz38_0 := blk_frozen BK371.out 0; have hfz38_1 := blk_frozen BK371.out 1; have hfz38_2 := blk_frozen BK371.out 2; have hfz38_3 := blk_frozen BK371.out 3; have hcz39_0 : w36.cell? ⟨gb362, 0, none⟩ = some (.int .i64 a0_0) := (blk_cell BK362.out 0).trans rfl; have hcz39_1 : w36.cell? ⟨gb362, 1, none⟩ = some (.int .i64 a0_1) := (blk_cell BK362.out 1).trans rfl; have hcz39_2 : w36.cell? ⟨gb362, 2, none⟩ = some (.int .i64 a0_2) := (blk_cell BK362.out 2).trans rfl; have hfz39_0 := blk_frozen BK362.out 0; have hfz39_1 := blk_frozen BK362.out 1; have hfz39_2 := blk_frozen BK362.out 2))
          go_loopg [52] kj4 (fun kq v52 w' => ∃ (x52_2 : Int) (x372000_2 : Int) (x372001_2 : Int) (x372002_2 : Int) (x372003_2 : Int), v52 = .int .i64 x52_2 ∧ Aside0 (hopmeshlaw47_GossipHushed.l0 kq a1 a2 (wrap64 (a0_2 + (wrap64 (Int.tmod a3 4)))) x52_2 a0_0 a0_1 a0_2 x372000_2 x372001_2 x372002_2 x372003_2 = some r) ∧ Aside0 (kq ≤ kj4) ∧ Aside0 (w'.heap[gb362]? = some (.cells #[.int .i64 a0_0, .int .i64 a0_1, .int .i64 a0_2] 23 (0, 0))) ∧ Aside0 (w'.heap[gb371]? = some (.cells #[.int .i64 x372000_2, .int .i64 x372001_2, .int .i64 x372002_2, .int .i64 x372003_2] 28 (0, 0))) ∧ Aside0 (Below w.heap.size w w'))
          case atStart => exact ⟨(0), (t366), (t367), (t368), (t369), (by first | rfl | (simp; done) | (simp [*]; done)), H', ⟨Nat.le_refl _⟩, ⟨by (with_reducible repeat (first | refine blk_drewN ?_ _ | refine blk_drew ?_ | refine blk_alloc ?_ _)); refine blk_far ?_ NB362_371.out _; (with_reducible repeat (first | refine blk_drewN ?_ _ | refine blk_drew ?_ | refine blk_alloc ?_ _)); refine blk_far ?_ NB362_371.out _; (with_reducible repeat (first | refine blk_drewN ?_ _ | refine blk_drew ?_ | refine blk_alloc ?_ _)); refine blk_far ?_ NB362_371.out _; (with_reducible repeat (first | refine blk_drewN ?_ _ | refine blk_drew ?_ | refine blk_alloc ?_ _)); refine blk_far ?_ NB362_371.out _; (with_reducible repeat (first | refine blk_drewN ?_ _ | refine blk_drew ?_ | refine blk_alloc ?_ _)); exact BK362.out⟩, ⟨by (with_reducible repeat (first | refine blk_drewN ?_ _ | refine blk_drew ?_ | refine blk_alloc ?_ _)); refine blk_put (cs := #[.int .i64 t366, .int .i64 t367, .int .i64 t368, .int .i64 0]) ?_ 3 _ rfl; (with_reducible repeat (first | refine blk_drewN ?_ _ | refine blk_drew ?_ | refine blk_alloc ?_ _)); refine blk_put (cs := #[.int .i64 t366, .int .i64 t367, .int .i64 0, .int .i64 0]) ?_ 2 _ rfl; (with_reducible repeat (first | refine blk_drewN ?_ _ | refine blk_drew ?_ | refine blk_alloc ?_ _)); refine blk_put (cs := #[.int .i64 t366, .int .i64 0, .int .i64 0, .int .i64 0]) ?_ 1 _ rfl; (with_reducible repeat (first | refine blk_drewN ?_ _ | refine blk_drew ?_ | refine blk_alloc ?_ _)); refine blk_put (cs := #[.int .i64 0, .int .i64 0, .int .i64 0, .int .i64 0]) ?_ 0 _ rfl; (with_reducible repeat (first | refine blk_drewN ?_ _ | refine blk_drew ?_ | refine blk_alloc ?_ _)); exact BK371.out⟩, ⟨by repeat (first | (with_reducible first | exact HB.out | apply below_alloc | apply pw_below_drewN | apply below_drew1 | refine below_set ?_ GE362.out | refine below_set ?_ GE371.out) | exact HB.out)⟩⟩
          case round =>
            clear H'
            try clear c1
            try clear c2
            try clear p2
            try clear c3
            try clear p6
            try clear c8
            try clear c9
            try clear c10
            try clear c10b0
            try clear c10b1
            try clear c11
            try clear c11b0
            try clear c11b1
            try clear c16
            try clear c16b0
            try clear c29
            try clear c33
            try clear c33b0
            try clear c33b1
            try clear c37
            try clear hcz13_0
            try clear hcz13_1
            try clear hcz13_2
            try clear hcz15_0
            try clear hcz15_1
            try clear hcz15_2
            try clear hcz18_0
            try clear hcz18_1
            try clear hcz18_2
            try clear hcz20_0
            try clear hcz20_1
            try clear hcz20_2
            try clear hcz22_0
            try clear hcz22_1
            try clear hcz22_2
            try clear hcz24_0
            try clear hcz24_1
            try clear hcz24_2
            try clear hcz26_0
            try clear hcz26_1
            try clear hcz26_2
            try clear hcz34_0
            try clear hcz34_1
            try clear hcz34_2
            try clear hcz38_0
            try clear hcz38_1
            try clear hcz38_2
            try clear hcz38_3
            try clear hcz39_0
            try clear hcz39_1
            try clear hcz39_2
            try clear hfz13_0
            try clear hfz13_1
            try clear hfz13_2
            try clear hfz15_0
            try clear hfz15_1
            try clear hfz15_2
            try clear hfz18_0
            try clear hfz18_1
            try clear hfz18_2
            try clear hfz20_0
            try clear hfz20_1
            try clear hfz20_2
            try clear hfz22_0
            try clear hfz22_1
            try clear hfz22_2
            try clear hfz24_0
            try clear hfz24_1
            try clear hfz24_2
            try clear hfz26_0
            try clear hfz26_1
            try clear hfz26_2
            try clear hfz34_0
            try clear hfz34_1
            try clear hfz34_2
            try clear hfz38_0
            try clear hfz38_1
            try clear hfz38_2
            try clear hfz38_3
            try clear hfz39_0
            try clear hfz39_1
            try clear hfz39_2
            try clear p2
            obtain ⟨x52_2, x372000_2, x372001_2, x372002_2, x372003_2, rfl, HA, HK2, BK362, BK371, HB⟩ := hrel
            cases gk with
            | zero => exact absurd HA.out (by simp [hopmeshlaw47_GossipHushed.l0])
            | succ k2 =>
              have H := HA.out
              clear HA
              simp only [hopmeshlaw47_GossipHushed.l0] at H
              by_cases c40 : x52_2 < (wrap64 (a0_2 + (wrap64 (Int.tmod a3 4))))
              · rw [if_pos c40] at H
                have c40b0 : decide (x52_2 < (wrap64 (a0_2 + (wrap64 (Int.tmod a3 4))))) = true := decide_eq_true c40
                clear c40
                replace H := Option.bind_eq_some_iff.mp H
                obtain ⟨⟨t372, t373, t374, t375, t376⟩, A410, H⟩ := H
                replace H : (if t376 = 0 then (hopmeshlaw47_GossipHushed.l0 k2 a1 a2 (wrap64 (a0_2 + (wrap64 (Int.tmod a3 4)))) (wrap64 (x52_2 + 1)) a0_0 a0_1 a0_2 t372 t373 t374 t375) else (some false)) = some r := H
                have A41 := Aside0.mk A410
                clear A410
                by_cases c42 : t376 = 0
                · rw [if_pos c42] at H
                  have c42b0 : (t376 == 0) = true := beq_iff_eq.mpr c42
                  have c42b1 : (t376 != 0) = false := bne_eq_false_iff_eq.mpr c42
                  clear c42
                  have H' := Aside0.mk H
                  clear H
                  have hnb43 := NB362_371.out
                  have hnc43 := NB371_362.out
                  have hcz44_0 : wr.cell? ⟨gb362, 0, none⟩ = some (.int .i64 a0_0) := (blk_cell BK362.out 0).trans rfl
                  have hcz44_1 : wr.cell? ⟨gb362, 1, none⟩ = some (.int .i64 a0_1) := (blk_cell BK362.out 1).trans rfl
                  have hcz44_2 : wr.cell? ⟨gb362, 2, none⟩ = some (.int .i64 a0_2) := (blk_cell BK362.out 2).trans rfl
                  have hfz44_0 := blk_frozen BK362.out 0
                  have hfz44_1 := blk_frozen BK362.out 1
                  have hfz44_2 := blk_frozen BK362.out 2
                  have hcz45_0 : wr.cell? ⟨gb371, 0, none⟩ = some (.int .i64 x372000_2) := (blk_cell BK371.out 0).trans rfl
                  have hcz45_1 : wr.cell? ⟨gb371, 1, none⟩ = some (.int .i64 x372001_2) := (blk_cell BK371.out 1).trans rfl
                  have hcz45_2 : wr.cell? ⟨gb371, 2, none⟩ = some (.int .i64 x372002_2) := (blk_cell BK371.out 2).trans rfl
                  have hcz45_3 : wr.cell? ⟨gb371, 3, none⟩ = some (.int .i64 x372003_2) := (blk_cell BK371.out 3).trans rfl
                  have hfz45_0 := blk_frozen BK371.out 0
                  have hfz45_1 := blk_frozen BK371.out 1
                  have hfz45_2 := blk_frozen BK371.out 2
                  have hfz45_3 := blk_frozen BK371.out 3
                  go_wp2_with (first | ((with_reducible refine gate_callee (f := 14) rfl ?_); refine goesL_ (some 59) rfl rfl Try.func14 (by kernel_rfl) rfl #[.agg #[.int .i64 a0_0, .int .i64 a0_1, .int .i64 a0_2], .agg #[.int .i64 x372000_2, .int .i64 x372001_2, .int .i64 x372002_2, .int .i64 x372003_2], .bool true, .int .i64 a1, .int .u32 a2] rfl (by (try simp only [List.map_toArray, List.map_cons, List.map_nil]); first | done | rfl | (simp only [List.length_drop, List.length_take]; rfl)) ?_; (with_reducible refine (gossip_Hear.calls k2 a0_0 a0_1 a0_2 x372000_2 x372001_2 x372002_2 x372003_2 true a1 a2 t372 t373 t374 t375 t376 _ A41.out).mono ?_); rintro e w46 ⟨rfl, hb⟩; refine ⟨_, rfl, ?_⟩; have n0_ := Aside0.mk (blk_below (g := gb362) (o := .cells #[.int .i64 a0_0, .int .i64 a0_1, .int .i64 a0_2] 23 (0, 0)) (by (with_reducible repeat (first | refine blk_drewN ?_ _ | refine blk_drew ?_ | refine blk_alloc ?_ _)); exact BK362.out) hb); have n1_ := Aside0.mk (blk_below (g := gb371) (o := .cells #[.int .i64 x372000_2, .int .i64 x372001_2, .int .i64 x372002_2, .int .i64 x372003_2] 28 (0, 0)) (by (with_reducible repeat (first | refine blk_drewN ?_ _ | refine blk_drew ?_ | refine blk_alloc ?_ _)); exact BK371.out) hb); have n2_ := Aside0.mk (below_step (by repeat (first | (with_reducible first | exact HB.out | apply below_alloc | apply pw_below_drewN | apply below_drew1 | refine below_set ?_ GE362.out | refine below_set ?_ GE371.out) | exact HB.out)) hb); clear BK362; clear BK371; clear HB; have BK362 := n0_; have BK371 := n1_; have HB := n2_; clear n0_ n1_ n2_; (try clear hb); (try clear hb2); (try clear hk); (try clear hi); have hcz47_0 : w46.cell? ⟨gb371, 0, none⟩ = some (.int .i64 x372000_2) := (blk_cell BK371.out 0).trans rfl; have hcz47_1 : w46.cell? ⟨gb371, 1, none⟩ = some (.int .i64 x372001_2) := (blk_cell BK371.out 1).trans rfl; have hcz47_2 : w46.cell? ⟨gb371, 2, none⟩ = some (.int .i64 x372002_2) := (blk_cell BK371.out 2).trans rfl; have hcz47_3 : w46.cell? ⟨gb371, 3, none⟩ = some (.int .i64 x372003_2) := (blk_cell BK371.out 3).trans rfl; have hfz47_0 := blk_frozen BK371.out 0; have hfz47_1 := blk_frozen BK371.out 1; have hfz47_2 := blk_frozen BK371.out 2; have hfz47_3 := blk_frozen BK371.out 3))
                  go_roundg k2
                  case measure => have := HJ4.out; have := HK2.out; omega
                  case rel => exact ⟨(wrap64 (x52_2 + 1)), (t372), (t373), (t374), (t375), (by first | rfl | (simp; done) | (simp [*]; done)), H', ⟨by have := HJ4.out; have := HK2.out; omega⟩, ⟨by (with_reducible repeat (first | refine blk_drewN ?_ _ | refine blk_drew ?_ | refine blk_alloc ?_ _)); refine blk_far ?_ NB362_371.out _; (with_reducible repeat (first | refine blk_drewN ?_ _ | refine blk_drew ?_ | refine blk_alloc ?_ _)); refine blk_far ?_ NB362_371.out _; (with_reducible repeat (first | refine blk_drewN ?_ _ | refine blk_drew ?_ | refine blk_alloc ?_ _)); refine blk_far ?_ NB362_371.out _; (with_reducible repeat (first | refine blk_drewN ?_ _ | refine blk_drew ?_ | refine blk_alloc ?_ _)); refine blk_far ?_ NB362_371.out _; (with_reducible repeat (first | refine blk_drewN ?_ _ | refine blk_drew ?_ | refine blk_alloc ?_ _)); exact BK362.out⟩, ⟨by (with_reducible repeat (first | refine blk_drewN ?_ _ | refine blk_drew ?_ | refine blk_alloc ?_ _)); refine blk_put (cs := #[.int .i64 t372, .int .i64 t373, .int .i64 t374, .int .i64 x372003_2]) ?_ 3 _ rfl; (with_reducible repeat (first | refine blk_drewN ?_ _ | refine blk_drew ?_ | refine blk_alloc ?_ _)); refine blk_put (cs := #[.int .i64 t372, .int .i64 t373, .int .i64 x372002_2, .int .i64 x372003_2]) ?_ 2 _ rfl; (with_reducible repeat (first | refine blk_drewN ?_ _ | refine blk_drew ?_ | refine blk_alloc ?_ _)); refine blk_put (cs := #[.int .i64 t372, .int .i64 x372001_2, .int .i64 x372002_2, .int .i64 x372003_2]) ?_ 1 _ rfl; (with_reducible repeat (first | refine blk_drewN ?_ _ | refine blk_drew ?_ | refine blk_alloc ?_ _)); refine blk_put (cs := #[.int .i64 x372000_2, .int .i64 x372001_2, .int .i64 x372002_2, .int .i64 x372003_2]) ?_ 0 _ rfl; (with_reducible repeat (first | refine blk_drewN ?_ _ | refine blk_drew ?_ | refine blk_alloc ?_ _)); exact BK371.out⟩, ⟨by repeat (first | (with_reducible first | exact HB.out | apply below_alloc | apply pw_below_drewN | apply below_drew1 | refine below_set ?_ GE362.out | refine below_set ?_ GE371.out) | exact HB.out)⟩⟩
                · rw [if_neg c42] at H
                  have c42b0 : (t376 == 0) = false := beq_eq_false_iff_ne.mpr c42
                  have c42b1 : (t376 != 0) = true := bne_iff_ne.mpr c42
                  exact absurd (H.trans (congrArg some HRT.out)) (by simp)
              · rw [if_neg c40] at H
                have c40b0 : decide (x52_2 < (wrap64 (a0_2 + (wrap64 (Int.tmod a3 4))))) = false := decide_eq_false c40
                clear c40
                replace H := Option.bind_eq_some_iff.mp H
                obtain ⟨⟨t377, t378, t379⟩, A480, H⟩ := H
                replace H : (if t378 = true then (hopmeshlaw47_GossipHushed.j2 k2 a1 a2 true a0_0 a0_1 a0_2 x372000_2 x372001_2 x372002_2 x372003_2) else (hopmeshlaw47_GossipHushed.j2 k2 a1 a2 (t379 != 0) a0_0 a0_1 a0_2 x372000_2 x372001_2 x372002_2 x372003_2)) = some r := H
                have A48 := Aside0.mk A480
                clear A480
                have HC49 := Aside0.mk H
                clear H
                have hnb50 := NB362_371.out
                have hnc50 := NB371_362.out
                have hcz51_0 : wr.cell? ⟨gb362, 0, none⟩ = some (.int .i64 a0_0) := (blk_cell BK362.out 0).trans rfl
                have hcz51_1 : wr.cell? ⟨gb362, 1, none⟩ = some (.int .i64 a0_1) := (blk_cell BK362.out 1).trans rfl
                have hcz51_2 : wr.cell? ⟨gb362, 2, none⟩ = some (.int .i64 a0_2) := (blk_cell BK362.out 2).trans rfl
                have hfz51_0 := blk_frozen BK362.out 0
                have hfz51_1 := blk_frozen BK362.out 1
                have hfz51_2 := blk_frozen BK362.out 2
                have hcz52_0 : wr.cell? ⟨gb371, 0, none⟩ = some (.int .i64 x372000_2) := (blk_cell BK371.out 0).trans rfl
                have hcz52_1 : wr.cell? ⟨gb371, 1, none⟩ = some (.int .i64 x372001_2) := (blk_cell BK371.out 1).trans rfl
                have hcz52_2 : wr.cell? ⟨gb371, 2, none⟩ = some (.int .i64 x372002_2) := (blk_cell BK371.out 2).trans rfl
                have hcz52_3 : wr.cell? ⟨gb371, 3, none⟩ = some (.int .i64 x372003_2) := (blk_cell BK371.out 3).trans rfl
                have hfz52_0 := blk_frozen BK371.out 0
                have hfz52_1 := blk_frozen BK371.out 1
                have hfz52_2 := blk_frozen BK371.out 2
                have hfz52_3 := blk_frozen BK371.out 3
                go_upto_region 13 with (first | ((with_reducible refine gate_callee (f := 20) rfl ?_); refine goesL_ (some 73) rfl rfl Try.func20 (by kernel_rfl) rfl #[.agg #[.int .i64 a0_0, .int .i64 a0_1, .int .i64 a0_2], .agg #[.int .i64 x372000_2, .int .i64 x372001_2, .int .i64 x372002_2, .int .i64 x372003_2], .int .i64 a1, .int .i64 (wrap64 (a1 + a0_0))] rfl (by (try simp only [List.map_toArray, List.map_cons, List.map_nil]); first | done | rfl | (simp only [List.length_drop, List.length_take]; rfl)) ?_; (with_reducible refine (gossip_Due.calls k2 a0_0 a0_1 a0_2 x372000_2 x372001_2 x372002_2 x372003_2 a1 (wrap64 (a1 + a0_0)) t377 t378 t379 _ A48.out).mono ?_); rintro e w53 ⟨rfl, hb⟩; refine ⟨_, rfl, ?_⟩; have n0_ := Aside0.mk (blk_below (g := gb362) (o := .cells #[.int .i64 a0_0, .int .i64 a0_1, .int .i64 a0_2] 23 (0, 0)) (by (with_reducible repeat (first | refine blk_drewN ?_ _ | refine blk_drew ?_ | refine blk_alloc ?_ _)); exact BK362.out) hb); have n1_ := Aside0.mk (blk_below (g := gb371) (o := .cells #[.int .i64 x372000_2, .int .i64 x372001_2, .int .i64 x372002_2, .int .i64 x372003_2] 28 (0, 0)) (by (with_reducible repeat (first | refine blk_drewN ?_ _ | refine blk_drew ?_ | refine blk_alloc ?_ _)); exact BK371.out) hb); have n2_ := Aside0.mk (below_step (by repeat (first | (with_reducible first | exact HB.out | apply below_alloc | apply pw_below_drewN | apply below_drew1 | refine below_set ?_ GE362.out | refine below_set ?_ GE371.out) | exact HB.out)) hb); clear BK362; clear BK371; clear HB; have BK362 := n0_; have BK371 := n1_; have HB := n2_; clear n0_ n1_ n2_; (try clear hb); (try clear hb2); (try clear hk); (try clear hi)))
                (try simp only [Act.put, List.setIfInBounds_toArray, List.set_cons_zero, List.set_cons_succ])
                go_cut [81] (fun v81 wc => ∃ (kq : Nat) (x81_48 : Bool), v81 = .bool x81_48 ∧ Aside0 (hopmeshlaw47_GossipHushed.j2 kq a1 a2 x81_48 a0_0 a0_1 a0_2 x372000_2 x372001_2 x372002_2 x372003_2 = some r) ∧ Aside0 (kq ≤ k2) ∧ Aside0 (wc.heap[gb362]? = some (.cells #[.int .i64 a0_0, .int .i64 a0_1, .int .i64 a0_2] 23 (0, 0))) ∧ Aside0 (wc.heap[gb371]? = some (.cells #[.int .i64 x372000_2, .int .i64 x372001_2, .int .i64 x372002_2, .int .i64 x372003_2] 28 (0, 0))) ∧ Aside0 (Below w.heap.size w wc))
                case first =>
                  have H := HC49.out
                  clear HC49
                  by_cases c54 : t378 = true
                  · subst c54
                    have H1 : (hopmeshlaw47_GossipHushed.j2 k2 a1 a2 true a0_0 a0_1 a0_2 x372000_2 x372001_2 x372002_2 x372003_2) = some r := by rw [if_pos rfl] at H; exact H
                    clear H
                    have H := H1
                    clear H1
                    have H' := Aside0.mk H
                    clear H
                    go_wp2
                    go_meet
                    case rel => exact ⟨_, (true), (by first | rfl | (simp; done) | (simp [*]; done)), H', ⟨by have := HJ4.out; have := HK2.out; first | omega | exact Nat.le_refl _⟩, ⟨by (with_reducible repeat (first | refine blk_drewN ?_ _ | refine blk_drew ?_ | refine blk_alloc ?_ _)); exact BK362.out⟩, ⟨by (with_reducible repeat (first | refine blk_drewN ?_ _ | refine blk_drew ?_ | refine blk_alloc ?_ _)); exact BK371.out⟩, ⟨by repeat (first | (with_reducible first | exact HB.out | apply below_alloc | apply pw_below_drewN | apply below_drew1 | refine below_set ?_ GE362.out | refine below_set ?_ GE371.out) | exact HB.out)⟩⟩
                  · replace c54 := Bool.eq_false_iff.mpr c54
                    subst c54
                    have H1 : (hopmeshlaw47_GossipHushed.j2 k2 a1 a2 (t379 != 0) a0_0 a0_1 a0_2 x372000_2 x372001_2 x372002_2 x372003_2) = some r := by rw [if_neg (show ¬ (false = true) by decide)] at H; exact H
                    clear H
                    have H := H1
                    clear H1
                    have H' := Aside0.mk H
                    clear H
                    go_wp2
                    go_meet
                    case rel => exact ⟨_, ((t379 != 0)), (by first | rfl | (simp; done) | (simp [*]; done)), H', ⟨by have := HJ4.out; have := HK2.out; first | omega | exact Nat.le_refl _⟩, ⟨by (with_reducible repeat (first | refine blk_drewN ?_ _ | refine blk_drew ?_ | refine blk_alloc ?_ _)); exact BK362.out⟩, ⟨by (with_reducible repeat (first | refine blk_drewN ?_ _ | refine blk_drew ?_ | refine blk_alloc ?_ _)); exact BK371.out⟩, ⟨by repeat (first | (with_reducible first | exact HB.out | apply below_alloc | apply pw_below_drewN | apply below_drew1 | refine below_set ?_ GE362.out | refine below_set ?_ GE371.out) | exact HB.out)⟩⟩
                case rest =>
                  clear HC49
                  try clear c1
                  try clear c2
                  try clear p2
                  try clear c3
                  try clear c4
                  try clear c5
                  try clear p6
                  try clear c8
                  try clear c9
                  try clear c10
                  try clear c10b0
                  try clear c10b1
                  try clear c11
                  try clear c11b0
                  try clear c11b1
                  try clear c14
                  try clear c16
                  try clear c16b0
                  try clear c20
                  try clear c29
                  try clear c33
                  try clear c33b0
                  try clear c33b1
                  try clear c37
                  try clear c40
                  try clear c40b0
                  try clear c42
                  try clear c42b0
                  try clear c42b1
                  try clear c43
                  try clear c50
                  try clear c54
                  try clear hcz13_0
                  try clear hcz13_1
                  try clear hcz13_2
                  try clear hcz15_0
                  try clear hcz15_1
                  try clear hcz15_2
                  try clear hcz18_0
                  try clear hcz18_1
                  try clear hcz18_2
                  try clear hcz20_0
                  try clear hcz20_1
                  try clear hcz20_2
                  try clear hcz22_0
                  try clear hcz22_1
                  try clear hcz22_2
                  try clear hcz24_0
                  try clear hcz24_1
                  try clear hcz24_2
                  try clear hcz26_0
                  try clear hcz26_1
                  try clear hcz26_2
                  try clear hcz34_0
                  try clear hcz34_1
                  try clear hcz34_2
                  try clear hcz38_0
                  try clear hcz38_1
                  try clear hcz38_2
                  try clear hcz38_3
                  try clear hcz39_0
                  try clear hcz39_1
                  try clear hcz39_2
                  try clear hcz44_0
                  try clear hcz44_1
                  try clear hcz44_2
                  try clear hcz45_0
                  try clear hcz45_1
                  try clear hcz45_2
                  try clear hcz45_3
                  try clear hcz47_0
                  try clear hcz47_1
                  try clear hcz47_2
                  try clear hcz47_3
                  try clear hcz51_0
                  try clear hcz51_1
                  try clear hcz51_2
                  try clear hcz52_0
                  try clear hcz52_1
                  try clear hcz52_2
                  try clear hcz52_3
                  try clear hfz13_0
                  try clear hfz13_1
                  try clear hfz13_2
                  try clear hfz15_0
                  try clear hfz15_1
                  try clear hfz15_2
                  try clear hfz18_0
                  try clear hfz18_1
                  try clear hfz18_2
                  try clear hfz20_0
                  try clear hfz20_1
                  try clear hfz20_2
                  try clear hfz22_0
                  try clear hfz22_1
                  try clear hfz22_2
                  try clear hfz24_0
                  try clear hfz24_1
                  try clear hfz24_2
                  try clear hfz26_0
                  try clear hfz26_1
                  try clear hfz26_2
                  try clear hfz34_0
                  try clear hfz34_1
                  try clear hfz34_2
                  try clear hfz38_0
                  try clear hfz38_1
                  try clear hfz38_2
                  try clear hfz38_3
                  try clear hfz39_0
                  try clear hfz39_1
                  try clear hfz39_2
                  try clear hfz44_0
                  try clear hfz44_1
                  try clear hfz44_2
                  try clear hfz45_0
                  try clear hfz45_1
                  try clear hfz45_2
                  try clear hfz45_3
                  try clear hfz47_0
                  try clear hfz47_1
                  try clear hfz47_2
                  try clear hfz47_3
                  try clear hfz51_0
                  try clear hfz51_1
                  try clear hfz51_2
                  try clear hfz52_0
                  try clear hfz52_1
                  try clear hfz52_2
                  try clear hfz52_3
                  try clear p2
                  try clear p6
                  obtain ⟨kq, x81_48, rfl, HA, HJ48, BK362, BK371, HB⟩ := hcut
                  cases kq with
                  | zero => exact absurd HA.out (by simp [hopmeshlaw47_GossipHushed.j2])
                  | succ kj48 =>
                    have H := HA.out
                    clear HA
                    simp only [hopmeshlaw47_GossipHushed.j2] at H
                    by_cases c55 : x81_48 = true
                    · subst c55
                      have H1 : (some false) = some r := by rw [if_pos rfl] at H; exact H
                      clear H
                      have H := H1
                      clear H1
                      exact absurd (H.trans (congrArg some HRT.out)) (by simp)
                    · replace c55 := Bool.eq_false_iff.mpr c55
                      subst c55
                      have H1 : (hopmeshlaw47_GossipHushed.l1 kj48 a1 a2 a0_0 0 a0_0 a0_1 a0_2 x372000_2 x372001_2 x372002_2 x372003_2) = some r := by rw [if_neg (show ¬ (false = true) by decide)] at H; exact H
                      clear H
                      have H := H1
                      clear H1
                      have H' := Aside0.mk H
                      clear H
                      have hnb56 := NB362_371.out
                      have hnc56 := NB371_362.out
                      have hcz57_0 : wc.cell? ⟨gb362, 0, none⟩ = some (.int .i64 a0_0) := (blk_cell BK362.out 0).trans rfl
                      have hcz57_1 : wc.cell? ⟨gb362, 1, none⟩ = some (.int .i64 a0_1) := (blk_cell BK362.out 1).trans rfl
                      have hcz57_2 : wc.cell? ⟨gb362, 2, none⟩ = some (.int .i64 a0_2) := (blk_cell BK362.out 2).trans rfl
                      have hfz57_0 := blk_frozen BK362.out 0
                      have hfz57_1 := blk_frozen BK362.out 1
                      have hfz57_2 := blk_frozen BK362.out 2
                      go_wp2
                      go_loopg [84] kj48 (fun kq v84 w' => ∃ (x84_4 : Int) (x372000_4 : Int) (x372001_4 : Int) (x372002_4 : Int) (x372003_4 : Int), v84 = .int .i64 x84_4 ∧ Aside0 (hopmeshlaw47_GossipHushed.l1 kq a1 a2 a0_0 x84_4 a0_0 a0_1 a0_2 x372000_4 x372001_4 x372002_4 x372003_4 = some r) ∧ Aside0 (kq ≤ kj48) ∧ Aside0 (w'.heap[gb362]? = some (.cells #[.int .i64 a0_0, .int .i64 a0_1, .int .i64 a0_2] 23 (0, 0))) ∧ Aside0 (w'.heap[gb371]? = some (.cells #[.int .i64 x372000_4, .int .i64 x372001_4, .int .i64 x372002_4, .int .i64 x372003_4] 28 (0, 0))) ∧ Aside0 (Below w.heap.size w w'))
                      case atStart => exact ⟨(0), (x372000_2), (x372001_2), (x372002_2), (x372003_2), (by first | rfl | (simp; done) | (simp [*]; done)), H', ⟨Nat.le_refl _⟩, ⟨by (with_reducible repeat (first | refine blk_drewN ?_ _ | refine blk_drew ?_ | refine blk_alloc ?_ _)); exact BK362.out⟩, ⟨by (with_reducible repeat (first | refine blk_drewN ?_ _ | refine blk_drew ?_ | refine blk_alloc ?_ _)); exact BK371.out⟩, ⟨by repeat (first | (with_reducible first | exact HB.out | apply below_alloc | apply pw_below_drewN | apply below_drew1 | refine below_set ?_ GE362.out | refine below_set ?_ GE371.out) | exact HB.out)⟩⟩
                      case round =>
                        clear H'
                        try clear c1
                        try clear c2
                        try clear p2
                        try clear c3
                        try clear c4
                        try clear c5
                        try clear p6
                        try clear c8
                        try clear c9
                        try clear c10
                        try clear c10b0
                        try clear c10b1
                        try clear c11
                        try clear c11b0
                        try clear c11b1
                        try clear c14
                        try clear c16
                        try clear c16b0
                        try clear c20
                        try clear c29
                        try clear c33
                        try clear c33b0
                        try clear c33b1
                        try clear c37
                        try clear c40
                        try clear c40b0
                        try clear c42
                        try clear c42b0
                        try clear c42b1
                        try clear c43
                        try clear c50
                        try clear c54
                        try clear c55
                        try clear c56
                        try clear hcz13_0
                        try clear hcz13_1
                        try clear hcz13_2
                        try clear hcz15_0
                        try clear hcz15_1
                        try clear hcz15_2
                        try clear hcz18_0
                        try clear hcz18_1
                        try clear hcz18_2
                        try clear hcz20_0
                        try clear hcz20_1
                        try clear hcz20_2
                        try clear hcz22_0
                        try clear hcz22_1
                        try clear hcz22_2
                        try clear hcz24_0
                        try clear hcz24_1
                        try clear hcz24_2
                        try clear hcz26_0
                        try clear hcz26_1
                        try clear hcz26_2
                        try clear hcz34_0
                        try clear hcz34_1
                        try clear hcz34_2
                        try clear hcz38_0
                        try clear hcz38_1
                        try clear hcz38_2
                        try clear hcz38_3
                        try clear hcz39_0
                        try clear hcz39_1
                        try clear hcz39_2
                        try clear hcz44_0
                        try clear hcz44_1
                        try clear hcz44_2
                        try clear hcz45_0
                        try clear hcz45_1
                        try clear hcz45_2
                        try clear hcz45_3
                        try clear hcz47_0
                        try clear hcz47_1
                        try clear hcz47_2
                        try clear hcz47_3
                        try clear hcz51_0
                        try clear hcz51_1
                        try clear hcz51_2
                        try clear hcz52_0
                        try clear hcz52_1
                        try clear hcz52_2
                        try clear hcz52_3
                        try clear hcz57_0
                        try clear hcz57_1
                        try clear hcz57_2
                        try clear hfz13_0
                        try clear hfz13_1
                        try clear hfz13_2
                        try clear hfz15_0
                        try clear hfz15_1
                        try clear hfz15_2
                        try clear hfz18_0
                        try clear hfz18_1
                        try clear hfz18_2
                        try clear hfz20_0
                        try clear hfz20_1
                        try clear hfz20_2
                        try clear hfz22_0
                        try clear hfz22_1
                        try clear hfz22_2
                        try clear hfz24_0
                        try clear hfz24_1
                        try clear hfz24_2
                        try clear hfz26_0
                        try clear hfz26_1
                        try clear hfz26_2
                        try clear hfz34_0
                        try clear hfz34_1
                        try clear hfz34_2
                        try clear hfz38_0
                        try clear hfz38_1
                        try clear hfz38_2
                        try clear hfz38_3
                        try clear hfz39_0
                        try clear hfz39_1
                        try clear hfz39_2
                        try clear hfz44_0
                        try clear hfz44_1
                        try clear hfz44_2
                        try clear hfz45_0
                        try clear hfz45_1
                        try clear hfz45_2
                        try clear hfz45_3
                        try clear hfz47_0
                        try clear hfz47_1
                        try clear hfz47_2
                        try clear hfz47_3
                        try clear hfz51_0
                        try clear hfz51_1
                        try clear hfz51_2
                        try clear hfz52_0
                        try clear hfz52_1
                        try clear hfz52_2
                        try clear hfz52_3
                        try clear hfz57_0
                        try clear hfz57_1
                        try clear hfz57_2
                        try clear p2
                        try clear p6
                        obtain ⟨x84_4, x372000_4, x372001_4, x372002_4, x372003_4, rfl, HA, HK4, BK362, BK371, HB⟩ := hrel
                        cases gk with
                        | zero => exact absurd HA.out (by simp [hopmeshlaw47_GossipHushed.l1])
                        | succ k4 =>
                          have H := HA.out
                          clear HA
                          simp only [hopmeshlaw47_GossipHushed.l1] at H
                          by_cases c58 : x84_4 < a0_0
                          · rw [if_pos c58] at H
                            have c58b0 : decide (x84_4 < a0_0) = true := decide_eq_true c58
                            clear c58
                            replace H := Option.bind_eq_some_iff.mp H
                            obtain ⟨⟨t380, t381, t382, t383, t384, t385⟩, A590, H⟩ := H
                            replace H : (if t384 = true then (some false) else (if t385 = 0 then (hopmeshlaw47_GossipHushed.l1 k4 a1 a2 a0_0 (wrap64 (x84_4 + 1)) a0_0 a0_1 a0_2 t380 t381 t382 t383) else (some false))) = some r := H
                            have A59 := Aside0.mk A590
                            clear A590
                            by_cases c60 : t384 = true
                            · subst c60
                              have H1 : (some false) = some r := by rw [if_pos rfl] at H; exact H
                              clear H
                              have H := H1
                              clear H1
                              exact absurd (H.trans (congrArg some HRT.out)) (by simp)
                            · replace c60 := Bool.eq_false_iff.mpr c60
                              subst c60
                              have H1 : (if t385 = 0 then (hopmeshlaw47_GossipHushed.l1 k4 a1 a2 a0_0 (wrap64 (x84_4 + 1)) a0_0 a0_1 a0_2 t380 t381 t382 t383) else (some false)) = some r := by rw [if_neg (show ¬ (false = true) by decide)] at H; exact H
                              clear H
                              have H := H1
                              clear H1
                              by_cases c61 : t385 = 0
                              · rw [if_pos c61] at H
                                have c61b0 : (t385 == 0) = true := beq_iff_eq.mpr c61
                                have c61b1 : (t385 != 0) = false := bne_eq_false_iff_eq.mpr c61
                                clear c61
                                have H' := Aside0.mk H
                                clear H
                                have hnb62 := NB362_371.out
                                have hnc62 := NB371_362.out
                                have hcz63_0 : wr.cell? ⟨gb362, 0, none⟩ = some (.int .i64 a0_0) := (blk_cell BK362.out 0).trans rfl
                                have hcz63_1 : wr.cell? ⟨gb362, 1, none⟩ = some (.int .i64 a0_1) := (blk_cell BK362.out 1).trans rfl
                                have hcz63_2 : wr.cell? ⟨gb362, 2, none⟩ = some (.int .i64 a0_2) := (blk_cell BK362.out 2).trans rfl
                                have hfz63_0 := blk_frozen BK362.out 0
                                have hfz63_1 := blk_frozen BK362.out 1
                                have hfz63_2 := blk_frozen BK362.out 2
                                have hcz64_0 : wr.cell? ⟨gb371, 0, none⟩ = some (.int .i64 x372000_4) := (blk_cell BK371.out 0).trans rfl
                                have hcz64_1 : wr.cell? ⟨gb371, 1, none⟩ = some (.int .i64 x372001_4) := (blk_cell BK371.out 1).trans rfl
                                have hcz64_2 : wr.cell? ⟨gb371, 2, none⟩ = some (.int .i64 x372002_4) := (blk_cell BK371.out 2).trans rfl
                                have hcz64_3 : wr.cell? ⟨gb371, 3, none⟩ = some (.int .i64 x372003_4) := (blk_cell BK371.out 3).trans rfl
                                have hfz64_0 := blk_frozen BK371.out 0
                                have hfz64_1 := blk_frozen BK371.out 1
                                have hfz64_2 := blk_frozen BK371.out 2
                                have hfz64_3 := blk_frozen BK371.out 3
                                go_wp2_with (first | ((with_reducible refine gate_callee (f := 12) rfl ?_); refine goesL_ (some 94) rfl rfl Try.func12 (by kernel_rfl) rfl #[.agg #[.int .i64 a0_0, .int .i64 a0_1, .int .i64 a0_2], .agg #[.int .i64 x372000_4, .int .i64 x372001_4, .int .i64 x372002_4, .int .i64 x372003_4], .int .i64 (wrap64 (a1 + x84_4)), .int .u32 a2] rfl (by (try simp only [List.map_toArray, List.map_cons, List.map_nil]); first | done | rfl | (simp only [List.length_drop, List.length_take]; rfl)) ?_; (with_reducible refine (gossip_Step.calls k4 a0_0 a0_1 a0_2 x372000_4 x372001_4 x372002_4 x372003_4 (wrap64 (a1 + x84_4)) a2 t380 t381 t382 t383 false t385 _ A59.out).mono ?_); rintro e w65 ⟨rfl, hb⟩; refine ⟨_, rfl, ?_⟩; have n0_ := Aside0.mk (blk_below (g := gb362) (o := .cells #[.int .i64 a0_0, .int .i64 a0_1, .int .i64 a0_2] 23 (0, 0)) (by (with_reducible repeat (first | refine blk_drewN ?_ _ | refine blk_drew ?_ | refine blk_alloc ?_ _)); exact BK362.out) hb); have n1_ := Aside0.mk (blk_below (g := gb371) (o := .cells #[.int .i64 x372000_4, .int .i64 x372001_4, .int .i64 x372002_4, .int .i64 x372003_4] 28 (0, 0)) (by (with_reducible repeat (first | refine blk_drewN ?_ _ | refine blk_drew ?_ | refine blk_alloc ?_ _)); exact BK371.out) hb); have n2_ := Aside0.mk (below_step (by repeat (first | (with_reducible first | exact HB.out | apply below_alloc | apply pw_below_drewN | apply below_drew1 | refine below_set ?_ GE362.out | refine below_set ?_ GE371.out) | exact HB.out)) hb); clear BK362; clear BK371; clear HB; have BK362 := n0_; have BK371 := n1_; have HB := n2_; clear n0_ n1_ n2_; (try clear hb); (try clear hb2); (try clear hk); (try clear hi); have hcz66_0 : w65.cell? ⟨gb371, 0, none⟩ = some (.int .i64 x372000_4) := (blk_cell BK371.out 0).trans rfl; have hcz66_1 : w65.cell? ⟨gb371, 1, none⟩ = some (.int .i64 x372001_4) := (blk_cell BK371.out 1).trans rfl; have hcz66_2 : w65.cell? ⟨gb371, 2, none⟩ = some (.int .i64 x372002_4) := (blk_cell BK371.out 2).trans rfl; have hcz66_3 : w65.cell? ⟨gb371, 3, none⟩ = some (.int .i64 x372003_4) := (blk_cell BK371.out 3).trans rfl; have hfz66_0 := blk_frozen BK371.out 0; have hfz66_1 := blk_frozen BK371.out 1; have hfz66_2 := blk_frozen BK371.out 2; have hfz66_3 := blk_frozen BK371.out 3))
                                go_roundg k4
                                case measure => have := HJ4.out; have := HK2.out; have := HJ48.out; have := HK4.out; omega
                                case rel => exact ⟨(wrap64 (x84_4 + 1)), (t380), (t381), (t382), (t383), (by first | rfl | (simp; done) | (simp [*]; done)), H', ⟨by have := HJ4.out; have := HK2.out; have := HJ48.out; have := HK4.out; omega⟩, ⟨by (with_reducible repeat (first | refine blk_drewN ?_ _ | refine blk_drew ?_ | refine blk_alloc ?_ _)); refine blk_far ?_ NB362_371.out _; (with_reducible repeat (first | refine blk_drewN ?_ _ | refine blk_drew ?_ | refine blk_alloc ?_ _)); refine blk_far ?_ NB362_371.out _; (with_reducible repeat (first | refine blk_drewN ?_ _ | refine blk_drew ?_ | refine blk_alloc ?_ _)); refine blk_far ?_ NB362_371.out _; (with_reducible repeat (first | refine blk_drewN ?_ _ | refine blk_drew ?_ | refine blk_alloc ?_ _)); refine blk_far ?_ NB362_371.out _; (with_reducible repeat (first | refine blk_drewN ?_ _ | refine blk_drew ?_ | refine blk_alloc ?_ _)); exact BK362.out⟩, ⟨by (with_reducible repeat (first | refine blk_drewN ?_ _ | refine blk_drew ?_ | refine blk_alloc ?_ _)); refine blk_put (cs := #[.int .i64 t380, .int .i64 t381, .int .i64 t382, .int .i64 x372003_4]) ?_ 3 _ rfl; (with_reducible repeat (first | refine blk_drewN ?_ _ | refine blk_drew ?_ | refine blk_alloc ?_ _)); refine blk_put (cs := #[.int .i64 t380, .int .i64 t381, .int .i64 x372002_4, .int .i64 x372003_4]) ?_ 2 _ rfl; (with_reducible repeat (first | refine blk_drewN ?_ _ | refine blk_drew ?_ | refine blk_alloc ?_ _)); refine blk_put (cs := #[.int .i64 t380, .int .i64 x372001_4, .int .i64 x372002_4, .int .i64 x372003_4]) ?_ 1 _ rfl; (with_reducible repeat (first | refine blk_drewN ?_ _ | refine blk_drew ?_ | refine blk_alloc ?_ _)); refine blk_put (cs := #[.int .i64 x372000_4, .int .i64 x372001_4, .int .i64 x372002_4, .int .i64 x372003_4]) ?_ 0 _ rfl; (with_reducible repeat (first | refine blk_drewN ?_ _ | refine blk_drew ?_ | refine blk_alloc ?_ _)); exact BK371.out⟩, ⟨by repeat (first | (with_reducible first | exact HB.out | apply below_alloc | apply pw_below_drewN | apply below_drew1 | refine below_set ?_ GE362.out | refine below_set ?_ GE371.out) | exact HB.out)⟩⟩
                              · rw [if_neg c61] at H
                                have c61b0 : (t385 == 0) = false := beq_eq_false_iff_ne.mpr c61
                                have c61b1 : (t385 != 0) = true := bne_iff_ne.mpr c61
                                exact absurd (H.trans (congrArg some HRT.out)) (by simp)
                          · rw [if_neg c58] at H
                            have c58b0 : decide (x84_4 < a0_0) = false := decide_eq_false c58
                            clear c58
                            obtain rfl := Option.some.inj H
                            go_wp2
                            go_ret
                            exact ⟨by first | rfl | (simp [errW_none, errW_some] <;> rfl) | (simp [*, errW_none, errW_some] <;> rfl), by repeat (first | (with_reducible first | exact HB.out | apply below_alloc | apply pw_below_drewN | apply below_drew1 | refine below_set ?_ GE362.out | refine below_set ?_ GE371.out) | exact HB.out)⟩
        · rw [if_neg c33] at H
          have c33b0 : (t370 == 0) = false := beq_eq_false_iff_ne.mpr c33
          have c33b1 : (t370 != 0) = true := bne_iff_ne.mpr c33
          exact absurd (H.trans (congrArg some HRT.out)) (by simp)

end Go.Proofs.Ytmmknoaapllcmaa.PA
