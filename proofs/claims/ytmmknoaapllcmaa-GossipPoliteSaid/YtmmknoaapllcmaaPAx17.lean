-- Written by a program of this session (mkprint.py: the kit's print, changed) for this claim. Not trusted: Lean checks it.
import Derived.Test.YtmmknoaapllcmaaPAx0
import Derived.Test.YtmmknoaapllcmaaPAx2
import Derived.Test.YtmmknoaapllcmaaPAx5
import Derived.Test.YtmmknoaapllcmaaPAx6
import Derived.Test.YtmmknoaapllcmaaPAx16
namespace Go.Proofs.Ytmmknoaapllcmaa.PA
open Go.RowKit Go.Proofs.YtmmknoaapllcmaaW.PrintWords Go.Proofs.YtmmknoaapllcmaaW.PrintLast Go.Proofs.YtmmknoaapllcmaaW.PrintMore
attribute [local go_sem] max2_int min2_int max_two min_two max_three min_three max_four min_four   -- for this text's walks alone
set_option linter.unusedVariables false
set_option linter.unusedSimpArgs false

/-! ### hopmeshlaw47_GossipPolite: function 7 -/
set_option maxHeartbeats 8000000 in
set_option maxRecDepth 100000 in
theorem hopmeshlaw47_GossipPolite.calls (k : Nat) (a0_0 : Int) (a0_1 : Int) (a0_2 : Int) (A1 : Option Addr) (c1 : Nat) (l1 : List Int) (r : Bool) (w : World) (hr1 : Kd.C (Kd.int .u32) w A1 l1.length l1) (hc1 : l1.length ≤ c1) (h : hopmeshlaw47_GossipPolite.f k a0_0 a0_1 a0_2 l1 = some r) (hr_ : r = true) :
    Calls Try.prog 7 #[.agg #[.int .i64 a0_0, .int .i64 a0_1, .int .i64 a0_2], .slice A1 l1.length c1] w fun e w' => e = .returned (.bool r) ∧ Below w.heap.size w w' := by
  have hu23 := Try.underlying23
  have hu28 := Try.underlying28
  have HRT := Aside0.mk hr_
  clear hr_
  have HR1 := Aside0.mk hr1
  have HC1 := Aside0.mk hc1
  clear hr1 hc1
  have HB := Aside0.mk (Below.refl w.heap.size w)
  have H : ((hopmeshlaw47_awake.f).bind fun t319 => (if t319 = true then (if (l1.length : Int) > 8 then (hopmeshlaw47_GossipPolite.j0 k l1 true a0_0 a0_1 a0_2) else ((gossip_Check.f a0_0 a0_1 a0_2).bind fun t320 => (if t320 = 0 then (hopmeshlaw47_GossipPolite.j0 k l1 (decide (a0_0 > 200)) a0_0 a0_1 a0_2) else (hopmeshlaw47_GossipPolite.j0 k l1 true a0_0 a0_1 a0_2)))) else (hopmeshlaw47_GossipPolite.j0 k l1 true a0_0 a0_1 a0_2))) = some r := h
  clear h
  have HC3 := Aside0.mk H
  clear H
  go_enter Try.func7, Try.ntmps7
  go_upto_region 1 with (first | ((with_reducible refine gate_dst (N := 2) rfl ?_); (try (refine gate_guard (by rfl) ?_; dsimp only)); refine box_event ?hg (N := 2) ?hd (cs := #[.int .i64 a0_0, .int .i64 a0_1, .int .i64 a0_2]) (t := 23) ?hr ?_; (case hd => rfl); (case hg => rfl); (case hr => first | (go_simp; done) | (go_simp; rfl)); intro gb318 hg w4 hbox hb; have n0_ := Aside0.mk (below_step (by repeat (first | (with_reducible first | exact HB.out | apply below_alloc | apply pw_below_drewN | apply below_drew1) | exact HB.out)) hb); have n1_ := Aside0.mk (hbox); have n2_ := Aside0.mk ((by rw [hg]; exact (below_size (by repeat (first | (with_reducible first | exact HB.out | apply below_alloc | apply pw_below_drewN | apply below_drew1) | exact HB.out))) : w.heap.size ≤ gb318)); have n3_ := Aside0.mk ((by rw [hg]; exact (below_size (by repeat (first | (with_reducible first | exact HB.out | apply below_alloc | apply pw_below_drewN | apply below_drew1) | exact HB.out))) : w.heap.size ≤ gb318)); clear HB; have HB := n0_; have BK318 := n1_; have GW318 := n2_; have GE318 := n3_; clear n0_ n1_ n2_ n3_; clear hb hbox hg))
  (try simp only [Act.put, List.setIfInBounds_toArray, List.set_cons_zero, List.set_cons_succ])
  go_cut [34] (fun v34 wc => ∃ (kq : Nat) (x34_2 : Bool), v34 = .bool x34_2 ∧ Aside0 (hopmeshlaw47_GossipPolite.j0 kq l1 x34_2 a0_0 a0_1 a0_2 = some r) ∧ Aside0 (kq ≤ k) ∧ Aside0 (wc.heap[gb318]? = some (.cells #[.int .i64 a0_0, .int .i64 a0_1, .int .i64 a0_2] 23 (0, 0))) ∧ Aside0 (Below w.heap.size w wc))
  case first =>
    have H := HC3.out
    clear HC3
    replace H := Option.bind_eq_some_iff.mp H
    obtain ⟨t319, A50, H⟩ := H
    replace H : (if t319 = true then (if (l1.length : Int) > 8 then (hopmeshlaw47_GossipPolite.j0 k l1 true a0_0 a0_1 a0_2) else ((gossip_Check.f a0_0 a0_1 a0_2).bind fun t320 => (if t320 = 0 then (hopmeshlaw47_GossipPolite.j0 k l1 (decide (a0_0 > 200)) a0_0 a0_1 a0_2) else (hopmeshlaw47_GossipPolite.j0 k l1 true a0_0 a0_1 a0_2)))) else (hopmeshlaw47_GossipPolite.j0 k l1 true a0_0 a0_1 a0_2)) = some r := H
    have A5 := Aside0.mk A50
    clear A50
    by_cases c6 : t319 = true
    · subst c6
      have H1 : (if (l1.length : Int) > 8 then (hopmeshlaw47_GossipPolite.j0 k l1 true a0_0 a0_1 a0_2) else ((gossip_Check.f a0_0 a0_1 a0_2).bind fun t320 => (if t320 = 0 then (hopmeshlaw47_GossipPolite.j0 k l1 (decide (a0_0 > 200)) a0_0 a0_1 a0_2) else (hopmeshlaw47_GossipPolite.j0 k l1 true a0_0 a0_1 a0_2)))) = some r := by rw [if_pos rfl] at H; exact H
      clear H
      have H := H1
      clear H1
      by_cases c7 : (l1.length : Int) > 8
      · rw [if_pos c7] at H
        have c7b0 : decide (8 < (l1.length : Int)) = true := decide_eq_true c7
        have c7b1 : decide (8 < l1.length) = true := decide_eq_true (by omega)
        clear c7
        (first | rw [c7b0] | (simp only [i64_w, i32_w]; rw [c7b0]) | skip)
        have H' := Aside0.mk H
        clear H
        go_wp2_with (first | ((with_reducible refine gate_callee (f := 9) rfl ?_); refine goesL_ (some 18) rfl rfl Try.func9 (by kernel_rfl) rfl #[] rfl (by (try simp only [List.map_toArray, List.map_cons, List.map_nil]); first | done | rfl | (simp only [List.length_drop, List.length_take]; rfl)) ?_; (with_reducible refine (hopmeshlaw47_awake.calls  true _ A5.out).mono ?_); rintro e w8 ⟨rfl, hb⟩; refine ⟨_, rfl, ?_⟩; have n0_ := Aside0.mk (blk_below (g := gb318) (o := .cells #[.int .i64 a0_0, .int .i64 a0_1, .int .i64 a0_2] 23 (0, 0)) (by (with_reducible repeat (first | refine blk_drewN ?_ _ | refine blk_drew ?_ | refine blk_alloc ?_ _)); exact BK318.out) hb); have n1_ := Aside0.mk (below_step (by repeat (first | (with_reducible first | exact HB.out | apply below_alloc | apply pw_below_drewN | apply below_drew1 | refine below_set ?_ GE318.out) | exact HB.out)) hb); clear BK318; clear HB; have BK318 := n0_; have HB := n1_; clear n0_ n1_; (try clear hb); (try clear hb2); (try clear hk); (try clear hi)))
        go_meet
        case rel => exact ⟨_, (true), (by first | rfl | (simp; done) | (simp [*]; done)), H', ⟨by first | omega | exact Nat.le_refl _⟩, ⟨by (with_reducible repeat (first | refine blk_drewN ?_ _ | refine blk_drew ?_ | refine blk_alloc ?_ _)); exact BK318.out⟩, ⟨by repeat (first | (with_reducible first | exact HB.out | apply below_alloc | apply pw_below_drewN | apply below_drew1 | refine below_set ?_ GE318.out) | exact HB.out)⟩⟩
      · rw [if_neg c7] at H
        have c7b0 : decide (8 < (l1.length : Int)) = false := decide_eq_false c7
        have c7b1 : decide (8 < l1.length) = false := decide_eq_false (by omega)
        clear c7
        (first | rw [c7b0] | (simp only [i64_w, i32_w]; rw [c7b0]) | skip)
        replace H := Option.bind_eq_some_iff.mp H
        obtain ⟨t320, A90, H⟩ := H
        replace H : (if t320 = 0 then (hopmeshlaw47_GossipPolite.j0 k l1 (decide (a0_0 > 200)) a0_0 a0_1 a0_2) else (hopmeshlaw47_GossipPolite.j0 k l1 true a0_0 a0_1 a0_2)) = some r := H
        have A9 := Aside0.mk A90
        clear A90
        by_cases c10 : t320 = 0
        · rw [if_pos c10] at H
          have c10b0 : (t320 == 0) = true := beq_iff_eq.mpr c10
          have c10b1 : (t320 != 0) = false := bne_eq_false_iff_eq.mpr c10
          clear c10
          have H' := Aside0.mk H
          clear H
          go_wp2_with (first | ((with_reducible refine gate_callee (f := 9) rfl ?_); refine goesL_ (some 18) rfl rfl Try.func9 (by kernel_rfl) rfl #[] rfl (by (try simp only [List.map_toArray, List.map_cons, List.map_nil]); first | done | rfl | (simp only [List.length_drop, List.length_take]; rfl)) ?_; (with_reducible refine (hopmeshlaw47_awake.calls  true _ A5.out).mono ?_); rintro e w11 ⟨rfl, hb⟩; refine ⟨_, rfl, ?_⟩; have n0_ := Aside0.mk (blk_below (g := gb318) (o := .cells #[.int .i64 a0_0, .int .i64 a0_1, .int .i64 a0_2] 23 (0, 0)) (by (with_reducible repeat (first | refine blk_drewN ?_ _ | refine blk_drew ?_ | refine blk_alloc ?_ _)); exact BK318.out) hb); have n1_ := Aside0.mk (below_step (by repeat (first | (with_reducible first | exact HB.out | apply below_alloc | apply pw_below_drewN | apply below_drew1 | refine below_set ?_ GE318.out) | exact HB.out)) hb); clear BK318; clear HB; have BK318 := n0_; have HB := n1_; clear n0_ n1_; (try clear hb); (try clear hb2); (try clear hk); (try clear hi); have hcz12_0 : w11.cell? ⟨gb318, 0, none⟩ = some (.int .i64 a0_0) := (blk_cell BK318.out 0).trans rfl; have hcz12_1 : w11.cell? ⟨gb318, 1, none⟩ = some (.int .i64 a0_1) := (blk_cell BK318.out 1).trans rfl; have hcz12_2 : w11.cell? ⟨gb318, 2, none⟩ = some (.int .i64 a0_2) := (blk_cell BK318.out 2).trans rfl; have hfz12_0 := blk_frozen BK318.out 0; have hfz12_1 := blk_frozen BK318.out 1; have hfz12_2 := blk_frozen BK318.out 2) | (go_at_call 18; (with_reducible refine (gossip_Check.calls a0_0 a0_1 a0_2 t320 _ A9.out).mono ?_); rintro e w13 ⟨rfl, hb⟩; have n0_ := Aside0.mk (blk_below (g := gb318) (o := .cells #[.int .i64 a0_0, .int .i64 a0_1, .int .i64 a0_2] 23 (0, 0)) (by (with_reducible repeat (first | refine blk_drewN ?_ _ | refine blk_drew ?_ | refine blk_alloc ?_ _)); exact BK318.out) hb); have n1_ := Aside0.mk (below_step (by repeat (first | (with_reducible first | exact HB.out | apply below_alloc | apply pw_below_drewN | apply below_drew1 | refine below_set ?_ GE318.out) | exact HB.out)) hb); clear BK318; clear HB; have BK318 := n0_; have HB := n1_; clear n0_ n1_; (try clear hb); (try clear hb2); (try clear hk); (try clear hi); have hcz14_0 : w13.cell? ⟨gb318, 0, none⟩ = some (.int .i64 a0_0) := (blk_cell BK318.out 0).trans rfl; have hcz14_1 : w13.cell? ⟨gb318, 1, none⟩ = some (.int .i64 a0_1) := (blk_cell BK318.out 1).trans rfl; have hcz14_2 : w13.cell? ⟨gb318, 2, none⟩ = some (.int .i64 a0_2) := (blk_cell BK318.out 2).trans rfl; have hfz14_0 := blk_frozen BK318.out 0; have hfz14_1 := blk_frozen BK318.out 1; have hfz14_2 := blk_frozen BK318.out 2))
          go_meet
          case rel => exact ⟨_, (decide (a0_0 > 200)), (by first | rfl | (simp; done) | (simp [*]; done)), H', ⟨by first | omega | exact Nat.le_refl _⟩, ⟨by (with_reducible repeat (first | refine blk_drewN ?_ _ | refine blk_drew ?_ | refine blk_alloc ?_ _)); exact BK318.out⟩, ⟨by repeat (first | (with_reducible first | exact HB.out | apply below_alloc | apply pw_below_drewN | apply below_drew1 | refine below_set ?_ GE318.out) | exact HB.out)⟩⟩
        · rw [if_neg c10] at H
          have c10b0 : (t320 == 0) = false := beq_eq_false_iff_ne.mpr c10
          have c10b1 : (t320 != 0) = true := bne_iff_ne.mpr c10
          have H' := Aside0.mk H
          clear H
          go_wp2_with (first | ((with_reducible refine gate_callee (f := 9) rfl ?_); refine goesL_ (some 18) rfl rfl Try.func9 (by kernel_rfl) rfl #[] rfl (by (try simp only [List.map_toArray, List.map_cons, List.map_nil]); first | done | rfl | (simp only [List.length_drop, List.length_take]; rfl)) ?_; (with_reducible refine (hopmeshlaw47_awake.calls  true _ A5.out).mono ?_); rintro e w15 ⟨rfl, hb⟩; refine ⟨_, rfl, ?_⟩; have n0_ := Aside0.mk (blk_below (g := gb318) (o := .cells #[.int .i64 a0_0, .int .i64 a0_1, .int .i64 a0_2] 23 (0, 0)) (by (with_reducible repeat (first | refine blk_drewN ?_ _ | refine blk_drew ?_ | refine blk_alloc ?_ _)); exact BK318.out) hb); have n1_ := Aside0.mk (below_step (by repeat (first | (with_reducible first | exact HB.out | apply below_alloc | apply pw_below_drewN | apply below_drew1 | refine below_set ?_ GE318.out) | exact HB.out)) hb); clear BK318; clear HB; have BK318 := n0_; have HB := n1_; clear n0_ n1_; (try clear hb); (try clear hb2); (try clear hk); (try clear hi); have hcz16_0 : w15.cell? ⟨gb318, 0, none⟩ = some (.int .i64 a0_0) := (blk_cell BK318.out 0).trans rfl; have hcz16_1 : w15.cell? ⟨gb318, 1, none⟩ = some (.int .i64 a0_1) := (blk_cell BK318.out 1).trans rfl; have hcz16_2 : w15.cell? ⟨gb318, 2, none⟩ = some (.int .i64 a0_2) := (blk_cell BK318.out 2).trans rfl; have hfz16_0 := blk_frozen BK318.out 0; have hfz16_1 := blk_frozen BK318.out 1; have hfz16_2 := blk_frozen BK318.out 2) | (go_at_call 18; (with_reducible refine (gossip_Check.calls a0_0 a0_1 a0_2 t320 _ A9.out).mono ?_); rintro e w17 ⟨rfl, hb⟩; have n0_ := Aside0.mk (blk_below (g := gb318) (o := .cells #[.int .i64 a0_0, .int .i64 a0_1, .int .i64 a0_2] 23 (0, 0)) (by (with_reducible repeat (first | refine blk_drewN ?_ _ | refine blk_drew ?_ | refine blk_alloc ?_ _)); exact BK318.out) hb); have n1_ := Aside0.mk (below_step (by repeat (first | (with_reducible first | exact HB.out | apply below_alloc | apply pw_below_drewN | apply below_drew1 | refine below_set ?_ GE318.out) | exact HB.out)) hb); clear BK318; clear HB; have BK318 := n0_; have HB := n1_; clear n0_ n1_; (try clear hb); (try clear hb2); (try clear hk); (try clear hi)))
          go_meet
          case rel => exact ⟨_, (true), (by first | rfl | (simp; done) | (simp [*]; done)), H', ⟨by first | omega | exact Nat.le_refl _⟩, ⟨by (with_reducible repeat (first | refine blk_drewN ?_ _ | refine blk_drew ?_ | refine blk_alloc ?_ _)); exact BK318.out⟩, ⟨by repeat (first | (with_reducible first | exact HB.out | apply below_alloc | apply pw_below_drewN | apply below_drew1 | refine below_set ?_ GE318.out) | exact HB.out)⟩⟩
    · replace c6 := Bool.eq_false_iff.mpr c6
      subst c6
      have H1 : (hopmeshlaw47_GossipPolite.j0 k l1 true a0_0 a0_1 a0_2) = some r := by rw [if_neg (show ¬ (false = true) by decide)] at H; exact H
      clear H
      have H := H1
      clear H1
      have H' := Aside0.mk H
      clear H
      go_wp2_with (first | ((with_reducible refine gate_callee (f := 9) rfl ?_); refine goesL_ (some 18) rfl rfl Try.func9 (by kernel_rfl) rfl #[] rfl (by (try simp only [List.map_toArray, List.map_cons, List.map_nil]); first | done | rfl | (simp only [List.length_drop, List.length_take]; rfl)) ?_; (with_reducible refine (hopmeshlaw47_awake.calls  false _ A5.out).mono ?_); rintro e w18 ⟨rfl, hb⟩; refine ⟨_, rfl, ?_⟩; have n0_ := Aside0.mk (blk_below (g := gb318) (o := .cells #[.int .i64 a0_0, .int .i64 a0_1, .int .i64 a0_2] 23 (0, 0)) (by (with_reducible repeat (first | refine blk_drewN ?_ _ | refine blk_drew ?_ | refine blk_alloc ?_ _)); exact BK318.out) hb); have n1_ := Aside0.mk (below_step (by repeat (first | (with_reducible first | exact HB.out | apply below_alloc | apply pw_below_drewN | apply below_drew1 | refine below_set ?_ GE318.out) | exact HB.out)) hb); clear BK318; clear HB; have BK318 := n0_; have HB := n1_; clear n0_ n1_; (try clear hb); (try clear hb2); (try clear hk); (try clear hi)))
      go_meet
      case rel => exact ⟨_, (true), (by first | rfl | (simp; done) | (simp [*]; done)), H', ⟨by first | omega | exact Nat.le_refl _⟩, ⟨by (with_reducible repeat (first | refine blk_drewN ?_ _ | refine blk_drew ?_ | refine blk_alloc ?_ _)); exact BK318.out⟩, ⟨by repeat (first | (with_reducible first | exact HB.out | apply below_alloc | apply pw_below_drewN | apply below_drew1 | refine below_set ?_ GE318.out) | exact HB.out)⟩⟩
  case rest =>
    clear HC3
    try clear c1
    try clear p2
    try clear c6
    try clear c7
    try clear c7b0
    try clear c7b1
    try clear c9
    try clear c10
    try clear c10b0
    try clear c10b1
    try clear hcz12_0
    try clear hcz12_1
    try clear hcz12_2
    try clear hcz14_0
    try clear hcz14_1
    try clear hcz14_2
    try clear hcz16_0
    try clear hcz16_1
    try clear hcz16_2
    try clear hfz12_0
    try clear hfz12_1
    try clear hfz12_2
    try clear hfz14_0
    try clear hfz14_1
    try clear hfz14_2
    try clear hfz16_0
    try clear hfz16_1
    try clear hfz16_2
    obtain ⟨kq, x34_2, rfl, HA, HJ2, BK318, HB⟩ := hcut
    cases kq with
    | zero => exact absurd HA.out (by simp [hopmeshlaw47_GossipPolite.j0])
    | succ kj2 =>
      have H := HA.out
      clear HA
      simp only [hopmeshlaw47_GossipPolite.j0] at H
      by_cases c19 : x34_2 = true
      · subst c19
        have H1 : ((hopmeshlaw47_awake.f).bind fun t321 => (some t321)) = some r := by rw [if_pos rfl] at H; exact H
        clear H
        have H := H1
        clear H1
        replace H := Option.bind_eq_some_iff.mp H
        obtain ⟨t321, A200, H⟩ := H
        replace H : (some t321) = some r := H
        have A20 := Aside0.mk A200
        clear A200
        obtain rfl := Option.some.inj H
        go_wp2_with (first | ((with_reducible refine gate_callee (f := 9) rfl ?_); refine goesL_ (some 35) rfl rfl Try.func9 (by kernel_rfl) rfl #[] rfl (by (try simp only [List.map_toArray, List.map_cons, List.map_nil]); first | done | rfl | (simp only [List.length_drop, List.length_take]; rfl)) ?_; (with_reducible refine (hopmeshlaw47_awake.calls  t321 _ A20.out).mono ?_); rintro e w21 ⟨rfl, hb⟩; refine ⟨_, rfl, ?_⟩; have n0_ := Aside0.mk (blk_below (g := gb318) (o := .cells #[.int .i64 a0_0, .int .i64 a0_1, .int .i64 a0_2] 23 (0, 0)) (by (with_reducible repeat (first | refine blk_drewN ?_ _ | refine blk_drew ?_ | refine blk_alloc ?_ _)); exact BK318.out) hb); have n1_ := Aside0.mk (below_step (by repeat (first | (with_reducible first | exact HB.out | apply below_alloc | apply pw_below_drewN | apply below_drew1 | refine below_set ?_ GE318.out) | exact HB.out)) hb); clear BK318; clear HB; have BK318 := n0_; have HB := n1_; clear n0_ n1_; (try clear hb); (try clear hb2); (try clear hk); (try clear hi)))
        go_ret
        exact ⟨by first | rfl | (simp [errW_none, errW_some] <;> rfl) | (simp [*, errW_none, errW_some] <;> rfl), by repeat (first | (with_reducible first | exact HB.out | apply below_alloc | apply pw_below_drewN | apply below_drew1 | refine below_set ?_ GE318.out) | exact HB.out)⟩
      · replace c19 := Bool.eq_false_iff.mpr c19
        subst c19
        have H1 : (hopmeshlaw47_GossipPolite.l0 kj2 ([] : List (S28)) ([] : List Int) l1 (l1.length : Int) 0 a0_0 a0_1 a0_2) = some r := by rw [if_neg (show ¬ (false = true) by decide)] at H; exact H
        clear H
        have H := H1
        clear H1
        have H' := Aside0.mk H
        clear H
        go_wp2
        go_loopg [5, 6, 38] kj2 (fun kq v5 v6 v38 w' => ∃ (x5_2 : List (S28)) (x6_2 : List Int) (x38_2 : Int), v38 = .int .i64 x38_2 ∧ Aside0 (hopmeshlaw47_GossipPolite.l0 kq x5_2 x6_2 l1 (l1.length : Int) x38_2 a0_0 a0_1 a0_2 = some r) ∧ Aside0 (kq ≤ kj2) ∧ Aside0 (Kd.R k28 28 w' w.heap.size (fun _ => True) v5 x5_2) ∧ Aside0 (Kd.R (Kd.int .i64) 3 w' w.heap.size (fun _ => True) v6 x6_2) ∧ Aside0 (w'.heap[gb318]? = some (.cells #[.int .i64 a0_0, .int .i64 a0_1, .int .i64 a0_2] 23 (0, 0))) ∧ Aside0 (Below w.heap.size w w'))
        case atStart => exact ⟨(([] : List (S28))), (([] : List Int)), (0), (by first | rfl | (simp; done) | (simp [*]; done)), H', ⟨Nat.le_refl _⟩, ⟨by first | exact Kd.R_nil _ _ _ _ _ | exact Kd.N_nil _ _ _ _ _ | exact Kd.V_nil _ _ _ _ _ | exact Kd.Q_nil _ _ _ _ _ | exact Kd.S_nil _ _ _ _ _⟩, ⟨by first | exact Kd.R_nil _ _ _ _ _ | exact Kd.N_nil _ _ _ _ _ | exact Kd.V_nil _ _ _ _ _ | exact Kd.Q_nil _ _ _ _ _ | exact Kd.S_nil _ _ _ _ _⟩, ⟨by (with_reducible repeat (first | refine blk_drewN ?_ _ | refine blk_drew ?_ | refine blk_alloc ?_ _)); exact BK318.out⟩, ⟨by repeat (first | (with_reducible first | exact HB.out | apply below_alloc | apply pw_below_drewN | apply below_drew1 | refine below_set ?_ GE318.out) | exact HB.out)⟩⟩
        case round =>
          clear H'
          try clear c1
          try clear p2
          try clear c6
          try clear c7
          try clear c7b0
          try clear c7b1
          try clear c9
          try clear c10
          try clear c10b0
          try clear c10b1
          try clear c19
          try clear hcz12_0
          try clear hcz12_1
          try clear hcz12_2
          try clear hcz14_0
          try clear hcz14_1
          try clear hcz14_2
          try clear hcz16_0
          try clear hcz16_1
          try clear hcz16_2
          try clear hfz12_0
          try clear hfz12_1
          try clear hfz12_2
          try clear hfz14_0
          try clear hfz14_1
          try clear hfz14_2
          try clear hfz16_0
          try clear hfz16_1
          try clear hfz16_2
          try clear p2
          obtain ⟨x5_2, x6_2, x38_2, rfl, HA, HK2, HO_5, HO_6, BK318, HB⟩ := hrel
          cases gk with
          | zero => exact absurd HA.out (by simp [hopmeshlaw47_GossipPolite.l0])
          | succ k2 =>
            have H := HA.out
            clear HA
            simp only [hopmeshlaw47_GossipPolite.l0] at H
            by_cases c22 : x38_2 < (l1.length : Int)
            · rw [if_pos c22] at H
              have c22b0 : decide (x38_2 < (l1.length : Int)) = true := decide_eq_true c22
              clear c22
              by_cases c23 : 0 ≤ x38_2
              · rw [if_pos c23] at H
                have c23b0 : decide (0 ≤ x38_2) = true := decide_eq_true c23
                clear c23
                by_cases c24 : x38_2 < (l1.length : Int)
                · rw [if_pos c24] at H
                  have c24b0 : decide (x38_2 < (l1.length : Int)) = true := decide_eq_true c24
                  clear c24
                  replace H := Option.bind_eq_some_iff.mp H
                  obtain ⟨⟨t323, t324, t325, t326, t327⟩, A250, H⟩ := H
                  replace H : (if t327 = 0 then ((slices_Contains_int_int.f k2 x6_2 t325).bind fun t329 => (if t329 = true then (some true) else ((some (([(⟨t323, t324, t325, t326⟩ : S28)] : List (S28)) : List (S28))).bind fun y330 => (if x5_2.length + y330.length < 4398046511104 then ((some (([t325] : List Int) : List Int)).bind fun y336 => (if x6_2.length + y336.length < 17592186044416 then (hopmeshlaw47_GossipPolite.l0 k2 (x5_2 ++ y330) (x6_2 ++ y336) l1 (l1.length : Int) (wrap64 (x38_2 + 1)) a0_0 a0_1 a0_2) else (none))) else (none))))) else (some false)) = some r := H
                  have A25 := Aside0.mk A250
                  clear A250
                  by_cases c26 : t327 = 0
                  · rw [if_pos c26] at H
                    have c26b0 : (t327 == 0) = true := beq_iff_eq.mpr c26
                    have c26b1 : (t327 != 0) = false := bne_eq_false_iff_eq.mpr c26
                    clear c26
                    replace H := Option.bind_eq_some_iff.mp H
                    obtain ⟨t329, A270, H⟩ := H
                    replace H : (if t329 = true then (some true) else ((some (([(⟨t323, t324, t325, t326⟩ : S28)] : List (S28)) : List (S28))).bind fun y330 => (if x5_2.length + y330.length < 4398046511104 then ((some (([t325] : List Int) : List Int)).bind fun y336 => (if x6_2.length + y336.length < 17592186044416 then (hopmeshlaw47_GossipPolite.l0 k2 (x5_2 ++ y330) (x6_2 ++ y336) l1 (l1.length : Int) (wrap64 (x38_2 + 1)) a0_0 a0_1 a0_2) else (none))) else (none)))) = some r := H
                    have A27 := Aside0.mk A270
                    clear A270
                    by_cases c28 : t329 = true
                    · subst c28
                      have H1 : (some true) = some r := by rw [if_pos rfl] at H; exact H
                      clear H
                      have H := H1
                      clear H1
                      obtain rfl := Option.some.inj H
                      have p322 : 0 ≤ (x38_2 : Int) := of_decide_eq_true (by first | (with_reducible assumption) | assumption)
                      have q322 : x38_2 < (l1.length : Int) := of_decide_eq_true (by first | (with_reducible assumption) | assumption)
                      obtain ⟨ad322, e322, hx322_0⟩ := Kd.at_int HR1.out x38_2 p322 q322
                      cases e322
                      replace hx322_0 := (HB.out.cell (World.block_lt_of_cell? w _ hx322_0)).trans hx322_0
                      replace p322 := eq_true p322
                      replace q322 := eq_true q322
                      have hcz29_0 : wr.cell? ⟨gb318, 0, none⟩ = some (.int .i64 a0_0) := (blk_cell BK318.out 0).trans rfl
                      have hcz29_1 : wr.cell? ⟨gb318, 1, none⟩ = some (.int .i64 a0_1) := (blk_cell BK318.out 1).trans rfl
                      have hcz29_2 : wr.cell? ⟨gb318, 2, none⟩ = some (.int .i64 a0_2) := (blk_cell BK318.out 2).trans rfl
                      have hfz29_0 := blk_frozen BK318.out 0
                      have hfz29_1 := blk_frozen BK318.out 1
                      have hfz29_2 := blk_frozen BK318.out 2
                      go_wp2_with (first | ((with_reducible refine gate_callee (f := 10) rfl ?_); refine goesL_ (some 45) rfl rfl Try.func10 (by kernel_rfl) rfl #[.agg #[.int .i64 a0_0, .int .i64 a0_1, .int .i64 a0_2], .int .i64 0, .int .u32 (rd l1 x38_2)] rfl (by (try simp only [List.map_toArray, List.map_cons, List.map_nil]); first | done | rfl | (simp only [List.length_drop, List.length_take]; rfl)) ?_; (with_reducible refine (gossip_Start.calls a0_0 a0_1 a0_2 0 (rd l1 x38_2) t323 t324 t325 t326 t327 _ A25.out).mono ?_); rintro e w30 ⟨rfl, hb⟩; refine ⟨_, rfl, ?_⟩; have n0_ := Aside0.mk (Kd.R_below (by (with_reducible repeat (first | apply Kd.R_alloc | apply Kd.R_drewN | apply Kd.R_drew)); exact HO_5.out) hb); have n1_ := Aside0.mk (Kd.R_below (by (with_reducible repeat (first | apply Kd.R_alloc | apply Kd.R_drewN | apply Kd.R_drew)); exact HO_6.out) hb); have n2_ := Aside0.mk (blk_below (g := gb318) (o := .cells #[.int .i64 a0_0, .int .i64 a0_1, .int .i64 a0_2] 23 (0, 0)) (by (with_reducible repeat (first | refine blk_drewN ?_ _ | refine blk_drew ?_ | refine blk_alloc ?_ _)); exact BK318.out) hb); have n3_ := Aside0.mk (below_step (by repeat (first | (with_reducible first | exact HB.out | apply below_alloc | apply pw_below_drewN | apply below_drew1 | refine below_set ?_ GE318.out) | exact HB.out)) hb); clear HO_5; clear HO_6; clear BK318; clear HB; have HO_5 := n0_; have HO_6 := n1_; have BK318 := n2_; have HB := n3_; clear n0_ n1_ n2_ n3_; (try clear hb); (try clear hb2); (try clear hk); (try clear hi)) | ((with_reducible refine gate_dst (N := 9) rfl ?_); (try (refine gate_guard (by rfl) ?_; dsimp only)); refine box_event ?hg (N := 9) ?hd (cs := #[.int .i64 0, .int .i64 0, .int .i64 0, .int .i64 0]) (t := 28) ?hr ?_; (case hd => rfl); (case hg => rfl); (case hr => first | (go_simp; done) | (go_simp; rfl)); intro gb328 hg w31 hbox hb; have n0_ := Aside0.mk (Kd.R_below (Kd.R_elderB (by (with_reducible repeat (first | apply Kd.R_alloc | apply Kd.R_drewN | apply Kd.R_drew)); exact HO_5.out) gb328 (Nat.le_of_eq hg.symm)) hb); have n1_ := Aside0.mk (Kd.R_below (by (with_reducible repeat (first | apply Kd.R_alloc | apply Kd.R_drewN | apply Kd.R_drew)); exact HO_6.out) hb); have n2_ := Aside0.mk (blk_below (g := gb318) (o := .cells #[.int .i64 a0_0, .int .i64 a0_1, .int .i64 a0_2] 23 (0, 0)) (by (with_reducible repeat (first | refine blk_drewN ?_ _ | refine blk_drew ?_ | refine blk_alloc ?_ _)); exact BK318.out) hb); have n3_ := Aside0.mk (below_step (by repeat (first | (with_reducible first | exact HB.out | apply below_alloc | apply pw_below_drewN | apply below_drew1 | refine below_set ?_ GE318.out) | exact HB.out)) hb); have n4_ := Aside0.mk (hbox); have n5_ := Aside0.mk ((by rw [hg]; exact (below_size (by repeat (first | (with_reducible first | exact HB.out | apply below_alloc | apply pw_below_drewN | apply below_drew1 | refine below_set ?_ GE318.out) | exact HB.out))) : w.heap.size ≤ gb328)); have n6_ := Aside0.mk ((by rw [hg]; exact (below_size (by repeat (first | (with_reducible first | exact HB.out | apply below_alloc | apply pw_below_drewN | apply below_drew1 | refine below_set ?_ GE318.out) | exact HB.out))) : w.heap.size ≤ gb328)); have n7_ := Aside0.mk ((by rw [hg]; exact Nat.ne_of_lt (blk_lt (g := gb318) (o := .cells #[.int .i64 a0_0, .int .i64 a0_1, .int .i64 a0_2] 23 (0, 0)) (by (with_reducible repeat (first | refine blk_drewN ?_ _ | refine blk_drew ?_ | refine blk_alloc ?_ _)); exact BK318.out)) : gb318 ≠ gb328)); have n8_ := Aside0.mk ((by rw [hg]; exact Nat.ne_of_gt (blk_lt (g := gb318) (o := .cells #[.int .i64 a0_0, .int .i64 a0_1, .int .i64 a0_2] 23 (0, 0)) (by (with_reducible repeat (first | refine blk_drewN ?_ _ | refine blk_drew ?_ | refine blk_alloc ?_ _)); exact BK318.out)) : gb328 ≠ gb318)); clear HO_5; clear HO_6; clear BK318; clear HB; have HO_5 := n0_; have HO_6 := n1_; have BK318 := n2_; have HB := n3_; have BK328 := n4_; have GW328 := n5_; have GE328 := n6_; have NB318_328 := n7_; have NB328_318 := n8_; clear n0_ n1_ n2_ n3_ n4_ n5_ n6_ n7_ n8_; clear hb hbox hg; have hnb32 := NB328_318.out; have hnc32 := NB318_328.out; have hcz33_0 : w31.cell? ⟨gb328, 0, none⟩ = some (.int .i64 0) := (blk_cell BK328.out 0).trans rfl; have hcz33_1 : w31.cell? ⟨gb328, 1, none⟩ = some (.int .i64 0) := (blk_cell BK328.out 1).trans rfl; have hcz33_2 : w31.cell? ⟨gb328, 2, none⟩ = some (.int .i64 0) := (blk_cell BK328.out 2).trans rfl; have hcz33_3 : w31.cell? ⟨gb328, 3, none⟩ = some (.int .i64 0) := (blk_cell BK328.out 3).trans rfl; have hfz33_0 := blk_frozen BK328.out 0; have hfz33_1 := blk_frozen BK328.out 1; have hfz33_2 := blk_frozen BK328.out 2; have hfz33_3 := blk_frozen BK328.out 3; obtain ⟨Ao34, co34, eo34⟩ := Kd.R_slice HO_6.out; subst eo34) | ((with_reducible refine gate_callee (f := 19) rfl ?_); refine goesL_ (some 53) rfl rfl Try.func19 (by kernel_rfl) rfl #[.slice Ao34 x6_2.length co34, .int .i64 t325] rfl (by (try simp only [List.map_toArray, List.map_cons, List.map_nil]); first | done | rfl | (simp only [List.length_drop, List.length_take]; rfl)) ?_; (with_reducible refine (slices_Contains_int_int.calls k2 _ _ x6_2 t325 true _ ?side1 ?side2 A27.out).mono ?_); (case side1 => refine (Kd.R_reads' (e := 3) (base := w.heap.size) (ok := fun k_ => True) (n := x6_2.length) (c := co34) ?_).2.2; exact (by (with_reducible repeat (first | apply Kd.R_alloc | apply Kd.R_drewN | apply Kd.R_drew)); exact (Kd.R_mono (Kd.R_far (p := ⟨gb328, 3, none⟩) (Kd.R_far (p := ⟨gb328, 2, none⟩) (Kd.R_far (p := ⟨gb328, 1, none⟩) (Kd.R_far (p := ⟨gb328, 0, none⟩) (Kd.R_types HO_6.out BK328.out (by decide)) (fun _ hk => hk.2) (.int .i64 t323)) (fun _ hk => hk.2) (.int .i64 t324)) (fun _ hk => hk.2) (.int .i64 t325)) (fun _ hk => hk.2) (.int .i64 t326)) (fun _ h_ => h_.1)))); (case side2 => exact (Kd.R_reads' HO_6.out).2.1); rintro e w' ⟨rfl, ⟨nd, rfl⟩⟩; refine ⟨_, rfl, ?_⟩))
                      go_ret
                      exact ⟨by first | rfl | (simp [errW_none, errW_some] <;> rfl) | (simp [*, errW_none, errW_some] <;> rfl), by repeat (first | (with_reducible first | exact HB.out | apply below_alloc | apply pw_below_drewN | apply below_drew1 | refine below_set ?_ GE318.out | refine below_set ?_ GE328.out) | exact HB.out)⟩
                    · replace c28 := Bool.eq_false_iff.mpr c28
                      subst c28
                      have H1 : ((some (([(⟨t323, t324, t325, t326⟩ : S28)] : List (S28)) : List (S28))).bind fun y330 => (if x5_2.length + y330.length < 4398046511104 then ((some (([t325] : List Int) : List Int)).bind fun y336 => (if x6_2.length + y336.length < 17592186044416 then (hopmeshlaw47_GossipPolite.l0 k2 (x5_2 ++ y330) (x6_2 ++ y336) l1 (l1.length : Int) (wrap64 (x38_2 + 1)) a0_0 a0_1 a0_2) else (none))) else (none))) = some r := by rw [if_neg (show ¬ (false = true) by decide)] at H; exact H
                      clear H
                      have H := H1
                      clear H1
                      obtain ⟨y330, hy330⟩ : ∃ y_ : List (S28), y_ = (([(⟨t323, t324, t325, t326⟩ : S28)] : List (S28))) := ⟨_, rfl⟩
                      replace H : (if x5_2.length + y330.length < 4398046511104 then ((some (([t325] : List Int) : List Int)).bind fun y336 => (if x6_2.length + y336.length < 17592186044416 then (hopmeshlaw47_GossipPolite.l0 k2 (x5_2 ++ y330) (x6_2 ++ y336) l1 (l1.length : Int) (wrap64 (x38_2 + 1)) a0_0 a0_1 a0_2) else (none))) else (none)) = some r := by first | (rw [hy330]; with_reducible exact H) | (have H2_ := (Option.bind_some _ _).symm.trans H; rw [hy330]; with_reducible exact H2_) | (have H2_ := (Option.bind_some _ _).symm.trans H; with_reducible exact H2_) | with_reducible exact H | (rw [hy330]; exact H) | exact H
                      have Ny330 := Aside0.mk hy330
                      clear hy330
                      by_cases c35 : x5_2.length + y330.length < 4398046511104
                      · rw [if_pos c35] at H
                        have LMc35 := Aside0.mk c35
                        clear c35
                        obtain ⟨y333, hy333⟩ : ∃ y_ : List (S28), y_ = (x5_2 ++ y330) := ⟨_, rfl⟩
                        replace H : ((some (([t325] : List Int) : List Int)).bind fun y336 => (if x6_2.length + y336.length < 17592186044416 then (hopmeshlaw47_GossipPolite.l0 k2 y333 (x6_2 ++ y336) l1 (l1.length : Int) (wrap64 (x38_2 + 1)) a0_0 a0_1 a0_2) else (none))) = some r := by first | (rw [hy333]; with_reducible exact H) | (have H2_ := (Option.bind_some _ _).symm.trans H; rw [hy333]; with_reducible exact H2_) | (have H2_ := (Option.bind_some _ _).symm.trans H; with_reducible exact H2_) | with_reducible exact H | (rw [hy333]; exact H) | exact H
                        have Ny333 := Aside0.mk hy333
                        clear hy333
                        obtain ⟨y336, hy336⟩ : ∃ y_ : List Int, y_ = (([t325] : List Int)) := ⟨_, rfl⟩
                        replace H : (if x6_2.length + y336.length < 17592186044416 then (hopmeshlaw47_GossipPolite.l0 k2 y333 (x6_2 ++ y336) l1 (l1.length : Int) (wrap64 (x38_2 + 1)) a0_0 a0_1 a0_2) else (none)) = some r := by first | (rw [hy336]; with_reducible exact H) | (have H2_ := (Option.bind_some _ _).symm.trans H; rw [hy336]; with_reducible exact H2_) | (have H2_ := (Option.bind_some _ _).symm.trans H; with_reducible exact H2_) | with_reducible exact H | (rw [hy336]; exact H) | exact H
                        have Ny336 := Aside0.mk hy336
                        clear hy336
                        by_cases c36 : x6_2.length + y336.length < 17592186044416
                        · rw [if_pos c36] at H
                          have LMc36 := Aside0.mk c36
                          clear c36
                          obtain ⟨y339, hy339⟩ : ∃ y_ : List Int, y_ = (x6_2 ++ y336) := ⟨_, rfl⟩
                          replace H : (hopmeshlaw47_GossipPolite.l0 k2 y333 y339 l1 (l1.length : Int) (wrap64 (x38_2 + 1)) a0_0 a0_1 a0_2) = some r := by first | (rw [hy339]; with_reducible exact H) | (have H2_ := (Option.bind_some _ _).symm.trans H; rw [hy339]; with_reducible exact H2_) | (have H2_ := (Option.bind_some _ _).symm.trans H; with_reducible exact H2_) | with_reducible exact H | (rw [hy339]; exact H) | exact H
                          have Ny339 := Aside0.mk hy339
                          clear hy339
                          have H' := Aside0.mk H
                          clear H
                          have p322 : 0 ≤ (x38_2 : Int) := of_decide_eq_true (by first | (with_reducible assumption) | assumption)
                          have q322 : x38_2 < (l1.length : Int) := of_decide_eq_true (by first | (with_reducible assumption) | assumption)
                          obtain ⟨ad322, e322, hx322_0⟩ := Kd.at_int HR1.out x38_2 p322 q322
                          cases e322
                          replace hx322_0 := (HB.out.cell (World.block_lt_of_cell? w _ hx322_0)).trans hx322_0
                          replace p322 := eq_true p322
                          replace q322 := eq_true q322
                          have hcz37_0 : wr.cell? ⟨gb318, 0, none⟩ = some (.int .i64 a0_0) := (blk_cell BK318.out 0).trans rfl
                          have hcz37_1 : wr.cell? ⟨gb318, 1, none⟩ = some (.int .i64 a0_1) := (blk_cell BK318.out 1).trans rfl
                          have hcz37_2 : wr.cell? ⟨gb318, 2, none⟩ = some (.int .i64 a0_2) := (blk_cell BK318.out 2).trans rfl
                          have hfz37_0 := blk_frozen BK318.out 0
                          have hfz37_1 := blk_frozen BK318.out 1
                          have hfz37_2 := blk_frozen BK318.out 2
                          try go_wp2_with (first | ((with_reducible refine gate_callee (f := 10) rfl ?_); refine goesL_ (some 45) rfl rfl Try.func10 (by kernel_rfl) rfl #[.agg #[.int .i64 a0_0, .int .i64 a0_1, .int .i64 a0_2], .int .i64 0, .int .u32 (rd l1 x38_2)] rfl (by (try simp only [List.map_toArray, List.map_cons, List.map_nil]); first | done | rfl | (simp only [List.length_drop, List.length_take]; rfl)) ?_; (with_reducible refine (gossip_Start.calls a0_0 a0_1 a0_2 0 (rd l1 x38_2) t323 t324 t325 t326 t327 _ A25.out).mono ?_); rintro e w38 ⟨rfl, hb⟩; refine ⟨_, rfl, ?_⟩; have n0_ := Aside0.mk (Kd.R_below (by (with_reducible repeat (first | apply Kd.R_alloc | apply Kd.R_drewN | apply Kd.R_drew)); exact HO_5.out) hb); have n1_ := Aside0.mk (Kd.R_below (by (with_reducible repeat (first | apply Kd.R_alloc | apply Kd.R_drewN | apply Kd.R_drew)); exact HO_6.out) hb); have n2_ := Aside0.mk (blk_below (g := gb318) (o := .cells #[.int .i64 a0_0, .int .i64 a0_1, .int .i64 a0_2] 23 (0, 0)) (by (with_reducible repeat (first | refine blk_drewN ?_ _ | refine blk_drew ?_ | refine blk_alloc ?_ _)); exact BK318.out) hb); have n3_ := Aside0.mk (below_step (by repeat (first | (with_reducible first | exact HB.out | apply below_alloc | apply pw_below_drewN | apply below_drew1 | refine below_set ?_ GE318.out) | exact HB.out)) hb); clear HO_5; clear HO_6; clear BK318; clear HB; have HO_5 := n0_; have HO_6 := n1_; have BK318 := n2_; have HB := n3_; clear n0_ n1_ n2_ n3_; (try clear hb); (try clear hb2); (try clear hk); (try clear hi)) | ((with_reducible refine gate_dst (N := 9) rfl ?_); (try (refine gate_guard (by rfl) ?_; dsimp only)); refine box_event ?hg (N := 9) ?hd (cs := #[.int .i64 0, .int .i64 0, .int .i64 0, .int .i64 0]) (t := 28) ?hr ?_; (case hd => rfl); (case hg => rfl); (case hr => first | (go_simp; done) | (go_simp; rfl)); intro gb328 hg w39 hbox hb; have n0_ := Aside0.mk (Kd.R_below (Kd.R_elderB (by (with_reducible repeat (first | apply Kd.R_alloc | apply Kd.R_drewN | apply Kd.R_drew)); exact HO_5.out) gb328 (Nat.le_of_eq hg.symm)) hb); have n1_ := Aside0.mk (Kd.R_below (by (with_reducible repeat (first | apply Kd.R_alloc | apply Kd.R_drewN | apply Kd.R_drew)); exact HO_6.out) hb); have n2_ := Aside0.mk (blk_below (g := gb318) (o := .cells #[.int .i64 a0_0, .int .i64 a0_1, .int .i64 a0_2] 23 (0, 0)) (by (with_reducible repeat (first | refine blk_drewN ?_ _ | refine blk_drew ?_ | refine blk_alloc ?_ _)); exact BK318.out) hb); have n3_ := Aside0.mk (below_step (by repeat (first | (with_reducible first | exact HB.out | apply below_alloc | apply pw_below_drewN | apply below_drew1 | refine below_set ?_ GE318.out) | exact HB.out)) hb); have n4_ := Aside0.mk (hbox); have n5_ := Aside0.mk ((by rw [hg]; exact (below_size (by repeat (first | (with_reducible first | exact HB.out | apply below_alloc | apply pw_below_drewN | apply below_drew1 | refine below_set ?_ GE318.out) | exact HB.out))) : w.heap.size ≤ gb328)); have n6_ := Aside0.mk ((by rw [hg]; exact (below_size (by repeat (first | (with_reducible first | exact HB.out | apply below_alloc | apply pw_below_drewN | apply below_drew1 | refine below_set ?_ GE318.out) | exact HB.out))) : w.heap.size ≤ gb328)); have n7_ := Aside0.mk ((by rw [hg]; exact Nat.ne_of_lt (blk_lt (g := gb318) (o := .cells #[.int .i64 a0_0, .int .i64 a0_1, .int .i64 a0_2] 23 (0, 0)) (by (with_reducible repeat (first | refine blk_drewN ?_ _ | refine blk_drew ?_ | refine blk_alloc ?_ _)); exact BK318.out)) : gb318 ≠ gb328)); have n8_ := Aside0.mk ((by rw [hg]; exact Nat.ne_of_gt (blk_lt (g := gb318) (o := .cells #[.int .i64 a0_0, .int .i64 a0_1, .int .i64 a0_2] 23 (0, 0)) (by (with_reducible repeat (first | refine blk_drewN ?_ _ | refine blk_drew ?_ | refine blk_alloc ?_ _)); exact BK318.out)) : gb328 ≠ gb318)); clear HO_5; clear HO_6; clear BK318; clear HB; have HO_5 := n0_; have HO_6 := n1_; have BK318 := n2_; have HB := n3_; have BK328 := n4_; have GW328 := n5_; have GE328 := n6_; have NB318_328 := n7_; have NB328_318 := n8_; clear n0_ n1_ n2_ n3_ n4_ n5_ n6_ n7_ n8_; clear hb hbox hg; have hnb40 := NB328_318.out; have hnc40 := NB318_328.out; have hcz41_0 : w39.cell? ⟨gb328, 0, none⟩ = some (.int .i64 0) := (blk_cell BK328.out 0).trans rfl; have hcz41_1 : w39.cell? ⟨gb328, 1, none⟩ = some (.int .i64 0) := (blk_cell BK328.out 1).trans rfl; have hcz41_2 : w39.cell? ⟨gb328, 2, none⟩ = some (.int .i64 0) := (blk_cell BK328.out 2).trans rfl; have hcz41_3 : w39.cell? ⟨gb328, 3, none⟩ = some (.int .i64 0) := (blk_cell BK328.out 3).trans rfl; have hfz41_0 := blk_frozen BK328.out 0; have hfz41_1 := blk_frozen BK328.out 1; have hfz41_2 := blk_frozen BK328.out 2; have hfz41_3 := blk_frozen BK328.out 3; obtain ⟨Ao42, co42, eo42⟩ := Kd.R_slice HO_6.out; subst eo42) | ((with_reducible refine gate_callee (f := 19) rfl ?_); refine goesL_ (some 53) rfl rfl Try.func19 (by kernel_rfl) rfl #[.slice Ao42 x6_2.length co42, .int .i64 t325] rfl (by (try simp only [List.map_toArray, List.map_cons, List.map_nil]); first | done | rfl | (simp only [List.length_drop, List.length_take]; rfl)) ?_; (with_reducible refine (slices_Contains_int_int.calls k2 _ _ x6_2 t325 false _ ?side1 ?side2 A27.out).mono ?_); (case side1 => refine (Kd.R_reads' (e := 3) (base := w.heap.size) (ok := fun k_ => True) (n := x6_2.length) (c := co42) ?_).2.2; exact (by (with_reducible repeat (first | apply Kd.R_alloc | apply Kd.R_drewN | apply Kd.R_drew)); exact (Kd.R_mono (Kd.R_far (p := ⟨gb328, 3, none⟩) (Kd.R_far (p := ⟨gb328, 2, none⟩) (Kd.R_far (p := ⟨gb328, 1, none⟩) (Kd.R_far (p := ⟨gb328, 0, none⟩) (Kd.R_types HO_6.out BK328.out (by decide)) (fun _ hk => hk.2) (.int .i64 t323)) (fun _ hk => hk.2) (.int .i64 t324)) (fun _ hk => hk.2) (.int .i64 t325)) (fun _ hk => hk.2) (.int .i64 t326)) (fun _ h_ => h_.1)))); (case side2 => exact (Kd.R_reads' HO_6.out).2.1); rintro e w' ⟨rfl, ⟨nd, rfl⟩⟩; refine ⟨_, rfl, ?_⟩; obtain ⟨Ao43, co43, eo43⟩ := Kd.R_slice HO_5.out; subst eo43))
                          have n0_ : Aside0 (Kd.R k28 28 ((((w39.setCell ⟨gb328, 0, none⟩ (.int .i64 t323)).setCell ⟨gb328, 1, none⟩ (.int .i64 t324)).setCell ⟨gb328, 2, none⟩ (.int .i64 t325)).setCell ⟨gb328, 3, none⟩ (.int .i64 t326)) w.heap.size (fun k_ => k_ ≠ gb328) (.slice Ao43 x5_2.length co43) x5_2) := ⟨by (with_reducible repeat (first | apply Kd.R_alloc | apply Kd.R_drewN | apply Kd.R_drew)); exact Kd.R_mono (Kd.R_far (p := ⟨gb328, 3, none⟩) (Kd.R_far (p := ⟨gb328, 2, none⟩) (Kd.R_far (p := ⟨gb328, 1, none⟩) (Kd.R_far (p := ⟨gb328, 0, none⟩) (Kd.R_mono HO_5.out (fun k_ hk => (⟨hk, hk.2⟩ : _ ∧ k_ ≠ gb328))) (fun _ hk => hk.2) (.int .i64 t323)) (fun _ hk => hk.2) (.int .i64 t324)) (fun _ hk => hk.2) (.int .i64 t325)) (fun _ hk => hk.2) (.int .i64 t326)) (fun _ hk => hk.1.2)⟩
                          have n1_ : Aside0 (Kd.R (Kd.int .i64) 3 ((((w39.setCell ⟨gb328, 0, none⟩ (.int .i64 t323)).setCell ⟨gb328, 1, none⟩ (.int .i64 t324)).setCell ⟨gb328, 2, none⟩ (.int .i64 t325)).setCell ⟨gb328, 3, none⟩ (.int .i64 t326)) w.heap.size (fun _ => True) (.slice Ao42 x6_2.length co42) x6_2) := ⟨by (with_reducible repeat (first | apply Kd.R_alloc | apply Kd.R_drewN | apply Kd.R_drew)); exact Kd.R_mono (Kd.R_far (p := ⟨gb328, 3, none⟩) (Kd.R_far (p := ⟨gb328, 2, none⟩) (Kd.R_far (p := ⟨gb328, 1, none⟩) (Kd.R_far (p := ⟨gb328, 0, none⟩) (Kd.R_types HO_6.out BK328.out (by decide)) (fun _ hk => hk.2) (.int .i64 t323)) (fun _ hk => hk.2) (.int .i64 t324)) (fun _ hk => hk.2) (.int .i64 t325)) (fun _ hk => hk.2) (.int .i64 t326)) (fun _ hk => trivial)⟩
                          have n2_ : Aside0 (((((w39.setCell ⟨gb328, 0, none⟩ (.int .i64 t323)).setCell ⟨gb328, 1, none⟩ (.int .i64 t324)).setCell ⟨gb328, 2, none⟩ (.int .i64 t325)).setCell ⟨gb328, 3, none⟩ (.int .i64 t326)).heap[gb318]? = some (.cells #[.int .i64 a0_0, .int .i64 a0_1, .int .i64 a0_2] 23 (0, 0))) := ⟨by (with_reducible repeat (first | refine blk_drewN ?_ _ | refine blk_drew ?_ | refine blk_alloc ?_ _)); refine blk_far ?_ NB318_328.out _; (with_reducible repeat (first | refine blk_drewN ?_ _ | refine blk_drew ?_ | refine blk_alloc ?_ _)); refine blk_far ?_ NB318_328.out _; (with_reducible repeat (first | refine blk_drewN ?_ _ | refine blk_drew ?_ | refine blk_alloc ?_ _)); refine blk_far ?_ NB318_328.out _; (with_reducible repeat (first | refine blk_drewN ?_ _ | refine blk_drew ?_ | refine blk_alloc ?_ _)); refine blk_far ?_ NB318_328.out _; (with_reducible repeat (first | refine blk_drewN ?_ _ | refine blk_drew ?_ | refine blk_alloc ?_ _)); exact BK318.out⟩
                          have n3_ : Aside0 (((((w39.setCell ⟨gb328, 0, none⟩ (.int .i64 t323)).setCell ⟨gb328, 1, none⟩ (.int .i64 t324)).setCell ⟨gb328, 2, none⟩ (.int .i64 t325)).setCell ⟨gb328, 3, none⟩ (.int .i64 t326)).heap[gb328]? = some (.cells #[.int .i64 t323, .int .i64 t324, .int .i64 t325, .int .i64 t326] 28 (0, 0))) := ⟨by (with_reducible repeat (first | refine blk_drewN ?_ _ | refine blk_drew ?_ | refine blk_alloc ?_ _)); refine blk_put (cs := #[.int .i64 t323, .int .i64 t324, .int .i64 t325, .int .i64 0]) ?_ 3 _ rfl; (with_reducible repeat (first | refine blk_drewN ?_ _ | refine blk_drew ?_ | refine blk_alloc ?_ _)); refine blk_put (cs := #[.int .i64 t323, .int .i64 t324, .int .i64 0, .int .i64 0]) ?_ 2 _ rfl; (with_reducible repeat (first | refine blk_drewN ?_ _ | refine blk_drew ?_ | refine blk_alloc ?_ _)); refine blk_put (cs := #[.int .i64 t323, .int .i64 0, .int .i64 0, .int .i64 0]) ?_ 1 _ rfl; (with_reducible repeat (first | refine blk_drewN ?_ _ | refine blk_drew ?_ | refine blk_alloc ?_ _)); refine blk_put (cs := #[.int .i64 0, .int .i64 0, .int .i64 0, .int .i64 0]) ?_ 0 _ rfl; (with_reducible repeat (first | refine blk_drewN ?_ _ | refine blk_drew ?_ | refine blk_alloc ?_ _)); exact BK328.out⟩
                          have n4_ : Aside0 (Below w.heap.size w ((((w39.setCell ⟨gb328, 0, none⟩ (.int .i64 t323)).setCell ⟨gb328, 1, none⟩ (.int .i64 t324)).setCell ⟨gb328, 2, none⟩ (.int .i64 t325)).setCell ⟨gb328, 3, none⟩ (.int .i64 t326))) := ⟨by repeat (first | (with_reducible first | exact HB.out | apply below_alloc | apply pw_below_drewN | apply below_drew1 | refine below_set ?_ GE318.out | refine below_set ?_ GE328.out) | exact HB.out)⟩
                          (try clear HO_5)
                          (try clear HO_6)
                          (try clear BK318)
                          (try clear BK328)
                          (try clear HB)
                          generalize ((((w39.setCell ⟨gb328, 0, none⟩ (.int .i64 t323)).setCell ⟨gb328, 1, none⟩ (.int .i64 t324)).setCell ⟨gb328, 2, none⟩ (.int .i64 t325)).setCell ⟨gb328, 3, none⟩ (.int .i64 t326)) = w44 at n0_ n1_ n2_ n3_ n4_ ⊢
                          have HO_5 := n0_
                          have HO_6 := n1_
                          have BK318 := n2_
                          have BK328 := n3_
                          have HB := n4_
                          clear n0_ n1_ n2_ n3_ n4_
                          (try (rw [drewN_self w44]; generalize hq_ : World.drewN w44 _ = w44; have n0_ : Aside0 (Kd.R k28 28 w44 w.heap.size (fun k_ => k_ ≠ gb328) (.slice Ao43 x5_2.length co43) x5_2) := ⟨by rw [← hq_]; exact (by (with_reducible repeat (first | apply Kd.R_alloc | apply Kd.R_drewN | apply Kd.R_drew)); exact HO_5.out)⟩; have n1_ : Aside0 (Kd.R (Kd.int .i64) 3 w44 w.heap.size (fun _ => True) (.slice Ao42 x6_2.length co42) x6_2) := ⟨by rw [← hq_]; exact (by (with_reducible repeat (first | apply Kd.R_alloc | apply Kd.R_drewN | apply Kd.R_drew)); exact HO_6.out)⟩; have n2_ : Aside0 (w44.heap[gb318]? = some (.cells #[.int .i64 a0_0, .int .i64 a0_1, .int .i64 a0_2] 23 (0, 0))) := ⟨by rw [← hq_]; exact (by (with_reducible repeat (first | refine blk_drewN ?_ _ | refine blk_drew ?_ | refine blk_alloc ?_ _)); exact BK318.out)⟩; have n3_ : Aside0 (w44.heap[gb328]? = some (.cells #[.int .i64 t323, .int .i64 t324, .int .i64 t325, .int .i64 t326] 28 (0, 0))) := ⟨by rw [← hq_]; exact (by (with_reducible repeat (first | refine blk_drewN ?_ _ | refine blk_drew ?_ | refine blk_alloc ?_ _)); exact BK328.out)⟩; have n4_ : Aside0 (Below w.heap.size w w44) := ⟨by rw [← hq_]; exact (by repeat (first | (with_reducible first | exact HB.out | apply below_alloc | apply pw_below_drewN | apply below_drew1 | refine below_set ?_ GE318.out | refine below_set ?_ GE328.out) | exact HB.out))⟩; clear HO_5 HO_6 BK318 BK328 HB hq_; have HO_5 := n0_; have HO_6 := n1_; have BK318 := n2_; have BK328 := n3_; have HB := n4_; clear n0_ n1_ n2_ n3_ n4_))
                          have n0_ := Aside0.mk (Kd.R_drew HO_5.out)
                          have n1_ := Aside0.mk (Kd.R_drew HO_6.out)
                          have n2_ := Aside0.mk (blk_drew BK318.out)
                          have n3_ := Aside0.mk (blk_drew BK328.out)
                          have n4_ := Aside0.mk (below_drew1 HB.out)
                          clear HO_5
                          clear HO_6
                          clear BK318
                          clear BK328
                          clear HB
                          have HO_5 := n0_
                          have HO_6 := n1_
                          have BK318 := n2_
                          have BK328 := n3_
                          have HB := n4_
                          clear n0_ n1_ n2_ n3_ n4_
                          refine start_ (n := 11) (S := fun w' => w'.cell? ⟨gb328, 0, none⟩ = some (.int .i64 t323) ∧ w'.cell? ⟨gb328, 1, none⟩ = some (.int .i64 t324) ∧ w'.cell? ⟨gb328, 2, none⟩ = some (.int .i64 t325) ∧ w'.cell? ⟨gb328, 3, none⟩ = some (.int .i64 t326)) (ds := []) #[false, false, false, false, false, false, false, false, false, false, false] (by kernel_rfl) rfl rfl ⟨(blk_cell BK328.out 0).trans rfl, (blk_cell BK328.out 1).trans rfl, (blk_cell BK328.out 2).trans rfl, (blk_cell BK328.out 3).trans rfl⟩ (fun hHeld => ?_); refine with_tabW hopmeshlaw47_GossipPolite.tab13 hopmeshlaw47_GossipPolite.bits13 (fun HT_ HW_ => ?_)
                          generalize w44.drew = w45 at HO_5 HO_6 BK318 BK328 HB hHeld ⊢
                          refine pure_ (i := 0) (N := some 54) (v := ?_) (a' := ?_) #[true, false, false, false, false, false, false, false, false, false, false] rfl rfl (any_of HT_.out (by kernel_rfl)) (fun _ _ _ h => h) (Or.inl ⟨by rfl, ?_⟩) ?_ ?_
                          rotate_left
                          · intro w'
                            go_simp
                            with_reducible rfl
                          rotate_left
                          · simp only [Act.put, List.setIfInBounds_toArray, List.set_cons_zero, List.set_cons_succ, i64_w, i32_w]
                            rfl
                          refine pure_ (i := 4) (N := some 58) (v := ?_) (a' := ?_) #[true, false, false, false, true, false, false, false, false, false, false] rfl rfl (any_of HT_.out (by kernel_rfl)) (fun _ _ _ h => h) (Or.inl ⟨by rfl, ?_⟩) ?_ ?_
                          rotate_left
                          · intro w'
                            go_simp
                            with_reducible rfl
                          rotate_left
                          · simp only [Act.put, List.setIfInBounds_toArray, List.set_cons_zero, List.set_cons_succ, i64_w, i32_w]
                            rfl
                          refine pure_ (i := 5) (N := some 59) (v := ?_) (a' := ?_) #[true, false, false, false, true, true, false, false, false, false, false] rfl rfl (any_of HT_.out (by kernel_rfl)) (fun _ _ _ h => h) (Or.inl ⟨by rfl, ?_⟩) ?_ ?_
                          rotate_left
                          · intro w'
                            go_simp
                            with_reducible rfl
                          rotate_left
                          · simp only [Act.put, List.setIfInBounds_toArray, List.set_cons_zero, List.set_cons_succ, i64_w, i32_w]
                            rfl
                          refine take_ (i := 1) (N := some 55) (v := ?_) (a' := ?_) #[true, true, false, false, true, true, false, false, false, false, false] rfl rfl (take_ofW HT_.out HW_.out (by kernel_rfl)) (fun _ _ _ h => h) (Or.inl ⟨by rfl, ?_⟩) hHeld ?_ ?_
                          rotate_left
                          · rintro w' ⟨s0, s1, s2, s3⟩
                            go_simp
                            with_reducible rfl
                          rotate_left
                          · simp only [Act.put, List.setIfInBounds_toArray, List.set_cons_zero, List.set_cons_succ, i64_w, i32_w]
                            rfl
                          refine take_ (i := 6) (N := some 60) (v := ?_) (a' := ?_) #[true, true, false, false, true, true, true, false, false, false, false] rfl rfl (take_ofW HT_.out HW_.out (by kernel_rfl)) (fun _ _ _ h => h) (Or.inl ⟨by rfl, ?_⟩) hHeld ?_ ?_
                          rotate_left
                          · rintro w' ⟨s0, s1, s2, s3⟩
                            go_simp
                            with_reducible rfl
                          rotate_left
                          · simp only [Act.put, List.setIfInBounds_toArray, List.set_cons_zero, List.set_cons_succ, i64_w, i32_w]
                            rfl
                          refine join_ (σ := Value × Value × Value) 3 #[true, true, true, true, true, true, true, true, false, false, false] (fun s_ => [(56, s_.1), (57, s_.2.1), (61, s_.2.2)]) (fun s_ w' => (w'.cell? ⟨gb328, 0, none⟩ = some (.int .i64 t323) ∧ w'.cell? ⟨gb328, 1, none⟩ = some (.int .i64 t324) ∧ w'.cell? ⟨gb328, 2, none⟩ = some (.int .i64 t325) ∧ w'.cell? ⟨gb328, 3, none⟩ = some (.int .i64 t326)) ∧ (Kd.R k28 28 w' w.heap.size (fun k_ => some k_ ≠ (s_.2.1 : Value).ownBlock ∧ k_ ≠ gb328) s_.1 y330) ∧ (Kd.R k28 28 w' w.heap.size (fun k_ => some k_ ≠ (s_.1 : Value).ownBlock ∧ k_ ≠ gb328) s_.2.1 y333) ∧ (Kd.R (Kd.int .i64) 3 w' w.heap.size (fun k_ => some k_ ≠ (.slice Ao42 x6_2.length co42 : Value).ownBlock) s_.2.2 y336) ∧ (Kd.R (Kd.int .i64) 3 w' w.heap.size (fun k_ => some k_ ≠ (s_.2.2 : Value).ownBlock) (.slice Ao42 x6_2.length co42) x6_2) ∧ (w'.heap[gb318]? = some (.cells #[.int .i64 a0_0, .int .i64 a0_1, .int .i64 a0_2] 23 (0, 0))) ∧ (w'.heap[gb328]? = some (.cells #[.int .i64 t323, .int .i64 t324, .int .i64 t325, .int .i64 t326] 28 (0, 0))) ∧ (Below w.heap.size w w')) ?_ ?_
                          rotate_left
                          · intro hCont
                            refine two_ (i := 2) (j := 7) (Ni := some 56) (Nj := some 61) #[true, true, true, false, true, true, true, false, false, false, false] #[true, true, false, false, true, true, true, true, false, false, false] rfl rfl rfl rfl (two_of HT_.out (by kernel_rfl)) (by decide) (by decide) (fun K hK => ?_) (fun K hK => ?_)
                            · skip
                              refine Kd.R_lit_step k28 _ 28 ?hg (N := 56) ?hd (xs := ([(⟨t323, t324, t325, t326⟩ : S28)] : List (S28))) (inner := [.int .i64 t323, .int .i64 t324, .int .i64 t325, .int .i64 t326]) (ok := fun _ => True) (okp := fun _ => True) ?hr ?hp (fun _ hk => hk) trivial (Below.refl _ _) (Nat.le_refl _) (by simp) ?_; (case hd => rfl); (case hg => rfl); (case hr => first | (go_simp; done) | (go_simp; rfl)); (case hp => exact (Reps.c4 (show Kd.M k28 _ _ _ (⟨t323, t324, t325, t326⟩ : S28) [.int .i64 t323, .int .i64 t324, .int .i64 t325, .int .i64 t326] from (k28_mkM _ _ _ (⟨t323, t324, t325, t326⟩ : S28) )) (Reps.none _ _)))
                              intro v331 w46 ho47 hb hg_ hnew_
                              clear hg_ hnew_
                              (first | rw [← Ny330.out] at ho47 | (simp only [Int.reduceToNat] at ho47; rw [← Ny330.out] at ho47))
                              have n0_ := Aside0.mk (Kd.R_elder' (by (with_reducible repeat (first | apply Kd.R_alloc | apply Kd.R_drewN | apply Kd.R_drew)); exact HO_5.out) (Kd.R_base ho47) hb)
                              have n1_ := Aside0.mk (Kd.R_below (by (with_reducible repeat (first | apply Kd.R_alloc | apply Kd.R_drewN | apply Kd.R_drew)); exact HO_6.out) hb)
                              have n2_ := Aside0.mk (Kd.R_lower (Kd.R_newB (Kd.R_new' ho47 (Kd.R_lt (by (with_reducible repeat (first | apply Kd.R_alloc | apply Kd.R_drewN | apply Kd.R_drew)); exact HO_5.out))) (g := gb328) (o := .cells #[.int .i64 t323, .int .i64 t324, .int .i64 t325, .int .i64 t326] 28 (0, 0)) (by (with_reducible repeat (first | refine blk_drewN ?_ _ | refine blk_drew ?_ | refine blk_alloc ?_ _)); exact BK328.out)) (below_size (by repeat (first | (with_reducible first | exact HB.out | apply below_alloc | apply pw_below_drewN | apply below_drew1 | refine below_set ?_ GE318.out | refine below_set ?_ GE328.out) | exact HB.out))))
                              have n3_ := Aside0.mk (blk_below (g := gb318) (o := .cells #[.int .i64 a0_0, .int .i64 a0_1, .int .i64 a0_2] 23 (0, 0)) (by (with_reducible repeat (first | refine blk_drewN ?_ _ | refine blk_drew ?_ | refine blk_alloc ?_ _)); exact BK318.out) hb)
                              have n4_ := Aside0.mk (blk_below (g := gb328) (o := .cells #[.int .i64 t323, .int .i64 t324, .int .i64 t325, .int .i64 t326] 28 (0, 0)) (by (with_reducible repeat (first | refine blk_drewN ?_ _ | refine blk_drew ?_ | refine blk_alloc ?_ _)); exact BK328.out) hb)
                              have n5_ := Aside0.mk (below_step (by repeat (first | (with_reducible first | exact HB.out | apply below_alloc | apply pw_below_drewN | apply below_drew1 | refine below_set ?_ GE318.out | refine below_set ?_ GE328.out) | exact HB.out)) hb)
                              clear HO_5
                              clear HO_6
                              clear BK318
                              clear BK328
                              clear HB
                              have HO_5 := n0_
                              have HO_6 := n1_
                              have HO332 := n2_
                              have BK318 := n3_
                              have BK328 := n4_
                              have HB := n5_
                              clear n0_ n1_ n2_ n3_ n4_ n5_
                              clear hb ho47
                              obtain ⟨Ao49, co49, eo49⟩ := Kd.R_slice HO332.out
                              (first | subst eo49 | (injection eo49 with f1_ f2_ f3_; have f4_ := f1_.symm; have f5_ := f3_.symm; clear f1_ f2_ f3_; subst f4_; subst f5_))
                              refine hK.out _ _ ⟨(blk_cell BK328.out 0).trans rfl, (blk_cell BK328.out 1).trans rfl, (blk_cell BK328.out 2).trans rfl, (blk_cell BK328.out 3).trans rfl⟩ (fun hHeld => ?_)
                              clear hK K
                              refine norm_ (a' := ?_) ?_ ?_
                              rotate_left
                              · show Act.put _ (some 56) _ = _
                                simp only [Act.put, List.setIfInBounds_toArray, List.set_cons_zero, List.set_cons_succ, i64_w, i32_w]
                                rfl
                              refine two_ (i := 3) (j := 7) (Ni := some 57) (Nj := some 61) #[true, true, true, true, true, true, true, false, false, false, false] #[true, true, true, false, true, true, true, true, false, false, false] rfl rfl rfl rfl (two_of HT_.out (by kernel_rfl)) (by decide) (by decide) (fun K hK => ?_) (fun K hK => ?_)
                              · skip
                                refine Kd.R_append_rows_step k28 (w0 := w) w.heap.size (by rfl) (.tmp 54) (.tmp 56) 44 28 (.agg #[(.int .i64 0), (.int .i64 0), (.int .i64 0), (.int .i64 0)]) 32 rfl Try.underlying44 info28 rfl (by decide) (by omega) (.slice Ao43 x5_2.length co43) x5_2 y330 _ _ _ (fun k_ => some k_ ≠ (.slice Ao49 y330.length co49 : Value).ownBlock ∧ k_ ≠ gb328) (fun _ => False) rfl rfl ?aO ?aR (fun _ _ h => h) (fun _ h => h.elim) ?aF ?aB ?aS ?aL ?_
                                (case aR => repeat (first | exact (Kd.R_reads' HO332.out).2.2 | (with_reducible refine Kd.C_alloc ?_ _) | (with_reducible refine Kd.C_drewN ?_ _) | (with_reducible refine Kd.C_drew ?_)))
                                (case aB => exact (by repeat (first | (with_reducible first | exact HB.out | apply below_alloc | apply pw_below_drewN | apply below_drew1 | refine below_set ?_ GE318.out | refine below_set ?_ GE328.out) | exact HB.out)))
                                (case aF => exact (fun k_ hk => ⟨Kd.fresh' (Kd.R_lt (by (with_reducible repeat (first | apply Kd.R_alloc | apply Kd.R_drewN | apply Kd.R_drew)); exact HO332.out)) k_ hk, Kd.freshB (g := gb328) (o := .cells #[.int .i64 t323, .int .i64 t324, .int .i64 t325, .int .i64 t326] 28 (0, 0)) (by (with_reducible repeat (first | refine blk_drewN ?_ _ | refine blk_drew ?_ | refine blk_alloc ?_ _)); exact BK328.out) k_ hk⟩))
                                (case aO => exact (by (with_reducible repeat (first | apply Kd.R_alloc | apply Kd.R_drewN | apply Kd.R_drew)); exact Kd.R_mono HO_5.out (fun _ hk => ⟨hk.2, hk.1⟩)))
                                (case aS => exact (below_size (by repeat (first | (with_reducible first | exact HB.out | apply below_alloc | apply pw_below_drewN | apply below_drew1 | refine below_set ?_ GE318.out | refine below_set ?_ GE328.out) | exact HB.out))))
                                (case aL => have := LMc35.out; omega)
                                intro v334 w48 ho hb hg hat
                                rw [← Ny333.out] at ho
                                have n0_ := Aside0.mk (Kd.R_over' (by (with_reducible repeat (first | apply Kd.R_alloc | apply Kd.R_drewN | apply Kd.R_drew)); exact HO_6.out) (Kd.R_typed (by (with_reducible repeat (first | apply Kd.R_alloc | apply Kd.R_drewN | apply Kd.R_drew)); exact HO_5.out)) (by decide) hg)
                                have n1_ := Aside0.mk (blk_grown (g := gb318) (o := .cells #[.int .i64 a0_0, .int .i64 a0_1, .int .i64 a0_2] 23 (0, 0)) (by (with_reducible repeat (first | refine blk_drewN ?_ _ | refine blk_drew ?_ | refine blk_alloc ?_ _)); exact BK318.out) hg (Kd.R_ne HO_5.out BK318.out (by decide)))
                                have n2_ := Aside0.mk (blk_grown (g := gb328) (o := .cells #[.int .i64 t323, .int .i64 t324, .int .i64 t325, .int .i64 t326] 28 (0, 0)) (by (with_reducible repeat (first | refine blk_drewN ?_ _ | refine blk_drew ?_ | refine blk_alloc ?_ _)); exact BK328.out) hg (Kd.R_away HO_5.out (fun _ hk => hk.1)))
                                have n3_ := Aside0.mk (Kd.R_after (ok := (fun k_ => k_ ≠ gb328)) (by (with_reducible repeat (first | apply Kd.R_alloc | apply Kd.R_drewN | apply Kd.R_drew)); exact Kd.R_mono HO332.out (fun _ hk => ⟨hk.2, hk.1.2⟩)) hg hat)
                                have n4_ := Aside0.mk (hb)
                                have n5_ := Aside0.mk (ho)
                                clear HO_6
                                clear BK318
                                clear BK328
                                clear HO332
                                clear HB
                                clear HO_5
                                have HO_6 := n0_
                                have BK318 := n1_
                                have BK328 := n2_
                                have HO332 := n3_
                                have HB := n4_
                                have HO335 := n5_
                                clear n0_ n1_ n2_ n3_ n4_ n5_
                                clear ho hb hg hat
                                refine hK.out _ _ ⟨(blk_cell BK328.out 0).trans rfl, (blk_cell BK328.out 1).trans rfl, (blk_cell BK328.out 2).trans rfl, (blk_cell BK328.out 3).trans rfl⟩ (fun hHeld => ?_)
                                clear hK K
                                refine norm_ (a' := ?_) ?_ ?_
                                rotate_left
                                · show Act.put _ (some 57) _ = _
                                  simp only [Act.put, List.setIfInBounds_toArray, List.set_cons_zero, List.set_cons_succ, i64_w, i32_w]
                                  rfl
                                refine one_ (i := 7) (N := some 61) #[true, true, true, true, true, true, true, true, false, false, false] rfl rfl (one_of HT_.out (by kernel_rfl)) (by decide) (fun K hK => ?_)
                                refine Kd.R_lit_step (Kd.int .i64) _ 3 ?hg (N := 61) ?hd (xs := ([t325] : List Int)) (inner := [.int .i64 t325]) (ok := fun _ => True) (okp := fun _ => True) ?hr ?hp (fun _ hk => hk) trivial (Below.refl _ _) (Nat.le_refl _) (by simp) ?_; (case hd => rfl); (case hg => rfl); (case hr => first | (go_simp; done) | (go_simp; rfl)); (case hp => exact (Reps.one (show Kd.M (Kd.int .i64) _ _ _ t325 [.int .i64 t325] from rfl) (Reps.none _ _)))
                                intro v337 w50 ho51 hb hg_ hnew_
                                clear hg_ hnew_
                                (first | rw [← Ny336.out] at ho51 | (simp only [Int.reduceToNat] at ho51; rw [← Ny336.out] at ho51))
                                have n0_ := Aside0.mk (Kd.R_elder' (by (with_reducible repeat (first | apply Kd.R_alloc | apply Kd.R_drewN | apply Kd.R_drew)); exact HO_6.out) (Kd.R_base ho51) hb)
                                have n1_ := Aside0.mk (Kd.R_below (by (with_reducible repeat (first | apply Kd.R_alloc | apply Kd.R_drewN | apply Kd.R_drew)); exact HO332.out) hb)
                                have n2_ := Aside0.mk (Kd.R_below (by (with_reducible repeat (first | apply Kd.R_alloc | apply Kd.R_drewN | apply Kd.R_drew)); exact HO335.out) hb)
                                have n3_ := Aside0.mk (Kd.R_lower (Kd.R_new' ho51 (Kd.R_lt (by (with_reducible repeat (first | apply Kd.R_alloc | apply Kd.R_drewN | apply Kd.R_drew)); exact HO_6.out))) (below_size (by repeat (first | (with_reducible first | exact HB.out | apply below_alloc | apply pw_below_drewN | apply below_drew1 | refine below_set ?_ GE318.out | refine below_set ?_ GE328.out) | exact HB.out))))
                                have n4_ := Aside0.mk (blk_below (g := gb318) (o := .cells #[.int .i64 a0_0, .int .i64 a0_1, .int .i64 a0_2] 23 (0, 0)) (by (with_reducible repeat (first | refine blk_drewN ?_ _ | refine blk_drew ?_ | refine blk_alloc ?_ _)); exact BK318.out) hb)
                                have n5_ := Aside0.mk (blk_below (g := gb328) (o := .cells #[.int .i64 t323, .int .i64 t324, .int .i64 t325, .int .i64 t326] 28 (0, 0)) (by (with_reducible repeat (first | refine blk_drewN ?_ _ | refine blk_drew ?_ | refine blk_alloc ?_ _)); exact BK328.out) hb)
                                have n6_ := Aside0.mk (below_step (by repeat (first | (with_reducible first | exact HB.out | apply below_alloc | apply pw_below_drewN | apply below_drew1 | refine below_set ?_ GE318.out | refine below_set ?_ GE328.out) | exact HB.out)) hb)
                                clear HO_6
                                clear HO332
                                clear HO335
                                clear BK318
                                clear BK328
                                clear HB
                                have HO_6 := n0_
                                have HO332 := n1_
                                have HO335 := n2_
                                have HO338 := n3_
                                have BK318 := n4_
                                have BK328 := n5_
                                have HB := n6_
                                clear n0_ n1_ n2_ n3_ n4_ n5_ n6_
                                clear hb ho51
                                refine hK.out _ _ ⟨(blk_cell BK328.out 0).trans rfl, (blk_cell BK328.out 1).trans rfl, (blk_cell BK328.out 2).trans rfl, (blk_cell BK328.out 3).trans rfl⟩ (fun hHeld => ?_)
                                clear hK K
                                refine norm_ (a' := ?_) ?_ ?_
                                rotate_left
                                · show Act.put _ (some 61) _ = _
                                  simp only [Act.put, List.setIfInBounds_toArray, List.set_cons_zero, List.set_cons_succ, i64_w, i32_w]
                                  rfl
                                exact norm_ (by simp only [putAll, Act.put, List.setIfInBounds_toArray, List.set_cons_zero, List.set_cons_succ]) (hCont (.slice Ao49 y330.length co49, v334, v337) _ ⟨hHeld, (by (with_reducible repeat (first | apply Kd.R_alloc | apply Kd.R_drewN | apply Kd.R_drew)); exact Kd.R_mono HO332.out (fun _ hk => ⟨hk.2, hk.1⟩)), (by (with_reducible repeat (first | apply Kd.R_alloc | apply Kd.R_drewN | apply Kd.R_drew)); exact HO335.out), (by (with_reducible repeat (first | apply Kd.R_alloc | apply Kd.R_drewN | apply Kd.R_drew)); exact Kd.R_mono HO338.out (fun _ hk => hk.2)), (by (with_reducible repeat (first | apply Kd.R_alloc | apply Kd.R_drewN | apply Kd.R_drew)); exact Kd.R_mono HO_6.out (fun _ hk => hk.2)), (by (with_reducible repeat (first | refine blk_drewN ?_ _ | refine blk_drew ?_ | refine blk_alloc ?_ _)); exact BK318.out), (by (with_reducible repeat (first | refine blk_drewN ?_ _ | refine blk_drew ?_ | refine blk_alloc ?_ _)); exact BK328.out), (by repeat (first | (with_reducible first | exact HB.out | apply below_alloc | apply pw_below_drewN | apply below_drew1 | refine below_set ?_ GE318.out | refine below_set ?_ GE328.out) | exact HB.out))⟩)
                              · skip
                                refine Kd.R_lit_step (Kd.int .i64) _ 3 ?hg (N := 61) ?hd (xs := ([t325] : List Int)) (inner := [.int .i64 t325]) (ok := fun _ => True) (okp := fun _ => True) ?hr ?hp (fun _ hk => hk) trivial (Below.refl _ _) (Nat.le_refl _) (by simp) ?_; (case hd => rfl); (case hg => rfl); (case hr => first | (go_simp; done) | (go_simp; rfl)); (case hp => exact (Reps.one (show Kd.M (Kd.int .i64) _ _ _ t325 [.int .i64 t325] from rfl) (Reps.none _ _)))
                                intro v337 w48 ho49 hb hg_ hnew_
                                clear hg_ hnew_
                                (first | rw [← Ny336.out] at ho49 | (simp only [Int.reduceToNat] at ho49; rw [← Ny336.out] at ho49))
                                have n0_ := Aside0.mk (Kd.R_below (by (with_reducible repeat (first | apply Kd.R_alloc | apply Kd.R_drewN | apply Kd.R_drew)); exact HO_5.out) hb)
                                have n1_ := Aside0.mk (Kd.R_elder' (by (with_reducible repeat (first | apply Kd.R_alloc | apply Kd.R_drewN | apply Kd.R_drew)); exact HO_6.out) (Kd.R_base ho49) hb)
                                have n2_ := Aside0.mk (Kd.R_below (by (with_reducible repeat (first | apply Kd.R_alloc | apply Kd.R_drewN | apply Kd.R_drew)); exact HO332.out) hb)
                                have n3_ := Aside0.mk (Kd.R_lower (Kd.R_new' ho49 (Kd.R_lt (by (with_reducible repeat (first | apply Kd.R_alloc | apply Kd.R_drewN | apply Kd.R_drew)); exact HO_6.out))) (below_size (by repeat (first | (with_reducible first | exact HB.out | apply below_alloc | apply pw_below_drewN | apply below_drew1 | refine below_set ?_ GE318.out | refine below_set ?_ GE328.out) | exact HB.out))))
                                have n4_ := Aside0.mk (blk_below (g := gb318) (o := .cells #[.int .i64 a0_0, .int .i64 a0_1, .int .i64 a0_2] 23 (0, 0)) (by (with_reducible repeat (first | refine blk_drewN ?_ _ | refine blk_drew ?_ | refine blk_alloc ?_ _)); exact BK318.out) hb)
                                have n5_ := Aside0.mk (blk_below (g := gb328) (o := .cells #[.int .i64 t323, .int .i64 t324, .int .i64 t325, .int .i64 t326] 28 (0, 0)) (by (with_reducible repeat (first | refine blk_drewN ?_ _ | refine blk_drew ?_ | refine blk_alloc ?_ _)); exact BK328.out) hb)
                                have n6_ := Aside0.mk (below_step (by repeat (first | (with_reducible first | exact HB.out | apply below_alloc | apply pw_below_drewN | apply below_drew1 | refine below_set ?_ GE318.out | refine below_set ?_ GE328.out) | exact HB.out)) hb)
                                clear HO_5
                                clear HO_6
                                clear HO332
                                clear BK318
                                clear BK328
                                clear HB
                                have HO_5 := n0_
                                have HO_6 := n1_
                                have HO332 := n2_
                                have HO338 := n3_
                                have BK318 := n4_
                                have BK328 := n5_
                                have HB := n6_
                                clear n0_ n1_ n2_ n3_ n4_ n5_ n6_
                                clear hb ho49
                                obtain ⟨Ao51, co51, eo51⟩ := Kd.R_slice HO332.out
                                (first | subst eo51 | (injection eo51 with f1_ f2_ f3_; have f4_ := f1_.symm; have f5_ := f3_.symm; clear f1_ f2_ f3_; subst f4_; subst f5_))
                                refine hK.out _ _ ⟨(blk_cell BK328.out 0).trans rfl, (blk_cell BK328.out 1).trans rfl, (blk_cell BK328.out 2).trans rfl, (blk_cell BK328.out 3).trans rfl⟩ (fun hHeld => ?_)
                                clear hK K
                                refine norm_ (a' := ?_) ?_ ?_
                                rotate_left
                                · show Act.put _ (some 61) _ = _
                                  simp only [Act.put, List.setIfInBounds_toArray, List.set_cons_zero, List.set_cons_succ, i64_w, i32_w]
                                  rfl
                                refine one_ (i := 3) (N := some 57) #[true, true, true, true, true, true, true, true, false, false, false] rfl rfl (one_of HT_.out (by kernel_rfl)) (by decide) (fun K hK => ?_)
                                refine Kd.R_append_rows_step k28 (w0 := w) w.heap.size (by rfl) (.tmp 54) (.tmp 56) 44 28 (.agg #[(.int .i64 0), (.int .i64 0), (.int .i64 0), (.int .i64 0)]) 32 rfl Try.underlying44 info28 rfl (by decide) (by omega) (.slice Ao43 x5_2.length co43) x5_2 y330 _ _ _ (fun k_ => some k_ ≠ (.slice Ao51 y330.length co51 : Value).ownBlock ∧ k_ ≠ gb328) (fun _ => False) rfl rfl ?aO ?aR (fun _ _ h => h) (fun _ h => h.elim) ?aF ?aB ?aS ?aL ?_
                                (case aR => repeat (first | exact (Kd.R_reads' HO332.out).2.2 | (with_reducible refine Kd.C_alloc ?_ _) | (with_reducible refine Kd.C_drewN ?_ _) | (with_reducible refine Kd.C_drew ?_)))
                                (case aB => exact (by repeat (first | (with_reducible first | exact HB.out | apply below_alloc | apply pw_below_drewN | apply below_drew1 | refine below_set ?_ GE318.out | refine below_set ?_ GE328.out) | exact HB.out)))
                                (case aF => exact (fun k_ hk => ⟨Kd.fresh' (Kd.R_lt (by (with_reducible repeat (first | apply Kd.R_alloc | apply Kd.R_drewN | apply Kd.R_drew)); exact HO332.out)) k_ hk, Kd.freshB (g := gb328) (o := .cells #[.int .i64 t323, .int .i64 t324, .int .i64 t325, .int .i64 t326] 28 (0, 0)) (by (with_reducible repeat (first | refine blk_drewN ?_ _ | refine blk_drew ?_ | refine blk_alloc ?_ _)); exact BK328.out) k_ hk⟩))
                                (case aO => exact (by (with_reducible repeat (first | apply Kd.R_alloc | apply Kd.R_drewN | apply Kd.R_drew)); exact Kd.R_mono HO_5.out (fun _ hk => ⟨hk.2, hk.1⟩)))
                                (case aS => exact (below_size (by repeat (first | (with_reducible first | exact HB.out | apply below_alloc | apply pw_below_drewN | apply below_drew1 | refine below_set ?_ GE318.out | refine below_set ?_ GE328.out) | exact HB.out))))
                                (case aL => have := LMc35.out; omega)
                                intro v334 w50 ho hb hg hat
                                rw [← Ny333.out] at ho
                                have n0_ := Aside0.mk (Kd.R_over' (by (with_reducible repeat (first | apply Kd.R_alloc | apply Kd.R_drewN | apply Kd.R_drew)); exact HO_6.out) (Kd.R_typed (by (with_reducible repeat (first | apply Kd.R_alloc | apply Kd.R_drewN | apply Kd.R_drew)); exact HO_5.out)) (by decide) hg)
                                have n1_ := Aside0.mk (blk_grown (g := gb318) (o := .cells #[.int .i64 a0_0, .int .i64 a0_1, .int .i64 a0_2] 23 (0, 0)) (by (with_reducible repeat (first | refine blk_drewN ?_ _ | refine blk_drew ?_ | refine blk_alloc ?_ _)); exact BK318.out) hg (Kd.R_ne HO_5.out BK318.out (by decide)))
                                have n2_ := Aside0.mk (blk_grown (g := gb328) (o := .cells #[.int .i64 t323, .int .i64 t324, .int .i64 t325, .int .i64 t326] 28 (0, 0)) (by (with_reducible repeat (first | refine blk_drewN ?_ _ | refine blk_drew ?_ | refine blk_alloc ?_ _)); exact BK328.out) hg (Kd.R_away HO_5.out (fun _ hk => hk.1)))
                                have n3_ := Aside0.mk (Kd.R_after (ok := (fun k_ => k_ ≠ gb328)) (by (with_reducible repeat (first | apply Kd.R_alloc | apply Kd.R_drewN | apply Kd.R_drew)); exact Kd.R_mono HO332.out (fun _ hk => ⟨hk.2, hk.1.2⟩)) hg hat)
                                have n4_ := Aside0.mk (Kd.R_over' (by (with_reducible repeat (first | apply Kd.R_alloc | apply Kd.R_drewN | apply Kd.R_drew)); exact HO338.out) (Kd.R_typed (by (with_reducible repeat (first | apply Kd.R_alloc | apply Kd.R_drewN | apply Kd.R_drew)); exact HO_5.out)) (by decide) hg)
                                have n5_ := Aside0.mk (hb)
                                have n6_ := Aside0.mk (ho)
                                clear HO_6
                                clear BK318
                                clear BK328
                                clear HO332
                                clear HO338
                                clear HB
                                clear HO_5
                                have HO_6 := n0_
                                have BK318 := n1_
                                have BK328 := n2_
                                have HO332 := n3_
                                have HO338 := n4_
                                have HB := n5_
                                have HO335 := n6_
                                clear n0_ n1_ n2_ n3_ n4_ n5_ n6_
                                clear ho hb hg hat
                                refine hK.out _ _ ⟨(blk_cell BK328.out 0).trans rfl, (blk_cell BK328.out 1).trans rfl, (blk_cell BK328.out 2).trans rfl, (blk_cell BK328.out 3).trans rfl⟩ (fun hHeld => ?_)
                                clear hK K
                                refine norm_ (a' := ?_) ?_ ?_
                                rotate_left
                                · show Act.put _ (some 57) _ = _
                                  simp only [Act.put, List.setIfInBounds_toArray, List.set_cons_zero, List.set_cons_succ, i64_w, i32_w]
                                  rfl
                                exact norm_ (by simp only [putAll, Act.put, List.setIfInBounds_toArray, List.set_cons_zero, List.set_cons_succ]) (hCont (.slice Ao51 y330.length co51, v334, v337) _ ⟨hHeld, (by (with_reducible repeat (first | apply Kd.R_alloc | apply Kd.R_drewN | apply Kd.R_drew)); exact Kd.R_mono HO332.out (fun _ hk => ⟨hk.2, hk.1⟩)), (by (with_reducible repeat (first | apply Kd.R_alloc | apply Kd.R_drewN | apply Kd.R_drew)); exact HO335.out), (by (with_reducible repeat (first | apply Kd.R_alloc | apply Kd.R_drewN | apply Kd.R_drew)); exact Kd.R_mono HO338.out (fun _ hk => hk.2)), (by (with_reducible repeat (first | apply Kd.R_alloc | apply Kd.R_drewN | apply Kd.R_drew)); exact Kd.R_mono HO_6.out (fun _ hk => hk.2)), (by (with_reducible repeat (first | refine blk_drewN ?_ _ | refine blk_drew ?_ | refine blk_alloc ?_ _)); exact BK318.out), (by (with_reducible repeat (first | refine blk_drewN ?_ _ | refine blk_drew ?_ | refine blk_alloc ?_ _)); exact BK328.out), (by repeat (first | (with_reducible first | exact HB.out | apply below_alloc | apply pw_below_drewN | apply below_drew1 | refine below_set ?_ GE318.out | refine below_set ?_ GE328.out) | exact HB.out))⟩)
                            · skip
                              refine Kd.R_lit_step (Kd.int .i64) _ 3 ?hg (N := 61) ?hd (xs := ([t325] : List Int)) (inner := [.int .i64 t325]) (ok := fun _ => True) (okp := fun _ => True) ?hr ?hp (fun _ hk => hk) trivial (Below.refl _ _) (Nat.le_refl _) (by simp) ?_; (case hd => rfl); (case hg => rfl); (case hr => first | (go_simp; done) | (go_simp; rfl)); (case hp => exact (Reps.one (show Kd.M (Kd.int .i64) _ _ _ t325 [.int .i64 t325] from rfl) (Reps.none _ _)))
                              intro v337 w46 ho47 hb hg_ hnew_
                              clear hg_ hnew_
                              (first | rw [← Ny336.out] at ho47 | (simp only [Int.reduceToNat] at ho47; rw [← Ny336.out] at ho47))
                              have n0_ := Aside0.mk (Kd.R_below (by (with_reducible repeat (first | apply Kd.R_alloc | apply Kd.R_drewN | apply Kd.R_drew)); exact HO_5.out) hb)
                              have n1_ := Aside0.mk (Kd.R_elder' (by (with_reducible repeat (first | apply Kd.R_alloc | apply Kd.R_drewN | apply Kd.R_drew)); exact HO_6.out) (Kd.R_base ho47) hb)
                              have n2_ := Aside0.mk (Kd.R_lower (Kd.R_new' ho47 (Kd.R_lt (by (with_reducible repeat (first | apply Kd.R_alloc | apply Kd.R_drewN | apply Kd.R_drew)); exact HO_6.out))) (below_size (by repeat (first | (with_reducible first | exact HB.out | apply below_alloc | apply pw_below_drewN | apply below_drew1 | refine below_set ?_ GE318.out | refine below_set ?_ GE328.out) | exact HB.out))))
                              have n3_ := Aside0.mk (blk_below (g := gb318) (o := .cells #[.int .i64 a0_0, .int .i64 a0_1, .int .i64 a0_2] 23 (0, 0)) (by (with_reducible repeat (first | refine blk_drewN ?_ _ | refine blk_drew ?_ | refine blk_alloc ?_ _)); exact BK318.out) hb)
                              have n4_ := Aside0.mk (blk_below (g := gb328) (o := .cells #[.int .i64 t323, .int .i64 t324, .int .i64 t325, .int .i64 t326] 28 (0, 0)) (by (with_reducible repeat (first | refine blk_drewN ?_ _ | refine blk_drew ?_ | refine blk_alloc ?_ _)); exact BK328.out) hb)
                              have n5_ := Aside0.mk (below_step (by repeat (first | (with_reducible first | exact HB.out | apply below_alloc | apply pw_below_drewN | apply below_drew1 | refine below_set ?_ GE318.out | refine below_set ?_ GE328.out) | exact HB.out)) hb)
                              clear HO_5
                              clear HO_6
                              clear BK318
                              clear BK328
                              clear HB
                              have HO_5 := n0_
                              have HO_6 := n1_
                              have HO338 := n2_
                              have BK318 := n3_
                              have BK328 := n4_
                              have HB := n5_
                              clear n0_ n1_ n2_ n3_ n4_ n5_
                              clear hb ho47
                              refine hK.out _ _ ⟨(blk_cell BK328.out 0).trans rfl, (blk_cell BK328.out 1).trans rfl, (blk_cell BK328.out 2).trans rfl, (blk_cell BK328.out 3).trans rfl⟩ (fun hHeld => ?_)
                              clear hK K
                              refine norm_ (a' := ?_) ?_ ?_
                              rotate_left
                              · show Act.put _ (some 61) _ = _
                                simp only [Act.put, List.setIfInBounds_toArray, List.set_cons_zero, List.set_cons_succ, i64_w, i32_w]
                                rfl
                              refine one_ (i := 2) (N := some 56) #[true, true, true, false, true, true, true, true, false, false, false] rfl rfl (one_of HT_.out (by kernel_rfl)) (by decide) (fun K hK => ?_)
                              refine Kd.R_lit_step k28 _ 28 ?hg (N := 56) ?hd (xs := ([(⟨t323, t324, t325, t326⟩ : S28)] : List (S28))) (inner := [.int .i64 t323, .int .i64 t324, .int .i64 t325, .int .i64 t326]) (ok := fun _ => True) (okp := fun _ => True) ?hr ?hp (fun _ hk => hk) trivial (Below.refl _ _) (Nat.le_refl _) (by simp) ?_; (case hd => rfl); (case hg => rfl); (case hr => first | (go_simp; done) | (go_simp; rfl)); (case hp => exact (Reps.c4 (show Kd.M k28 _ _ _ (⟨t323, t324, t325, t326⟩ : S28) [.int .i64 t323, .int .i64 t324, .int .i64 t325, .int .i64 t326] from (k28_mkM _ _ _ (⟨t323, t324, t325, t326⟩ : S28) )) (Reps.none _ _)))
                              intro v331 w48 ho49 hb hg_ hnew_
                              clear hg_ hnew_
                              (first | rw [← Ny330.out] at ho49 | (simp only [Int.reduceToNat] at ho49; rw [← Ny330.out] at ho49))
                              have n0_ := Aside0.mk (Kd.R_elder' (by (with_reducible repeat (first | apply Kd.R_alloc | apply Kd.R_drewN | apply Kd.R_drew)); exact HO_5.out) (Kd.R_base ho49) hb)
                              have n1_ := Aside0.mk (Kd.R_below (by (with_reducible repeat (first | apply Kd.R_alloc | apply Kd.R_drewN | apply Kd.R_drew)); exact HO_6.out) hb)
                              have n2_ := Aside0.mk (Kd.R_below (by (with_reducible repeat (first | apply Kd.R_alloc | apply Kd.R_drewN | apply Kd.R_drew)); exact HO338.out) hb)
                              have n3_ := Aside0.mk (Kd.R_lower (Kd.R_newB (Kd.R_new' ho49 (Kd.R_lt (by (with_reducible repeat (first | apply Kd.R_alloc | apply Kd.R_drewN | apply Kd.R_drew)); exact HO_5.out))) (g := gb328) (o := .cells #[.int .i64 t323, .int .i64 t324, .int .i64 t325, .int .i64 t326] 28 (0, 0)) (by (with_reducible repeat (first | refine blk_drewN ?_ _ | refine blk_drew ?_ | refine blk_alloc ?_ _)); exact BK328.out)) (below_size (by repeat (first | (with_reducible first | exact HB.out | apply below_alloc | apply pw_below_drewN | apply below_drew1 | refine below_set ?_ GE318.out | refine below_set ?_ GE328.out) | exact HB.out))))
                              have n4_ := Aside0.mk (blk_below (g := gb318) (o := .cells #[.int .i64 a0_0, .int .i64 a0_1, .int .i64 a0_2] 23 (0, 0)) (by (with_reducible repeat (first | refine blk_drewN ?_ _ | refine blk_drew ?_ | refine blk_alloc ?_ _)); exact BK318.out) hb)
                              have n5_ := Aside0.mk (blk_below (g := gb328) (o := .cells #[.int .i64 t323, .int .i64 t324, .int .i64 t325, .int .i64 t326] 28 (0, 0)) (by (with_reducible repeat (first | refine blk_drewN ?_ _ | refine blk_drew ?_ | refine blk_alloc ?_ _)); exact BK328.out) hb)
                              have n6_ := Aside0.mk (below_step (by repeat (first | (with_reducible first | exact HB.out | apply below_alloc | apply pw_below_drewN | apply below_drew1 | refine below_set ?_ GE318.out | refine below_set ?_ GE328.out) | exact HB.out)) hb)
                              clear HO_5
                              clear HO_6
                              clear HO338
                              clear BK318
                              clear BK328
                              clear HB
                              have HO_5 := n0_
                              have HO_6 := n1_
                              have HO338 := n2_
                              have HO332 := n3_
                              have BK318 := n4_
                              have BK328 := n5_
                              have HB := n6_
                              clear n0_ n1_ n2_ n3_ n4_ n5_ n6_
                              clear hb ho49
                              obtain ⟨Ao51, co51, eo51⟩ := Kd.R_slice HO332.out
                              (first | subst eo51 | (injection eo51 with f1_ f2_ f3_; have f4_ := f1_.symm; have f5_ := f3_.symm; clear f1_ f2_ f3_; subst f4_; subst f5_))
                              refine hK.out _ _ ⟨(blk_cell BK328.out 0).trans rfl, (blk_cell BK328.out 1).trans rfl, (blk_cell BK328.out 2).trans rfl, (blk_cell BK328.out 3).trans rfl⟩ (fun hHeld => ?_)
                              clear hK K
                              refine norm_ (a' := ?_) ?_ ?_
                              rotate_left
                              · show Act.put _ (some 56) _ = _
                                simp only [Act.put, List.setIfInBounds_toArray, List.set_cons_zero, List.set_cons_succ, i64_w, i32_w]
                                rfl
                              refine one_ (i := 3) (N := some 57) #[true, true, true, true, true, true, true, true, false, false, false] rfl rfl (one_of HT_.out (by kernel_rfl)) (by decide) (fun K hK => ?_)
                              refine Kd.R_append_rows_step k28 (w0 := w) w.heap.size (by rfl) (.tmp 54) (.tmp 56) 44 28 (.agg #[(.int .i64 0), (.int .i64 0), (.int .i64 0), (.int .i64 0)]) 32 rfl Try.underlying44 info28 rfl (by decide) (by omega) (.slice Ao43 x5_2.length co43) x5_2 y330 _ _ _ (fun k_ => some k_ ≠ (.slice Ao51 y330.length co51 : Value).ownBlock ∧ k_ ≠ gb328) (fun _ => False) rfl rfl ?aO ?aR (fun _ _ h => h) (fun _ h => h.elim) ?aF ?aB ?aS ?aL ?_
                              (case aR => repeat (first | exact (Kd.R_reads' HO332.out).2.2 | (with_reducible refine Kd.C_alloc ?_ _) | (with_reducible refine Kd.C_drewN ?_ _) | (with_reducible refine Kd.C_drew ?_)))
                              (case aB => exact (by repeat (first | (with_reducible first | exact HB.out | apply below_alloc | apply pw_below_drewN | apply below_drew1 | refine below_set ?_ GE318.out | refine below_set ?_ GE328.out) | exact HB.out)))
                              (case aF => exact (fun k_ hk => ⟨Kd.fresh' (Kd.R_lt (by (with_reducible repeat (first | apply Kd.R_alloc | apply Kd.R_drewN | apply Kd.R_drew)); exact HO332.out)) k_ hk, Kd.freshB (g := gb328) (o := .cells #[.int .i64 t323, .int .i64 t324, .int .i64 t325, .int .i64 t326] 28 (0, 0)) (by (with_reducible repeat (first | refine blk_drewN ?_ _ | refine blk_drew ?_ | refine blk_alloc ?_ _)); exact BK328.out) k_ hk⟩))
                              (case aO => exact (by (with_reducible repeat (first | apply Kd.R_alloc | apply Kd.R_drewN | apply Kd.R_drew)); exact Kd.R_mono HO_5.out (fun _ hk => ⟨hk.2, hk.1⟩)))
                              (case aS => exact (below_size (by repeat (first | (with_reducible first | exact HB.out | apply below_alloc | apply pw_below_drewN | apply below_drew1 | refine below_set ?_ GE318.out | refine below_set ?_ GE328.out) | exact HB.out))))
                              (case aL => have := LMc35.out; omega)
                              intro v334 w50 ho hb hg hat
                              rw [← Ny333.out] at ho
                              have n0_ := Aside0.mk (Kd.R_over' (by (with_reducible repeat (first | apply Kd.R_alloc | apply Kd.R_drewN | apply Kd.R_drew)); exact HO_6.out) (Kd.R_typed (by (with_reducible repeat (first | apply Kd.R_alloc | apply Kd.R_drewN | apply Kd.R_drew)); exact HO_5.out)) (by decide) hg)
                              have n1_ := Aside0.mk (blk_grown (g := gb318) (o := .cells #[.int .i64 a0_0, .int .i64 a0_1, .int .i64 a0_2] 23 (0, 0)) (by (with_reducible repeat (first | refine blk_drewN ?_ _ | refine blk_drew ?_ | refine blk_alloc ?_ _)); exact BK318.out) hg (Kd.R_ne HO_5.out BK318.out (by decide)))
                              have n2_ := Aside0.mk (blk_grown (g := gb328) (o := .cells #[.int .i64 t323, .int .i64 t324, .int .i64 t325, .int .i64 t326] 28 (0, 0)) (by (with_reducible repeat (first | refine blk_drewN ?_ _ | refine blk_drew ?_ | refine blk_alloc ?_ _)); exact BK328.out) hg (Kd.R_away HO_5.out (fun _ hk => hk.1)))
                              have n3_ := Aside0.mk (Kd.R_over' (by (with_reducible repeat (first | apply Kd.R_alloc | apply Kd.R_drewN | apply Kd.R_drew)); exact HO338.out) (Kd.R_typed (by (with_reducible repeat (first | apply Kd.R_alloc | apply Kd.R_drewN | apply Kd.R_drew)); exact HO_5.out)) (by decide) hg)
                              have n4_ := Aside0.mk (Kd.R_after (ok := (fun k_ => k_ ≠ gb328)) (by (with_reducible repeat (first | apply Kd.R_alloc | apply Kd.R_drewN | apply Kd.R_drew)); exact Kd.R_mono HO332.out (fun _ hk => ⟨hk.2, hk.1.2⟩)) hg hat)
                              have n5_ := Aside0.mk (hb)
                              have n6_ := Aside0.mk (ho)
                              clear HO_6
                              clear BK318
                              clear BK328
                              clear HO338
                              clear HO332
                              clear HB
                              clear HO_5
                              have HO_6 := n0_
                              have BK318 := n1_
                              have BK328 := n2_
                              have HO338 := n3_
                              have HO332 := n4_
                              have HB := n5_
                              have HO335 := n6_
                              clear n0_ n1_ n2_ n3_ n4_ n5_ n6_
                              clear ho hb hg hat
                              refine hK.out _ _ ⟨(blk_cell BK328.out 0).trans rfl, (blk_cell BK328.out 1).trans rfl, (blk_cell BK328.out 2).trans rfl, (blk_cell BK328.out 3).trans rfl⟩ (fun hHeld => ?_)
                              clear hK K
                              refine norm_ (a' := ?_) ?_ ?_
                              rotate_left
                              · show Act.put _ (some 57) _ = _
                                simp only [Act.put, List.setIfInBounds_toArray, List.set_cons_zero, List.set_cons_succ, i64_w, i32_w]
                                rfl
                              exact norm_ (by simp only [putAll, Act.put, List.setIfInBounds_toArray, List.set_cons_zero, List.set_cons_succ]) (hCont (.slice Ao51 y330.length co51, v334, v337) _ ⟨hHeld, (by (with_reducible repeat (first | apply Kd.R_alloc | apply Kd.R_drewN | apply Kd.R_drew)); exact Kd.R_mono HO332.out (fun _ hk => ⟨hk.2, hk.1⟩)), (by (with_reducible repeat (first | apply Kd.R_alloc | apply Kd.R_drewN | apply Kd.R_drew)); exact HO335.out), (by (with_reducible repeat (first | apply Kd.R_alloc | apply Kd.R_drewN | apply Kd.R_drew)); exact Kd.R_mono HO338.out (fun _ hk => hk.2)), (by (with_reducible repeat (first | apply Kd.R_alloc | apply Kd.R_drewN | apply Kd.R_drew)); exact Kd.R_mono HO_6.out (fun _ hk => hk.2)), (by (with_reducible repeat (first | refine blk_drewN ?_ _ | refine blk_drew ?_ | refine blk_alloc ?_ _)); exact BK318.out), (by (with_reducible repeat (first | refine blk_drewN ?_ _ | refine blk_drew ?_ | refine blk_alloc ?_ _)); exact BK328.out), (by repeat (first | (with_reducible first | exact HB.out | apply below_alloc | apply pw_below_drewN | apply below_drew1 | refine below_set ?_ GE318.out | refine below_set ?_ GE328.out) | exact HB.out))⟩)
                          rintro ⟨v331, v334, v337⟩ w52 ⟨hS_, h0_, h1_, h2_, h3_, h4_, h5_, h6_⟩
                          have n0_ : Aside0 (Kd.R k28 28 w52 w.heap.size (fun k_ => some k_ ≠ (v334 : Value).ownBlock ∧ k_ ≠ gb328) v331 y330) := ⟨h0_⟩
                          have n1_ : Aside0 (Kd.R k28 28 w52 w.heap.size (fun k_ => some k_ ≠ (v331 : Value).ownBlock ∧ k_ ≠ gb328) v334 y333) := ⟨h1_⟩
                          have n2_ : Aside0 (Kd.R (Kd.int .i64) 3 w52 w.heap.size (fun k_ => some k_ ≠ (.slice Ao42 x6_2.length co42 : Value).ownBlock) v337 y336) := ⟨h2_⟩
                          have n3_ : Aside0 (Kd.R (Kd.int .i64) 3 w52 w.heap.size (fun k_ => some k_ ≠ (v337 : Value).ownBlock) (.slice Ao42 x6_2.length co42) x6_2) := ⟨h3_⟩
                          have n4_ : Aside0 (w52.heap[gb318]? = some (.cells #[.int .i64 a0_0, .int .i64 a0_1, .int .i64 a0_2] 23 (0, 0))) := ⟨h4_⟩
                          have n5_ : Aside0 (w52.heap[gb328]? = some (.cells #[.int .i64 t323, .int .i64 t324, .int .i64 t325, .int .i64 t326] 28 (0, 0))) := ⟨h5_⟩
                          have n6_ : Aside0 (Below w.heap.size w w52) := ⟨h6_⟩
                          clear HO_5
                          clear HO_6
                          clear BK318
                          clear BK328
                          clear HB
                          clear h0_ h1_ h2_ h3_ h4_ h5_ h6_
                          have HO332 := n0_
                          have HO335 := n1_
                          have HO338 := n2_
                          have HO_6 := n3_
                          have BK318 := n4_
                          have BK328 := n5_
                          have HB := n6_
                          clear n0_ n1_ n2_ n3_ n4_ n5_ n6_
                          have hHeld : w52.cell? ⟨gb328, 0, none⟩ = some (.int .i64 t323) ∧ w52.cell? ⟨gb328, 1, none⟩ = some (.int .i64 t324) ∧ w52.cell? ⟨gb328, 2, none⟩ = some (.int .i64 t325) ∧ w52.cell? ⟨gb328, 3, none⟩ = some (.int .i64 t326) := hS_
                          obtain ⟨Ao54, co54, eo54⟩ := Kd.R_slice HO338.out
                          (first | subst eo54 | (injection eo54 with f1_ f2_ f3_; have f4_ := f1_.symm; have f5_ := f3_.symm; clear f1_ f2_ f3_; subst f4_; subst f5_))
                          refine norm_ (a' := ?_) ?_ ?_
                          rotate_left
                          · simp only [putAll, Act.put, List.setIfInBounds_toArray, List.set_cons_zero, List.set_cons_succ]
                            rfl
                          refine one_ (i := 8) (N := some 62) #[true, true, true, true, true, true, true, true, true, false, false] rfl rfl (one_of HT_.out (by kernel_rfl)) (by decide) (fun K hK => ?_)
                          refine Kd.R_append_rows_step (Kd.int .i64) (w0 := w) w.heap.size (by rfl) (.tmp 58) (.tmp 61) 45 3 (.int .i64 0) 8 rfl Try.underlying45 info3 rfl (by decide) (by omega) (.slice Ao42 x6_2.length co42) x6_2 y336 _ _ _ (fun k_ => some k_ ≠ (.slice Ao54 y336.length co54 : Value).ownBlock) (fun _ => False) rfl rfl ?aO ?aR (fun _ _ h => h) (fun _ h => h.elim) ?aF ?aB ?aS ?aL ?_
                          (case aR => repeat (first | exact (Kd.R_reads' HO338.out).2.2 | (with_reducible refine Kd.C_alloc ?_ _) | (with_reducible refine Kd.C_drewN ?_ _) | (with_reducible refine Kd.C_drew ?_)))
                          (case aB => exact (by repeat (first | (with_reducible first | exact HB.out | apply below_alloc | apply pw_below_drewN | apply below_drew1 | refine below_set ?_ GE318.out | refine below_set ?_ GE328.out) | exact HB.out)))
                          (case aF => exact (fun k_ hk => Kd.fresh' (Kd.R_lt (by (with_reducible repeat (first | apply Kd.R_alloc | apply Kd.R_drewN | apply Kd.R_drew)); exact HO338.out)) k_ hk))
                          (case aO => exact (by (with_reducible repeat (first | apply Kd.R_alloc | apply Kd.R_drewN | apply Kd.R_drew)); exact HO_6.out))
                          (case aS => exact (below_size (by repeat (first | (with_reducible first | exact HB.out | apply below_alloc | apply pw_below_drewN | apply below_drew1 | refine below_set ?_ GE318.out | refine below_set ?_ GE328.out) | exact HB.out))))
                          (case aL => have := LMc36.out; omega)
                          intro v340 w53 ho hb hg hat
                          rw [← Ny339.out] at ho
                          have n0_ := Aside0.mk (blk_grown (g := gb318) (o := .cells #[.int .i64 a0_0, .int .i64 a0_1, .int .i64 a0_2] 23 (0, 0)) (by (with_reducible repeat (first | refine blk_drewN ?_ _ | refine blk_drew ?_ | refine blk_alloc ?_ _)); exact BK318.out) hg (Kd.R_ne HO_6.out BK318.out (by decide)))
                          have n1_ := Aside0.mk (blk_grown (g := gb328) (o := .cells #[.int .i64 t323, .int .i64 t324, .int .i64 t325, .int .i64 t326] 28 (0, 0)) (by (with_reducible repeat (first | refine blk_drewN ?_ _ | refine blk_drew ?_ | refine blk_alloc ?_ _)); exact BK328.out) hg (Kd.R_ne HO_6.out BK328.out (by decide)))
                          have n2_ := Aside0.mk (Kd.R_over' (by (with_reducible repeat (first | apply Kd.R_alloc | apply Kd.R_drewN | apply Kd.R_drew)); exact HO332.out) (Kd.R_typed (by (with_reducible repeat (first | apply Kd.R_alloc | apply Kd.R_drewN | apply Kd.R_drew)); exact HO_6.out)) (by decide) hg)
                          have n3_ := Aside0.mk (Kd.R_over' (by (with_reducible repeat (first | apply Kd.R_alloc | apply Kd.R_drewN | apply Kd.R_drew)); exact HO335.out) (Kd.R_typed (by (with_reducible repeat (first | apply Kd.R_alloc | apply Kd.R_drewN | apply Kd.R_drew)); exact HO_6.out)) (by decide) hg)
                          have n4_ := Aside0.mk (Kd.R_after (ok := (fun _ => True)) (by (with_reducible repeat (first | apply Kd.R_alloc | apply Kd.R_drewN | apply Kd.R_drew)); exact Kd.R_mono HO338.out (fun _ hk => ⟨trivial, hk⟩)) hg hat)
                          have n5_ := Aside0.mk (hb)
                          have n6_ := Aside0.mk (ho)
                          clear BK318
                          clear BK328
                          clear HO332
                          clear HO335
                          clear HO338
                          clear HB
                          clear HO_6
                          have BK318 := n0_
                          have BK328 := n1_
                          have HO332 := n2_
                          have HO335 := n3_
                          have HO338 := n4_
                          have HB := n5_
                          have HO341 := n6_
                          clear n0_ n1_ n2_ n3_ n4_ n5_ n6_
                          clear ho hb hg hat
                          refine hK.out _ _ ⟨(blk_cell BK328.out 0).trans rfl, (blk_cell BK328.out 1).trans rfl, (blk_cell BK328.out 2).trans rfl, (blk_cell BK328.out 3).trans rfl⟩ (fun hHeld => ?_)
                          clear hK K
                          refine norm_ (a' := ?_) ?_ ?_
                          rotate_left
                          · show Act.put _ (some 62) _ = _
                            simp only [Act.put, List.setIfInBounds_toArray, List.set_cons_zero, List.set_cons_succ, i64_w, i32_w]
                            rfl
                          refine pure_ (i := 9) (N := some 5) (v := ?_) (a' := ?_) #[true, true, true, true, true, true, true, true, true, true, false] rfl rfl (any_of HT_.out (by kernel_rfl)) (fun _ _ _ h => h) (Or.inl ⟨by rfl, ?_⟩) ?_ ?_
                          rotate_left
                          · intro w'
                            go_simp
                            with_reducible rfl
                          rotate_left
                          · simp only [Act.put, List.setIfInBounds_toArray, List.set_cons_zero, List.set_cons_succ, i64_w, i32_w]
                            rfl
                          refine pure_ (i := 10) (N := some 6) (v := ?_) (a' := ?_) #[true, true, true, true, true, true, true, true, true, true, true] rfl rfl (any_of HT_.out (by kernel_rfl)) (fun _ _ _ h => h) (Or.inl ⟨by rfl, ?_⟩) ?_ ?_
                          rotate_left
                          · intro w'
                            go_simp
                            with_reducible rfl
                          rotate_left
                          · simp only [Act.put, List.setIfInBounds_toArray, List.set_cons_zero, List.set_cons_succ, i64_w, i32_w]
                            rfl
                          refine done_ (done_of HT_.out (by kernel_rfl)) ?_
                          try go_wp2
                          go_roundg k2
                          case measure => have := HJ2.out; have := HK2.out; omega
                          case rel => exact ⟨(y333), (y339), (wrap64 (x38_2 + 1)), (by first | rfl | (simp; done) | (simp [*]; done)), H', ⟨by have := HJ2.out; have := HK2.out; omega⟩, ⟨by (with_reducible repeat (first | apply Kd.R_alloc | apply Kd.R_drewN | apply Kd.R_drew)); exact Kd.R_mono HO335.out (fun _ hk => trivial)⟩, ⟨by (with_reducible repeat (first | apply Kd.R_alloc | apply Kd.R_drewN | apply Kd.R_drew)); exact Kd.R_mono HO341.out (fun _ hk => trivial)⟩, ⟨by (with_reducible repeat (first | refine blk_drewN ?_ _ | refine blk_drew ?_ | refine blk_alloc ?_ _)); exact BK318.out⟩, ⟨by repeat (first | (with_reducible first | exact HB.out | apply below_alloc | apply pw_below_drewN | apply below_drew1 | refine below_set ?_ GE318.out | refine below_set ?_ GE328.out) | exact HB.out)⟩⟩
                        · rw [if_neg c36] at H
                          exact absurd H (by simp)
                      · rw [if_neg c35] at H
                        exact absurd H (by simp)
                  · rw [if_neg c26] at H
                    have c26b0 : (t327 == 0) = false := beq_eq_false_iff_ne.mpr c26
                    have c26b1 : (t327 != 0) = true := bne_iff_ne.mpr c26
                    exact absurd (H.trans (congrArg some HRT.out)) (by simp)
                · rw [if_neg c24] at H
                  exact absurd H (by simp)
              · rw [if_neg c23] at H
                exact absurd H (by simp)
            · rw [if_neg c22] at H
              have c22b0 : decide (x38_2 < (l1.length : Int)) = false := decide_eq_false c22
              clear c22
              have H' := Aside0.mk H
              clear H
              have hcz55_0 : wr.cell? ⟨gb318, 0, none⟩ = some (.int .i64 a0_0) := (blk_cell BK318.out 0).trans rfl
              have hcz55_1 : wr.cell? ⟨gb318, 1, none⟩ = some (.int .i64 a0_1) := (blk_cell BK318.out 1).trans rfl
              have hcz55_2 : wr.cell? ⟨gb318, 2, none⟩ = some (.int .i64 a0_2) := (blk_cell BK318.out 2).trans rfl
              have hfz55_0 := blk_frozen BK318.out 0
              have hfz55_1 := blk_frozen BK318.out 1
              have hfz55_2 := blk_frozen BK318.out 2
              go_wp2
              go_loopg [11, 66] k2 (fun kq v11 v66 w' => ∃ (x5_3 : List (S28)) (x11_3 : Int) (x66_3 : Int), v11 = .int .i64 x11_3 ∧ v66 = .int .i64 x66_3 ∧ Aside0 (hopmeshlaw47_GossipPolite.l1 kq x5_3 x11_3 a0_0 x66_3 a0_0 a0_1 a0_2 = some r) ∧ Aside0 (kq ≤ k2) ∧ Aside0 (Kd.R k28 28 w' w.heap.size (fun _ => True) u5 x5_3) ∧ Aside0 (w'.heap[gb318]? = some (.cells #[.int .i64 a0_0, .int .i64 a0_1, .int .i64 a0_2] 23 (0, 0))) ∧ Aside0 (Below w.heap.size w w'))
              case atStart => exact ⟨(x5_2), (0), (0), (by first | rfl | (simp; done) | (simp [*]; done)), (by first | rfl | (simp; done) | (simp [*]; done)), H', ⟨Nat.le_refl _⟩, ⟨by (with_reducible repeat (first | apply Kd.R_alloc | apply Kd.R_drewN | apply Kd.R_drew)); exact HO_5.out⟩, ⟨by (with_reducible repeat (first | refine blk_drewN ?_ _ | refine blk_drew ?_ | refine blk_alloc ?_ _)); exact BK318.out⟩, ⟨by repeat (first | (with_reducible first | exact HB.out | apply below_alloc | apply pw_below_drewN | apply below_drew1 | refine below_set ?_ GE318.out) | exact HB.out)⟩⟩
              case round =>
                clear H'
                try clear c1
                try clear c2
                try clear p2
                try clear c3
                try clear p3
                try clear q3
                try clear hx3
                try clear c4
                try clear p6
                try clear c10
                try clear c19
                try clear c22
                try clear c22b0
                try clear c23
                try clear c23b0
                try clear c24
                try clear c24b0
                try clear c26
                try clear c26b0
                try clear c26b1
                try clear c28
                try clear c32
                try clear p32
                try clear q32
                try clear hx32
                try clear c35
                try clear c36
                try clear c40
                try clear hcz29_0
                try clear hcz29_1
                try clear hcz29_2
                try clear hcz33_0
                try clear hcz33_1
                try clear hcz33_2
                try clear hcz33_3
                try clear hcz37_0
                try clear hcz37_1
                try clear hcz37_2
                try clear hcz41_0
                try clear hcz41_1
                try clear hcz41_2
                try clear hcz41_3
                try clear hcz55_0
                try clear hcz55_1
                try clear hcz55_2
                try clear hfz12_2
                try clear hfz14_0
                try clear hfz14_1
                try clear hfz14_2
                try clear hfz16_0
                try clear hfz16_1
                try clear hfz16_2
                try clear hfz29_0
                try clear hfz29_1
                try clear hfz29_2
                try clear hfz33_0
                try clear hfz33_1
                try clear hfz33_2
                try clear hfz33_3
                try clear hfz37_0
                try clear hfz37_1
                try clear hfz37_2
                try clear hfz41_0
                try clear hfz41_1
                try clear hfz41_2
                try clear hfz41_3
                try clear hfz55_0
                try clear hfz55_1
                try clear hfz55_2
                try clear hx322_0
                try clear p2
                try clear p322
                try clear q322
                obtain ⟨x5_3, x11_3, x66_3, rfl, rfl, HA, HK3, HO_5, BK318, HB⟩ := hrel
                cases gk with
                | zero => exact absurd HA.out (by simp [hopmeshlaw47_GossipPolite.l1])
                | succ k3 =>
                  have H := HA.out
                  clear HA
                  simp only [hopmeshlaw47_GossipPolite.l1] at H
                  by_cases c56 : x66_3 < a0_0
                  · rw [if_pos c56] at H
                    have c56b0 : decide (x66_3 < a0_0) = true := decide_eq_true c56
                    clear c56
                    have H' := Aside0.mk H
                    clear H
                    obtain ⟨Ao57, co57, eo57⟩ := Kd.R_slice HO_5.out
                    subst eo57
                    go_wp2
                    go_loopg [11, 71] k3 (fun kq v11 v71 w' => ∃ (x5_4 : List (S28)) (x11_4 : Int) (x71_4 : Int), v11 = .int .i64 x11_4 ∧ v71 = .int .i64 x71_4 ∧ Aside0 (hopmeshlaw47_GossipPolite.l2 kq x5_4 x11_4 x66_3 a0_0 x66_3 (x5_3.length : Int) x71_4 a0_0 a0_1 a0_2 = some r) ∧ Aside0 (kq ≤ k3) ∧ Aside0 (Kd.R k28 28 w' w.heap.size (fun _ => True) (.slice Ao57 x5_3.length co57) x5_4) ∧ Aside0 (w'.heap[gb318]? = some (.cells #[.int .i64 a0_0, .int .i64 a0_1, .int .i64 a0_2] 23 (0, 0))) ∧ Aside0 (Below w.heap.size w w'))
                    case atStart => exact ⟨(x5_3), (x11_3), (0), (by first | rfl | (simp; done) | (simp [*]; done)), (by first | rfl | (simp; done) | (simp [*]; done)), H', ⟨Nat.le_refl _⟩, ⟨by (with_reducible repeat (first | apply Kd.R_alloc | apply Kd.R_drewN | apply Kd.R_drew)); exact HO_5.out⟩, ⟨by (with_reducible repeat (first | refine blk_drewN ?_ _ | refine blk_drew ?_ | refine blk_alloc ?_ _)); exact BK318.out⟩, ⟨by repeat (first | (with_reducible first | exact HB.out | apply below_alloc | apply pw_below_drewN | apply below_drew1 | refine below_set ?_ GE318.out) | exact HB.out)⟩⟩
                    case round =>
                      clear H'
                      try clear c1
                      try clear c2
                      try clear p2
                      try clear c3
                      try clear p3
                      try clear q3
                      try clear hx3
                      try clear c4
                      try clear c5
                      try clear p6
                      try clear c10
                      try clear c19
                      try clear c22
                      try clear c22b0
                      try clear c23
                      try clear c23b0
                      try clear c24
                      try clear c24b0
                      try clear c26
                      try clear c26b0
                      try clear c26b1
                      try clear c28
                      try clear c32
                      try clear p32
                      try clear q32
                      try clear hx32
                      try clear c35
                      try clear c36
                      try clear c40
                      try clear c56
                      try clear c56b0
                      try clear hcz29_0
                      try clear hcz29_1
                      try clear hcz29_2
                      try clear hcz33_0
                      try clear hcz33_1
                      try clear hcz33_2
                      try clear hcz33_3
                      try clear hcz37_0
                      try clear hcz37_1
                      try clear hcz37_2
                      try clear hcz41_0
                      try clear hcz41_1
                      try clear hcz41_2
                      try clear hcz41_3
                      try clear hcz55_0
                      try clear hcz55_1
                      try clear hcz55_2
                      try clear hfz12_2
                      try clear hfz14_0
                      try clear hfz14_1
                      try clear hfz14_2
                      try clear hfz16_0
                      try clear hfz16_1
                      try clear hfz16_2
                      try clear hfz29_0
                      try clear hfz29_1
                      try clear hfz29_2
                      try clear hfz33_0
                      try clear hfz33_1
                      try clear hfz33_2
                      try clear hfz33_3
                      try clear hfz37_0
                      try clear hfz37_1
                      try clear hfz37_2
                      try clear hfz41_0
                      try clear hfz41_1
                      try clear hfz41_2
                      try clear hfz41_3
                      try clear hfz55_0
                      try clear hfz55_1
                      try clear hfz55_2
                      try clear hx322_0
                      try clear p2
                      try clear p3
                      try clear p32
                      try clear p322
                      try clear p6
                      try clear q3
                      try clear q32
                      try clear q322
                      obtain ⟨x5_4, x11_4, x71_4, rfl, rfl, HA, HK4, HO_5, BK318, HB⟩ := hrel
                      have hl5_4 := (Kd.R_reads' HO_5.out).1
                      rw [hl5_4] at HO_5
                      (try simp only [hl5_4])
                      (try simp only [hl5_4] at BK318)
                      cases gk with
                      | zero => exact absurd HA.out (by simp [hopmeshlaw47_GossipPolite.l2])
                      | succ k4 =>
                        have H := HA.out
                        clear HA
                        simp only [hopmeshlaw47_GossipPolite.l2] at H
                        by_cases c58 : x71_4 < (x5_3.length : Int)
                        · rw [if_pos c58] at H
                          have c58b0 : decide (x71_4 < (x5_3.length : Int)) = true := decide_eq_true c58
                          clear c58
                          (try (have c58h0 := c58b0; simp only [hl5_4] at c58h0))
                          by_cases c59 : 0 ≤ x71_4
                          · rw [if_pos c59] at H
                            have c59b0 : decide (0 ≤ x71_4) = true := decide_eq_true c59
                            clear c59
                            by_cases c60 : x71_4 < (x5_4.length : Int)
                            · rw [if_pos c60] at H
                              have c60b0 : decide (x71_4 < (x5_4.length : Int)) = true := decide_eq_true c60
                              clear c60
                              (try (have c60h0 := c60b0; simp only [hl5_4] at c60h0))
                              replace H := Option.bind_eq_some_iff.mp H
                              obtain ⟨⟨t343, t344, t345, t346, t347, t348⟩, A610, H⟩ := H
                              replace H : (if t348 = 0 then ((some (x5_4.set (x71_4 : Int).toNat (⟨t343, t344, t345, t346⟩ : S28) : List (S28))).bind fun y350 => (if t347 = true then (hopmeshlaw47_GossipPolite.l3 k4 y350 (wrap64 (x11_4 + 1)) x66_3 x71_4 a0_0 x66_3 (x5_3.length : Int) x71_4 (x5_4.length : Int) 0 a0_0 a0_1 a0_2) else (hopmeshlaw47_GossipPolite.l2 k4 y350 x11_4 x66_3 a0_0 x66_3 (x5_3.length : Int) (wrap64 (x71_4 + 1)) a0_0 a0_1 a0_2))) else (some false)) = some r := H
                              have A61 := Aside0.mk A610
                              clear A610
                              by_cases c62 : t348 = 0
                              · rw [if_pos c62] at H
                                have c62b0 : (t348 == 0) = true := beq_iff_eq.mpr c62
                                have c62b1 : (t348 != 0) = false := bne_eq_false_iff_eq.mpr c62
                                clear c62
                                obtain ⟨y350, hy350⟩ : ∃ y_ : List (S28), y_ = (x5_4.set (x71_4 : Int).toNat (⟨t343, t344, t345, t346⟩ : S28)) := ⟨_, rfl⟩
                                replace H : (if t347 = true then (hopmeshlaw47_GossipPolite.l3 k4 y350 (wrap64 (x11_4 + 1)) x66_3 x71_4 a0_0 x66_3 (x5_3.length : Int) x71_4 (x5_4.length : Int) 0 a0_0 a0_1 a0_2) else (hopmeshlaw47_GossipPolite.l2 k4 y350 x11_4 x66_3 a0_0 x66_3 (x5_3.length : Int) (wrap64 (x71_4 + 1)) a0_0 a0_1 a0_2)) = some r := by first | (rw [hy350]; with_reducible exact H) | (have H2_ := (Option.bind_some _ _).symm.trans H; rw [hy350]; with_reducible exact H2_) | (have H2_ := (Option.bind_some _ _).symm.trans H; with_reducible exact H2_) | with_reducible exact H | (rw [hy350]; exact H) | exact H
                                have Ny350 := Aside0.mk hy350
                                clear hy350
                                by_cases c64 : t347 = true
                                · subst c64
                                  have H1 : (hopmeshlaw47_GossipPolite.l3 k4 y350 (wrap64 (x11_4 + 1)) x66_3 x71_4 a0_0 x66_3 (x5_3.length : Int) x71_4 (x5_4.length : Int) 0 a0_0 a0_1 a0_2) = some r := by rw [if_pos rfl] at H; exact H
                                  clear H
                                  have H := H1
                                  clear H1
                                  have H' := Aside0.mk H
                                  clear H
                                  try go_wp2
                                  have n0_ := Aside0.mk (Kd.R_drew HO_5.out)
                                  have n1_ := Aside0.mk (blk_drew BK318.out)
                                  have n2_ := Aside0.mk (below_drew1 HB.out)
                                  clear HO_5
                                  clear BK318
                                  clear HB
                                  have HO_5 := n0_
                                  have BK318 := n1_
                                  have HB := n2_
                                  clear n0_ n1_ n2_
                                  have p342 : 0 ≤ (x71_4 : Int) := of_decide_eq_true (by first | (with_reducible assumption) | assumption)
                                  have q342 : x71_4 < (x5_4.length : Int) := of_decide_eq_true (by first | (with_reducible assumption) | assumption)
                                  obtain ⟨ad342, e342, hx342_0, hx342_1, hx342_2, hx342_3⟩ := at_T28 (Kd.R_reads' HO_5.out).2.2 x71_4 p342 q342
                                  cases e342
                                  replace p342 := eq_true p342
                                  replace q342 := eq_true q342
                                  refine start_ (n := 15) (S := fun w' => w'.cell? ⟨gb318, 0, none⟩ = some (.int .i64 a0_0) ∧ w'.cell? ⟨gb318, 1, none⟩ = some (.int .i64 a0_1) ∧ w'.cell? ⟨gb318, 2, none⟩ = some (.int .i64 a0_2) ∧ w'.cell? (ad342.add ((x71_4).toNat * 4)) = some (.int .i64 ((rd_T28 x5_4 x71_4).f0)) ∧ w'.cell? ⟨(ad342.add ((x71_4).toNat * 4)).block, (ad342.add ((x71_4).toNat * 4)).off + 1, none⟩ = some (.int .i64 ((rd_T28 x5_4 x71_4).f1)) ∧ w'.cell? ⟨(ad342.add ((x71_4).toNat * 4)).block, (ad342.add ((x71_4).toNat * 4)).off + 2, none⟩ = some (.int .i64 ((rd_T28 x5_4 x71_4).f2)) ∧ w'.cell? ⟨(ad342.add ((x71_4).toNat * 4)).block, (ad342.add ((x71_4).toNat * 4)).off + 3, none⟩ = some (.int .i64 ((rd_T28 x5_4 x71_4).f3))) (ds := []) #[false, false, false, false, false, false, false, false, false, false, false, false, false, false, false] (by kernel_rfl) rfl rfl ⟨(blk_cell BK318.out 0).trans rfl, (blk_cell BK318.out 1).trans rfl, (blk_cell BK318.out 2).trans rfl, hx342_0, hx342_1, hx342_2, hx342_3⟩ (fun hHeld => ?_); refine with_tabW hopmeshlaw47_GossipPolite.tab22 hopmeshlaw47_GossipPolite.bits22 (fun HT_ HW_ => ?_)
                                  generalize wr.drew = w65 at HO_5 BK318 HB hx342_0 hx342_1 hx342_2 hx342_3 hHeld ⊢
                                  refine pure_ (i := 1) (N := some 76) (v := ?_) (a' := ?_) #[false, true, false, false, false, false, false, false, false, false, false, false, false, false, false] rfl rfl (any_of HT_.out (by kernel_rfl)) (fun _ _ _ h => h) (Or.inl ⟨by rfl, ?_⟩) ?_ ?_
                                  rotate_left
                                  · intro w'
                                    go_simp
                                    with_reducible rfl
                                  rotate_left
                                  · simp only [Act.put, List.setIfInBounds_toArray, List.set_cons_zero, List.set_cons_succ, i64_w, i32_w]
                                    rfl
                                  refine pure_ (i := 2) (N := some 77) (v := ?_) (a' := ?_) #[false, true, true, false, false, false, false, false, false, false, false, false, false, false, false] rfl rfl (any_of HT_.out (by kernel_rfl)) (fun _ _ _ h => h) (Or.inl ⟨by rfl, ?_⟩) ?_ ?_
                                  rotate_left
                                  · intro w'
                                    go_simp
                                    with_reducible rfl
                                  rotate_left
                                  · simp only [Act.put, List.setIfInBounds_toArray, List.set_cons_zero, List.set_cons_succ, i64_w, i32_w]
                                    rfl
                                  refine pure_ (i := 3) (N := some 78) (v := ?_) (a' := ?_) #[false, true, true, true, false, false, false, false, false, false, false, false, false, false, false] rfl rfl (any_of HT_.out (by kernel_rfl)) (fun _ _ _ h => h) (Or.inl ⟨by rfl, ?_⟩) ?_ ?_
                                  rotate_left
                                  · intro w'
                                    go_simp
                                    with_reducible rfl
                                  rotate_left
                                  · simp only [Act.put, List.setIfInBounds_toArray, List.set_cons_zero, List.set_cons_succ, i64_w, i32_w]
                                    rfl
                                  refine pure_ (i := 5) (N := some 80) (v := ?_) (a' := ?_) #[false, true, true, true, false, true, false, false, false, false, false, false, false, false, false] rfl rfl (any_of HT_.out (by kernel_rfl)) (fun _ _ _ h => h) (Or.inl ⟨by rfl, ?_⟩) ?_ ?_
                                  rotate_left
                                  · intro w'
                                    go_simp
                                    with_reducible rfl
                                  rotate_left
                                  · simp only [Act.put, List.setIfInBounds_toArray, List.set_cons_zero, List.set_cons_succ, i64_w, i32_w]
                                    rfl
                                  refine take_ (i := 0) (N := some 75) (v := ?_) (a' := ?_) #[true, true, true, true, false, true, false, false, false, false, false, false, false, false, false] rfl rfl (take_ofW HT_.out HW_.out (by kernel_rfl)) (fun _ _ _ h => h) (Or.inl ⟨by rfl, ?_⟩) hHeld ?_ ?_
                                  rotate_left
                                  · rintro w' ⟨s0, s1, s2, s3, s4, s5, s6⟩
                                    go_simp
                                    with_reducible rfl
                                  rotate_left
                                  · simp only [Act.put, List.setIfInBounds_toArray, List.set_cons_zero, List.set_cons_succ, i64_w, i32_w]
                                    rfl
                                  refine take_ (i := 4) (N := some 79) (v := ?_) (a' := ?_) #[true, true, true, true, true, true, false, false, false, false, false, false, false, false, false] rfl rfl (take_ofW HT_.out HW_.out (by kernel_rfl)) (fun _ _ _ h => h) (Or.inl ⟨by rfl, ?_⟩) hHeld ?_ ?_
                                  rotate_left
                                  · rintro w' ⟨s0, s1, s2, s3, s4, s5, s6⟩
                                    go_simp
                                    with_reducible rfl
                                  rotate_left
                                  · simp only [Act.put, List.setIfInBounds_toArray, List.set_cons_zero, List.set_cons_succ, i64_w, i32_w]
                                    rfl
                                  refine join_ (σ := Nat) 3 #[true, true, true, true, true, true, true, true, true, true, true, true, false, false, false] (fun s_ => [(81, .tuple #[.agg #[.int .i64 t343, .int .i64 t344, .int .i64 t345, .int .i64 t346], .bool true, .int .i64 t348]), (14, .pointer (some ⟨s_, 0, none⟩)), (74, .tuple #[.agg #[.int .i64 t343, .int .i64 t344, .int .i64 t345, .int .i64 t346], .bool true, .int .i64 t348]), (82, .agg #[.int .i64 t343, .int .i64 t344, .int .i64 t345, .int .i64 t346]), (83, .bool true), (84, .int .i64 t348)]) (fun s_ w' => (w'.cell? ⟨gb318, 0, none⟩ = some (.int .i64 a0_0) ∧ w'.cell? ⟨gb318, 1, none⟩ = some (.int .i64 a0_1) ∧ w'.cell? ⟨gb318, 2, none⟩ = some (.int .i64 a0_2) ∧ w'.cell? (ad342.add ((x71_4).toNat * 4)) = some (.int .i64 ((rd_T28 x5_4 x71_4).f0)) ∧ w'.cell? ⟨(ad342.add ((x71_4).toNat * 4)).block, (ad342.add ((x71_4).toNat * 4)).off + 1, none⟩ = some (.int .i64 ((rd_T28 x5_4 x71_4).f1)) ∧ w'.cell? ⟨(ad342.add ((x71_4).toNat * 4)).block, (ad342.add ((x71_4).toNat * 4)).off + 2, none⟩ = some (.int .i64 ((rd_T28 x5_4 x71_4).f2)) ∧ w'.cell? ⟨(ad342.add ((x71_4).toNat * 4)).block, (ad342.add ((x71_4).toNat * 4)).off + 3, none⟩ = some (.int .i64 ((rd_T28 x5_4 x71_4).f3))) ∧ (Kd.R k28 28 w' w.heap.size (fun k_ => k_ ≠ s_) (.slice (some ad342) x5_4.length co57) x5_4) ∧ (w'.heap[gb318]? = some (.cells #[.int .i64 a0_0, .int .i64 a0_1, .int .i64 a0_2] 23 (0, 0))) ∧ (w'.heap[s_]? = some (.cells #[.int .i64 0, .int .i64 0, .int .i64 0, .int .i64 0] 28 (0, 0))) ∧ (w.heap.size ≤ s_) ∧ (w.heap.size ≤ s_) ∧ (gb318 ≠ s_) ∧ (s_ ≠ gb318) ∧ (Below w.heap.size w w')) ?_ ?_
                                  rotate_left
                                  · intro hCont
                                    refine two_ (i := 6) (j := 11) (Ni := some 81) (Nj := some 14) #[true, true, true, true, true, true, true, false, false, false, false, false, false, false, false] #[true, true, true, true, true, true, false, false, false, false, false, true, false, false, false] rfl rfl rfl rfl (two_of HT_.out (by kernel_rfl)) (by decide) (by decide) (fun K hK => ?_) (fun K hK => ?_)
                                    · skip
                                      refine goes_ Try.func12 (by kernel_rfl) rfl #[.agg #[.int .i64 a0_0, .int .i64 a0_1, .int .i64 a0_2], .agg #[.int .i64 ((rd_T28 x5_4 x71_4).f0), .int .i64 ((rd_T28 x5_4 x71_4).f1), .int .i64 ((rd_T28 x5_4 x71_4).f2), .int .i64 ((rd_T28 x5_4 x71_4).f3)], .int .i64 x66_3, .int .u32 0] (by rfl) rfl rfl (by (try simp only [List.map_toArray, List.map_cons, List.map_nil]); first | done | rfl | (simp only [List.length_drop, List.length_take]; rfl)) ?_
                                      with_reducible refine (gossip_Step.calls k4 a0_0 a0_1 a0_2 ((rd_T28 x5_4 x71_4).f0) ((rd_T28 x5_4 x71_4).f1) ((rd_T28 x5_4 x71_4).f2) ((rd_T28 x5_4 x71_4).f3) x66_3 0 t343 t344 t345 t346 true t348 _ A61.out).mono ?_
                                      rintro e w66 ⟨rfl, hb⟩
                                      have HS3_ := (hb.cell (World.block_lt_of_cell? _ _ (hHeld.2.2.2.1))).trans (hHeld.2.2.2.1)
                                      have HS4_ := (hb.cell (World.block_lt_of_cell? _ _ (hHeld.2.2.2.2.1))).trans (hHeld.2.2.2.2.1)
                                      have HS5_ := (hb.cell (World.block_lt_of_cell? _ _ (hHeld.2.2.2.2.2.1))).trans (hHeld.2.2.2.2.2.1)
                                      have HS6_ := (hb.cell (World.block_lt_of_cell? _ _ (hHeld.2.2.2.2.2.2))).trans (hHeld.2.2.2.2.2.2)
                                      refine ⟨_, rfl, ?_⟩
                                      have n0_ := Aside0.mk (Kd.R_below (by (with_reducible repeat (first | apply Kd.R_alloc | apply Kd.R_drewN | apply Kd.R_drew)); exact HO_5.out) hb)
                                      have n1_ := Aside0.mk (blk_below (g := gb318) (o := .cells #[.int .i64 a0_0, .int .i64 a0_1, .int .i64 a0_2] 23 (0, 0)) (by (with_reducible repeat (first | refine blk_drewN ?_ _ | refine blk_drew ?_ | refine blk_alloc ?_ _)); exact BK318.out) hb)
                                      have n2_ := Aside0.mk (below_step (by repeat (first | (with_reducible first | exact HB.out | apply below_alloc | apply pw_below_drewN | apply below_drew1 | refine below_set ?_ GE318.out) | exact HB.out)) hb)
                                      clear HO_5
                                      clear BK318
                                      clear HB
                                      have HO_5 := n0_
                                      have BK318 := n1_
                                      have HB := n2_
                                      clear n0_ n1_ n2_
                                      (try clear hb)
                                      (try clear hb2)
                                      (try clear hk)
                                      (try clear hi)
                                      refine hK.out _ _ ⟨(blk_cell BK318.out 0).trans rfl, (blk_cell BK318.out 1).trans rfl, (blk_cell BK318.out 2).trans rfl, HS3_, HS4_, HS5_, HS6_⟩ (fun hHeld => ?_)
                                      clear hK K
                                      refine norm_ (a' := ?_) ?_ ?_
                                      rotate_left
                                      · show Act.put _ (some 81) _ = _
                                        simp only [Act.put, List.setIfInBounds_toArray, List.set_cons_zero, List.set_cons_succ, i64_w, i32_w]
                                        rfl
                                      refine pure_ (i := 7) (N := some 74) (v := ?_) (a' := ?_) #[true, true, true, true, true, true, true, true, false, false, false, false, false, false, false] rfl rfl (any_of HT_.out (by kernel_rfl)) (fun _ _ _ h => h) (Or.inl ⟨by rfl, ?_⟩) ?_ ?_
                                      rotate_left
                                      · intro w'
                                        go_simp
                                        with_reducible rfl
                                      rotate_left
                                      · simp only [Act.put, List.setIfInBounds_toArray, List.set_cons_zero, List.set_cons_succ, i64_w, i32_w]
                                        rfl
                                      refine pure_ (i := 8) (N := some 82) (v := ?_) (a' := ?_) #[true, true, true, true, true, true, true, true, true, false, false, false, false, false, false] rfl rfl (any_of HT_.out (by kernel_rfl)) (fun _ _ _ h => h) (Or.inl ⟨by rfl, ?_⟩) ?_ ?_
                                      rotate_left
                                      · intro w'
                                        go_simp
                                        with_reducible rfl
                                      rotate_left
                                      · simp only [Act.put, List.setIfInBounds_toArray, List.set_cons_zero, List.set_cons_succ, i64_w, i32_w]
                                        rfl
                                      refine pure_ (i := 9) (N := some 83) (v := ?_) (a' := ?_) #[true, true, true, true, true, true, true, true, true, true, false, false, false, false, false] rfl rfl (any_of HT_.out (by kernel_rfl)) (fun _ _ _ h => h) (Or.inl ⟨by rfl, ?_⟩) ?_ ?_
                                      rotate_left
                                      · intro w'
                                        go_simp
                                        with_reducible rfl
                                      rotate_left
                                      · simp only [Act.put, List.setIfInBounds_toArray, List.set_cons_zero, List.set_cons_succ, i64_w, i32_w]
                                        rfl
                                      refine pure_ (i := 10) (N := some 84) (v := ?_) (a' := ?_) #[true, true, true, true, true, true, true, true, true, true, true, false, false, false, false] rfl rfl (any_of HT_.out (by kernel_rfl)) (fun _ _ _ h => h) (Or.inl ⟨by rfl, ?_⟩) ?_ ?_
                                      rotate_left
                                      · intro w'
                                        go_simp
                                        with_reducible rfl
                                      rotate_left
                                      · simp only [Act.put, List.setIfInBounds_toArray, List.set_cons_zero, List.set_cons_succ, i64_w, i32_w]
                                        rfl
                                      refine one_ (i := 11) (N := some 14) #[true, true, true, true, true, true, true, true, true, true, true, true, false, false, false] rfl rfl (one_of HT_.out (by kernel_rfl)) (by decide) (fun K hK => ?_)
                                      refine box_step ?hg (N := 14) ?hd (cs := #[.int .i64 0, .int .i64 0, .int .i64 0, .int .i64 0]) (t := 28) ?hr ?_; (case hd => rfl); (case hg => rfl); (case hr => first | (go_simp; done) | (go_simp; rfl))
                                      intro gb349 hg w67 hbox hb
                                      have HS3_ := (hb.cell (World.block_lt_of_cell? _ _ (hHeld.2.2.2.1))).trans (hHeld.2.2.2.1)
                                      have HS4_ := (hb.cell (World.block_lt_of_cell? _ _ (hHeld.2.2.2.2.1))).trans (hHeld.2.2.2.2.1)
                                      have HS5_ := (hb.cell (World.block_lt_of_cell? _ _ (hHeld.2.2.2.2.2.1))).trans (hHeld.2.2.2.2.2.1)
                                      have HS6_ := (hb.cell (World.block_lt_of_cell? _ _ (hHeld.2.2.2.2.2.2))).trans (hHeld.2.2.2.2.2.2)
                                      have n0_ := Aside0.mk (Kd.R_below (Kd.R_elderB (by (with_reducible repeat (first | apply Kd.R_alloc | apply Kd.R_drewN | apply Kd.R_drew)); exact HO_5.out) gb349 (Nat.le_of_eq hg.symm)) hb)
                                      have n1_ := Aside0.mk (blk_below (g := gb318) (o := .cells #[.int .i64 a0_0, .int .i64 a0_1, .int .i64 a0_2] 23 (0, 0)) (by (with_reducible repeat (first | refine blk_drewN ?_ _ | refine blk_drew ?_ | refine blk_alloc ?_ _)); exact BK318.out) hb)
                                      have n2_ := Aside0.mk (below_step (by repeat (first | (with_reducible first | exact HB.out | apply below_alloc | apply pw_below_drewN | apply below_drew1 | refine below_set ?_ GE318.out) | exact HB.out)) hb)
                                      have n3_ := Aside0.mk (hbox)
                                      have n4_ := Aside0.mk ((by rw [hg]; exact (below_size (by repeat (first | (with_reducible first | exact HB.out | apply below_alloc | apply pw_below_drewN | apply below_drew1 | refine below_set ?_ GE318.out) | exact HB.out))) : w.heap.size ≤ gb349))
                                      have n5_ := Aside0.mk ((by rw [hg]; exact (below_size (by repeat (first | (with_reducible first | exact HB.out | apply below_alloc | apply pw_below_drewN | apply below_drew1 | refine below_set ?_ GE318.out) | exact HB.out))) : w.heap.size ≤ gb349))
                                      have n6_ := Aside0.mk ((by rw [hg]; exact Nat.ne_of_lt (blk_lt (g := gb318) (o := .cells #[.int .i64 a0_0, .int .i64 a0_1, .int .i64 a0_2] 23 (0, 0)) (by (with_reducible repeat (first | refine blk_drewN ?_ _ | refine blk_drew ?_ | refine blk_alloc ?_ _)); exact BK318.out)) : gb318 ≠ gb349))
                                      have n7_ := Aside0.mk ((by rw [hg]; exact Nat.ne_of_gt (blk_lt (g := gb318) (o := .cells #[.int .i64 a0_0, .int .i64 a0_1, .int .i64 a0_2] 23 (0, 0)) (by (with_reducible repeat (first | refine blk_drewN ?_ _ | refine blk_drew ?_ | refine blk_alloc ?_ _)); exact BK318.out)) : gb349 ≠ gb318))
                                      clear HO_5
                                      clear BK318
                                      clear HB
                                      have HO_5 := n0_
                                      have BK318 := n1_
                                      have HB := n2_
                                      have BK349 := n3_
                                      have GW349 := n4_
                                      have GE349 := n5_
                                      have NB318_349 := n6_
                                      have NB349_318 := n7_
                                      clear n0_ n1_ n2_ n3_ n4_ n5_ n6_ n7_
                                      clear hb hbox hg
                                      refine hK.out _ _ ⟨(blk_cell BK318.out 0).trans rfl, (blk_cell BK318.out 1).trans rfl, (blk_cell BK318.out 2).trans rfl, HS3_, HS4_, HS5_, HS6_⟩ (fun hHeld => ?_)
                                      clear hK K
                                      refine norm_ (a' := ?_) ?_ ?_
                                      rotate_left
                                      · show Act.put _ (some 14) _ = _
                                        simp only [Act.put, List.setIfInBounds_toArray, List.set_cons_zero, List.set_cons_succ, i64_w, i32_w]
                                        rfl
                                      exact norm_ (by simp only [putAll, Act.put, List.setIfInBounds_toArray, List.set_cons_zero, List.set_cons_succ]) (hCont (gb349) _ ⟨hHeld, (by (with_reducible repeat (first | apply Kd.R_alloc | apply Kd.R_drewN | apply Kd.R_drew)); exact Kd.R_mono HO_5.out (fun _ hk => hk.2)), (by (with_reducible repeat (first | refine blk_drewN ?_ _ | refine blk_drew ?_ | refine blk_alloc ?_ _)); exact BK318.out), (by (with_reducible repeat (first | refine blk_drewN ?_ _ | refine blk_drew ?_ | refine blk_alloc ?_ _)); exact BK349.out), GW349.out, GE349.out, NB318_349.out, NB349_318.out, (by repeat (first | (with_reducible first | exact HB.out | apply below_alloc | apply pw_below_drewN | apply below_drew1 | refine below_set ?_ GE318.out | refine below_set ?_ GE349.out) | exact HB.out))⟩)
                                    · skip
                                      refine box_step ?hg (N := 14) ?hd (cs := #[.int .i64 0, .int .i64 0, .int .i64 0, .int .i64 0]) (t := 28) ?hr ?_; (case hd => rfl); (case hg => rfl); (case hr => first | (go_simp; done) | (go_simp; rfl))
                                      intro gb349 hg w66 hbox hb
                                      have HS3_ := (hb.cell (World.block_lt_of_cell? _ _ (hHeld.2.2.2.1))).trans (hHeld.2.2.2.1)
                                      have HS4_ := (hb.cell (World.block_lt_of_cell? _ _ (hHeld.2.2.2.2.1))).trans (hHeld.2.2.2.2.1)
                                      have HS5_ := (hb.cell (World.block_lt_of_cell? _ _ (hHeld.2.2.2.2.2.1))).trans (hHeld.2.2.2.2.2.1)
                                      have HS6_ := (hb.cell (World.block_lt_of_cell? _ _ (hHeld.2.2.2.2.2.2))).trans (hHeld.2.2.2.2.2.2)
                                      have n0_ := Aside0.mk (Kd.R_below (Kd.R_elderB (by (with_reducible repeat (first | apply Kd.R_alloc | apply Kd.R_drewN | apply Kd.R_drew)); exact HO_5.out) gb349 (Nat.le_of_eq hg.symm)) hb)
                                      have n1_ := Aside0.mk (blk_below (g := gb318) (o := .cells #[.int .i64 a0_0, .int .i64 a0_1, .int .i64 a0_2] 23 (0, 0)) (by (with_reducible repeat (first | refine blk_drewN ?_ _ | refine blk_drew ?_ | refine blk_alloc ?_ _)); exact BK318.out) hb)
                                      have n2_ := Aside0.mk (below_step (by repeat (first | (with_reducible first | exact HB.out | apply below_alloc | apply pw_below_drewN | apply below_drew1 | refine below_set ?_ GE318.out) | exact HB.out)) hb)
                                      have n3_ := Aside0.mk (hbox)
                                      have n4_ := Aside0.mk ((by rw [hg]; exact (below_size (by repeat (first | (with_reducible first | exact HB.out | apply below_alloc | apply pw_below_drewN | apply below_drew1 | refine below_set ?_ GE318.out) | exact HB.out))) : w.heap.size ≤ gb349))
                                      have n5_ := Aside0.mk ((by rw [hg]; exact (below_size (by repeat (first | (with_reducible first | exact HB.out | apply below_alloc | apply pw_below_drewN | apply below_drew1 | refine below_set ?_ GE318.out) | exact HB.out))) : w.heap.size ≤ gb349))
                                      have n6_ := Aside0.mk ((by rw [hg]; exact Nat.ne_of_lt (blk_lt (g := gb318) (o := .cells #[.int .i64 a0_0, .int .i64 a0_1, .int .i64 a0_2] 23 (0, 0)) (by (with_reducible repeat (first | refine blk_drewN ?_ _ | refine blk_drew ?_ | refine blk_alloc ?_ _)); exact BK318.out)) : gb318 ≠ gb349))
                                      have n7_ := Aside0.mk ((by rw [hg]; exact Nat.ne_of_gt (blk_lt (g := gb318) (o := .cells #[.int .i64 a0_0, .int .i64 a0_1, .int .i64 a0_2] 23 (0, 0)) (by (with_reducible repeat (first | refine blk_drewN ?_ _ | refine blk_drew ?_ | refine blk_alloc ?_ _)); exact BK318.out)) : gb349 ≠ gb318))
                                      clear HO_5
                                      clear BK318
                                      clear HB
                                      have HO_5 := n0_
                                      have BK318 := n1_
                                      have HB := n2_
                                      have BK349 := n3_
                                      have GW349 := n4_
                                      have GE349 := n5_
                                      have NB318_349 := n6_
                                      have NB349_318 := n7_
                                      clear n0_ n1_ n2_ n3_ n4_ n5_ n6_ n7_
                                      clear hb hbox hg
                                      refine hK.out _ _ ⟨(blk_cell BK318.out 0).trans rfl, (blk_cell BK318.out 1).trans rfl, (blk_cell BK318.out 2).trans rfl, HS3_, HS4_, HS5_, HS6_⟩ (fun hHeld => ?_)
                                      clear hK K
                                      refine norm_ (a' := ?_) ?_ ?_
                                      rotate_left
                                      · show Act.put _ (some 14) _ = _
                                        simp only [Act.put, List.setIfInBounds_toArray, List.set_cons_zero, List.set_cons_succ, i64_w, i32_w]
                                        rfl
                                      refine one_ (i := 6) (N := some 81) #[true, true, true, true, true, true, true, false, false, false, false, true, false, false, false] rfl rfl (one_of HT_.out (by kernel_rfl)) (by decide) (fun K hK => ?_)
                                      refine goes_ Try.func12 (by kernel_rfl) rfl #[.agg #[.int .i64 a0_0, .int .i64 a0_1, .int .i64 a0_2], .agg #[.int .i64 ((rd_T28 x5_4 x71_4).f0), .int .i64 ((rd_T28 x5_4 x71_4).f1), .int .i64 ((rd_T28 x5_4 x71_4).f2), .int .i64 ((rd_T28 x5_4 x71_4).f3)], .int .i64 x66_3, .int .u32 0] (by rfl) rfl rfl (by (try simp only [List.map_toArray, List.map_cons, List.map_nil]); first | done | rfl | (simp only [List.length_drop, List.length_take]; rfl)) ?_
                                      with_reducible refine (gossip_Step.calls k4 a0_0 a0_1 a0_2 ((rd_T28 x5_4 x71_4).f0) ((rd_T28 x5_4 x71_4).f1) ((rd_T28 x5_4 x71_4).f2) ((rd_T28 x5_4 x71_4).f3) x66_3 0 t343 t344 t345 t346 true t348 _ A61.out).mono ?_
                                      rintro e w67 ⟨rfl, hb⟩
                                      have HS3_ := (hb.cell (World.block_lt_of_cell? _ _ (hHeld.2.2.2.1))).trans (hHeld.2.2.2.1)
                                      have HS4_ := (hb.cell (World.block_lt_of_cell? _ _ (hHeld.2.2.2.2.1))).trans (hHeld.2.2.2.2.1)
                                      have HS5_ := (hb.cell (World.block_lt_of_cell? _ _ (hHeld.2.2.2.2.2.1))).trans (hHeld.2.2.2.2.2.1)
                                      have HS6_ := (hb.cell (World.block_lt_of_cell? _ _ (hHeld.2.2.2.2.2.2))).trans (hHeld.2.2.2.2.2.2)
                                      refine ⟨_, rfl, ?_⟩
                                      have n0_ := Aside0.mk (Kd.R_below (by (with_reducible repeat (first | apply Kd.R_alloc | apply Kd.R_drewN | apply Kd.R_drew)); exact HO_5.out) hb)
                                      have n1_ := Aside0.mk (blk_below (g := gb318) (o := .cells #[.int .i64 a0_0, .int .i64 a0_1, .int .i64 a0_2] 23 (0, 0)) (by (with_reducible repeat (first | refine blk_drewN ?_ _ | refine blk_drew ?_ | refine blk_alloc ?_ _)); exact BK318.out) hb)
                                      have n2_ := Aside0.mk (blk_below (g := gb349) (o := .cells #[.int .i64 0, .int .i64 0, .int .i64 0, .int .i64 0] 28 (0, 0)) (by (with_reducible repeat (first | refine blk_drewN ?_ _ | refine blk_drew ?_ | refine blk_alloc ?_ _)); exact BK349.out) hb)
                                      have n3_ := Aside0.mk (below_step (by repeat (first | (with_reducible first | exact HB.out | apply below_alloc | apply pw_below_drewN | apply below_drew1 | refine below_set ?_ GE318.out | refine below_set ?_ GE349.out) | exact HB.out)) hb)
                                      clear HO_5
                                      clear BK318
                                      clear BK349
                                      clear HB
                                      have HO_5 := n0_
                                      have BK318 := n1_
                                      have BK349 := n2_
                                      have HB := n3_
                                      clear n0_ n1_ n2_ n3_
                                      (try clear hb)
                                      (try clear hb2)
                                      (try clear hk)
                                      (try clear hi)
                                      refine hK.out _ _ ⟨(blk_cell BK318.out 0).trans rfl, (blk_cell BK318.out 1).trans rfl, (blk_cell BK318.out 2).trans rfl, HS3_, HS4_, HS5_, HS6_⟩ (fun hHeld => ?_)
                                      clear hK K
                                      refine norm_ (a' := ?_) ?_ ?_
                                      rotate_left
                                      · show Act.put _ (some 81) _ = _
                                        simp only [Act.put, List.setIfInBounds_toArray, List.set_cons_zero, List.set_cons_succ, i64_w, i32_w]
                                        rfl
                                      refine pure_ (i := 7) (N := some 74) (v := ?_) (a' := ?_) #[true, true, true, true, true, true, true, true, false, false, false, true, false, false, false] rfl rfl (any_of HT_.out (by kernel_rfl)) (fun _ _ _ h => h) (Or.inl ⟨by rfl, ?_⟩) ?_ ?_
                                      rotate_left
                                      · intro w'
                                        go_simp
                                        with_reducible rfl
                                      rotate_left
                                      · simp only [Act.put, List.setIfInBounds_toArray, List.set_cons_zero, List.set_cons_succ, i64_w, i32_w]
                                        rfl
                                      refine pure_ (i := 8) (N := some 82) (v := ?_) (a' := ?_) #[true, true, true, true, true, true, true, true, true, false, false, true, false, false, false] rfl rfl (any_of HT_.out (by kernel_rfl)) (fun _ _ _ h => h) (Or.inl ⟨by rfl, ?_⟩) ?_ ?_
                                      rotate_left
                                      · intro w'
                                        go_simp
                                        with_reducible rfl
                                      rotate_left
                                      · simp only [Act.put, List.setIfInBounds_toArray, List.set_cons_zero, List.set_cons_succ, i64_w, i32_w]
                                        rfl
                                      refine pure_ (i := 9) (N := some 83) (v := ?_) (a' := ?_) #[true, true, true, true, true, true, true, true, true, true, false, true, false, false, false] rfl rfl (any_of HT_.out (by kernel_rfl)) (fun _ _ _ h => h) (Or.inl ⟨by rfl, ?_⟩) ?_ ?_
                                      rotate_left
                                      · intro w'
                                        go_simp
                                        with_reducible rfl
                                      rotate_left
                                      · simp only [Act.put, List.setIfInBounds_toArray, List.set_cons_zero, List.set_cons_succ, i64_w, i32_w]
                                        rfl
                                      refine pure_ (i := 10) (N := some 84) (v := ?_) (a' := ?_) #[true, true, true, true, true, true, true, true, true, true, true, true, false, false, false] rfl rfl (any_of HT_.out (by kernel_rfl)) (fun _ _ _ h => h) (Or.inl ⟨by rfl, ?_⟩) ?_ ?_
                                      rotate_left
                                      · intro w'
                                        go_simp
                                        with_reducible rfl
                                      rotate_left
                                      · simp only [Act.put, List.setIfInBounds_toArray, List.set_cons_zero, List.set_cons_succ, i64_w, i32_w]
                                        rfl
                                      exact norm_ (by simp only [putAll, Act.put, List.setIfInBounds_toArray, List.set_cons_zero, List.set_cons_succ]) (hCont (gb349) _ ⟨hHeld, (by (with_reducible repeat (first | apply Kd.R_alloc | apply Kd.R_drewN | apply Kd.R_drew)); exact Kd.R_mono HO_5.out (fun _ hk => hk.2)), (by (with_reducible repeat (first | refine blk_drewN ?_ _ | refine blk_drew ?_ | refine blk_alloc ?_ _)); exact BK318.out), (by (with_reducible repeat (first | refine blk_drewN ?_ _ | refine blk_drew ?_ | refine blk_alloc ?_ _)); exact BK349.out), GW349.out, GE349.out, NB318_349.out, NB349_318.out, (by repeat (first | (with_reducible first | exact HB.out | apply below_alloc | apply pw_below_drewN | apply below_drew1 | refine below_set ?_ GE318.out | refine below_set ?_ GE349.out) | exact HB.out))⟩)
                                  rintro gb349 w68 ⟨hS_, h0_, h1_, h2_, h3_, h4_, h5_, h6_, h7_⟩
                                  have n0_ : Aside0 (Kd.R k28 28 w68 w.heap.size (fun k_ => k_ ≠ gb349) (.slice (some ad342) x5_4.length co57) x5_4) := ⟨h0_⟩
                                  have n1_ : Aside0 (w68.heap[gb318]? = some (.cells #[.int .i64 a0_0, .int .i64 a0_1, .int .i64 a0_2] 23 (0, 0))) := ⟨h1_⟩
                                  have n2_ : Aside0 (w68.heap[gb349]? = some (.cells #[.int .i64 0, .int .i64 0, .int .i64 0, .int .i64 0] 28 (0, 0))) := ⟨h2_⟩
                                  have n3_ : Aside0 (w.heap.size ≤ gb349) := ⟨h3_⟩
                                  have n4_ : Aside0 (w.heap.size ≤ gb349) := ⟨h4_⟩
                                  have n5_ : Aside0 (gb318 ≠ gb349) := ⟨h5_⟩
                                  have n6_ : Aside0 (gb349 ≠ gb318) := ⟨h6_⟩
                                  have n7_ : Aside0 (Below w.heap.size w w68) := ⟨h7_⟩
                                  clear HO_5
                                  clear BK318
                                  clear HB
                                  clear h0_ h1_ h2_ h3_ h4_ h5_ h6_ h7_
                                  have HO_5 := n0_
                                  have BK318 := n1_
                                  have BK349 := n2_
                                  have GW349 := n3_
                                  have GE349 := n4_
                                  have NB318_349 := n5_
                                  have NB349_318 := n6_
                                  have HB := n7_
                                  clear n0_ n1_ n2_ n3_ n4_ n5_ n6_ n7_
                                  have hHeld : w68.cell? ⟨gb318, 0, none⟩ = some (.int .i64 a0_0) ∧ w68.cell? ⟨gb318, 1, none⟩ = some (.int .i64 a0_1) ∧ w68.cell? ⟨gb318, 2, none⟩ = some (.int .i64 a0_2) ∧ w68.cell? (ad342.add ((x71_4).toNat * 4)) = some (.int .i64 ((rd_T28 x5_4 x71_4).f0)) ∧ w68.cell? ⟨(ad342.add ((x71_4).toNat * 4)).block, (ad342.add ((x71_4).toNat * 4)).off + 1, none⟩ = some (.int .i64 ((rd_T28 x5_4 x71_4).f1)) ∧ w68.cell? ⟨(ad342.add ((x71_4).toNat * 4)).block, (ad342.add ((x71_4).toNat * 4)).off + 2, none⟩ = some (.int .i64 ((rd_T28 x5_4 x71_4).f2)) ∧ w68.cell? ⟨(ad342.add ((x71_4).toNat * 4)).block, (ad342.add ((x71_4).toNat * 4)).off + 3, none⟩ = some (.int .i64 ((rd_T28 x5_4 x71_4).f3)) := hS_
                                  refine norm_ (a' := ?_) ?_ ?_
                                  rotate_left
                                  · simp only [putAll, Act.put, List.setIfInBounds_toArray, List.set_cons_zero, List.set_cons_succ]
                                    rfl
                                  refine one_ (i := 12) (N := none) #[true, true, true, true, true, true, true, true, true, true, true, true, true, false, false] rfl rfl (one_of HT_.out (by kernel_rfl)) (by decide) (fun K hK => ?_)
                                  have hs69 : w68.cell? ⟨gb349, 0, none⟩ = some (.int .i64 0) := (blk_cell BK349.out 0).trans rfl
                                  have hfs69 := blk_frozen BK349.out 0
                                  have hns69_0 := NB318_349.out
                                  have hms69_0 := NB349_318.out
                                  have hs70 : w68.cell? ⟨gb349, 1, none⟩ = some (.int .i64 0) := (blk_cell BK349.out 1).trans rfl
                                  have hfs70 := blk_frozen BK349.out 1
                                  have hns70_0 := NB318_349.out
                                  have hms70_0 := NB349_318.out
                                  have hs71 : w68.cell? ⟨gb349, 2, none⟩ = some (.int .i64 0) := (blk_cell BK349.out 2).trans rfl
                                  have hfs71 := blk_frozen BK349.out 2
                                  have hns71_0 := NB318_349.out
                                  have hms71_0 := NB349_318.out
                                  have hs72 : w68.cell? ⟨gb349, 3, none⟩ = some (.int .i64 0) := (blk_cell BK349.out 3).trans rfl
                                  have hfs72 := blk_frozen BK349.out 3
                                  have hns72_0 := NB318_349.out
                                  have hms72_0 := NB349_318.out
                                  refine skip_ (w1 := ?_) (by rfl) rfl ?_ ?_
                                  rotate_left
                                  · go_simp
                                    rfl
                                  refine hK.out _ _ ⟨((cell_far (p := ⟨gb349, _, none⟩) NB318_349.out _).trans (((cell_far (p := ⟨gb349, _, none⟩) NB318_349.out _).trans (((cell_far (p := ⟨gb349, _, none⟩) NB318_349.out _).trans (((cell_far (p := ⟨gb349, _, none⟩) NB318_349.out _).trans (hHeld.1)))))))), ((cell_far (p := ⟨gb349, _, none⟩) NB318_349.out _).trans (((cell_far (p := ⟨gb349, _, none⟩) NB318_349.out _).trans (((cell_far (p := ⟨gb349, _, none⟩) NB318_349.out _).trans (((cell_far (p := ⟨gb349, _, none⟩) NB318_349.out _).trans (hHeld.2.1)))))))), ((cell_far (p := ⟨gb349, _, none⟩) NB318_349.out _).trans (((cell_far (p := ⟨gb349, _, none⟩) NB318_349.out _).trans (((cell_far (p := ⟨gb349, _, none⟩) NB318_349.out _).trans (((cell_far (p := ⟨gb349, _, none⟩) NB318_349.out _).trans (hHeld.2.2.1)))))))), ((cell_far (p := ⟨gb349, _, none⟩) (by first | exact Kd.own_blk (Kd.R_away HO_5.out (fun _ hk => hk)) | (rw [add_block]; exact Kd.own_blk (Kd.R_away HO_5.out (fun _ hk => hk))) | (show (Addr.add _ _).block ≠ _; rw [add_block]; exact Kd.own_blk (Kd.R_away HO_5.out (fun _ hk => hk))) | (dsimp only; exact Kd.own_blk (Kd.R_away HO_5.out (fun _ hk => hk)))) _).trans (((cell_far (p := ⟨gb349, _, none⟩) (by first | exact Kd.own_blk (Kd.R_away HO_5.out (fun _ hk => hk)) | (rw [add_block]; exact Kd.own_blk (Kd.R_away HO_5.out (fun _ hk => hk))) | (show (Addr.add _ _).block ≠ _; rw [add_block]; exact Kd.own_blk (Kd.R_away HO_5.out (fun _ hk => hk))) | (dsimp only; exact Kd.own_blk (Kd.R_away HO_5.out (fun _ hk => hk)))) _).trans (((cell_far (p := ⟨gb349, _, none⟩) (by first | exact Kd.own_blk (Kd.R_away HO_5.out (fun _ hk => hk)) | (rw [add_block]; exact Kd.own_blk (Kd.R_away HO_5.out (fun _ hk => hk))) | (show (Addr.add _ _).block ≠ _; rw [add_block]; exact Kd.own_blk (Kd.R_away HO_5.out (fun _ hk => hk))) | (dsimp only; exact Kd.own_blk (Kd.R_away HO_5.out (fun _ hk => hk)))) _).trans (((cell_far (p := ⟨gb349, _, none⟩) (by first | exact Kd.own_blk (Kd.R_away HO_5.out (fun _ hk => hk)) | (rw [add_block]; exact Kd.own_blk (Kd.R_away HO_5.out (fun _ hk => hk))) | (show (Addr.add _ _).block ≠ _; rw [add_block]; exact Kd.own_blk (Kd.R_away HO_5.out (fun _ hk => hk))) | (dsimp only; exact Kd.own_blk (Kd.R_away HO_5.out (fun _ hk => hk)))) _).trans (hHeld.2.2.2.1)))))))), ((cell_far (p := ⟨gb349, _, none⟩) (by first | exact Kd.own_blk (Kd.R_away HO_5.out (fun _ hk => hk)) | (rw [add_block]; exact Kd.own_blk (Kd.R_away HO_5.out (fun _ hk => hk))) | (show (Addr.add _ _).block ≠ _; rw [add_block]; exact Kd.own_blk (Kd.R_away HO_5.out (fun _ hk => hk))) | (dsimp only; exact Kd.own_blk (Kd.R_away HO_5.out (fun _ hk => hk)))) _).trans (((cell_far (p := ⟨gb349, _, none⟩) (by first | exact Kd.own_blk (Kd.R_away HO_5.out (fun _ hk => hk)) | (rw [add_block]; exact Kd.own_blk (Kd.R_away HO_5.out (fun _ hk => hk))) | (show (Addr.add _ _).block ≠ _; rw [add_block]; exact Kd.own_blk (Kd.R_away HO_5.out (fun _ hk => hk))) | (dsimp only; exact Kd.own_blk (Kd.R_away HO_5.out (fun _ hk => hk)))) _).trans (((cell_far (p := ⟨gb349, _, none⟩) (by first | exact Kd.own_blk (Kd.R_away HO_5.out (fun _ hk => hk)) | (rw [add_block]; exact Kd.own_blk (Kd.R_away HO_5.out (fun _ hk => hk))) | (show (Addr.add _ _).block ≠ _; rw [add_block]; exact Kd.own_blk (Kd.R_away HO_5.out (fun _ hk => hk))) | (dsimp only; exact Kd.own_blk (Kd.R_away HO_5.out (fun _ hk => hk)))) _).trans (((cell_far (p := ⟨gb349, _, none⟩) (by first | exact Kd.own_blk (Kd.R_away HO_5.out (fun _ hk => hk)) | (rw [add_block]; exact Kd.own_blk (Kd.R_away HO_5.out (fun _ hk => hk))) | (show (Addr.add _ _).block ≠ _; rw [add_block]; exact Kd.own_blk (Kd.R_away HO_5.out (fun _ hk => hk))) | (dsimp only; exact Kd.own_blk (Kd.R_away HO_5.out (fun _ hk => hk)))) _).trans (hHeld.2.2.2.2.1)))))))), ((cell_far (p := ⟨gb349, _, none⟩) (by first | exact Kd.own_blk (Kd.R_away HO_5.out (fun _ hk => hk)) | (rw [add_block]; exact Kd.own_blk (Kd.R_away HO_5.out (fun _ hk => hk))) | (show (Addr.add _ _).block ≠ _; rw [add_block]; exact Kd.own_blk (Kd.R_away HO_5.out (fun _ hk => hk))) | (dsimp only; exact Kd.own_blk (Kd.R_away HO_5.out (fun _ hk => hk)))) _).trans (((cell_far (p := ⟨gb349, _, none⟩) (by first | exact Kd.own_blk (Kd.R_away HO_5.out (fun _ hk => hk)) | (rw [add_block]; exact Kd.own_blk (Kd.R_away HO_5.out (fun _ hk => hk))) | (show (Addr.add _ _).block ≠ _; rw [add_block]; exact Kd.own_blk (Kd.R_away HO_5.out (fun _ hk => hk))) | (dsimp only; exact Kd.own_blk (Kd.R_away HO_5.out (fun _ hk => hk)))) _).trans (((cell_far (p := ⟨gb349, _, none⟩) (by first | exact Kd.own_blk (Kd.R_away HO_5.out (fun _ hk => hk)) | (rw [add_block]; exact Kd.own_blk (Kd.R_away HO_5.out (fun _ hk => hk))) | (show (Addr.add _ _).block ≠ _; rw [add_block]; exact Kd.own_blk (Kd.R_away HO_5.out (fun _ hk => hk))) | (dsimp only; exact Kd.own_blk (Kd.R_away HO_5.out (fun _ hk => hk)))) _).trans (((cell_far (p := ⟨gb349, _, none⟩) (by first | exact Kd.own_blk (Kd.R_away HO_5.out (fun _ hk => hk)) | (rw [add_block]; exact Kd.own_blk (Kd.R_away HO_5.out (fun _ hk => hk))) | (show (Addr.add _ _).block ≠ _; rw [add_block]; exact Kd.own_blk (Kd.R_away HO_5.out (fun _ hk => hk))) | (dsimp only; exact Kd.own_blk (Kd.R_away HO_5.out (fun _ hk => hk)))) _).trans (hHeld.2.2.2.2.2.1)))))))), ((cell_far (p := ⟨gb349, _, none⟩) (by first | exact Kd.own_blk (Kd.R_away HO_5.out (fun _ hk => hk)) | (rw [add_block]; exact Kd.own_blk (Kd.R_away HO_5.out (fun _ hk => hk))) | (show (Addr.add _ _).block ≠ _; rw [add_block]; exact Kd.own_blk (Kd.R_away HO_5.out (fun _ hk => hk))) | (dsimp only; exact Kd.own_blk (Kd.R_away HO_5.out (fun _ hk => hk)))) _).trans (((cell_far (p := ⟨gb349, _, none⟩) (by first | exact Kd.own_blk (Kd.R_away HO_5.out (fun _ hk => hk)) | (rw [add_block]; exact Kd.own_blk (Kd.R_away HO_5.out (fun _ hk => hk))) | (show (Addr.add _ _).block ≠ _; rw [add_block]; exact Kd.own_blk (Kd.R_away HO_5.out (fun _ hk => hk))) | (dsimp only; exact Kd.own_blk (Kd.R_away HO_5.out (fun _ hk => hk)))) _).trans (((cell_far (p := ⟨gb349, _, none⟩) (by first | exact Kd.own_blk (Kd.R_away HO_5.out (fun _ hk => hk)) | (rw [add_block]; exact Kd.own_blk (Kd.R_away HO_5.out (fun _ hk => hk))) | (show (Addr.add _ _).block ≠ _; rw [add_block]; exact Kd.own_blk (Kd.R_away HO_5.out (fun _ hk => hk))) | (dsimp only; exact Kd.own_blk (Kd.R_away HO_5.out (fun _ hk => hk)))) _).trans (((cell_far (p := ⟨gb349, _, none⟩) (by first | exact Kd.own_blk (Kd.R_away HO_5.out (fun _ hk => hk)) | (rw [add_block]; exact Kd.own_blk (Kd.R_away HO_5.out (fun _ hk => hk))) | (show (Addr.add _ _).block ≠ _; rw [add_block]; exact Kd.own_blk (Kd.R_away HO_5.out (fun _ hk => hk))) | (dsimp only; exact Kd.own_blk (Kd.R_away HO_5.out (fun _ hk => hk)))) _).trans (hHeld.2.2.2.2.2.2))))))))⟩ (fun hHeld => ?_)
                                  clear hK K
                                  refine pure_ (i := 13) (N := some 15) (v := ?_) (a' := ?_) #[true, true, true, true, true, true, true, true, true, true, true, true, true, true, false] rfl rfl (any_of HT_.out (by kernel_rfl)) (fun _ _ _ h => h) (Or.inl ⟨by rfl, ?_⟩) ?_ ?_
                                  rotate_left
                                  · intro w'
                                    go_simp
                                    with_reducible rfl
                                  rotate_left
                                  · simp only [Act.put, List.setIfInBounds_toArray, List.set_cons_zero, List.set_cons_succ, i64_w, i32_w]
                                    rfl
                                  refine pure_ (i := 14) (N := some 16) (v := ?_) (a' := ?_) #[true, true, true, true, true, true, true, true, true, true, true, true, true, true, true] rfl rfl (any_of HT_.out (by kernel_rfl)) (fun _ _ _ h => h) (Or.inl ⟨by rfl, ?_⟩) ?_ ?_
                                  rotate_left
                                  · intro w'
                                    go_simp
                                    with_reducible rfl
                                  rotate_left
                                  · simp only [Act.put, List.setIfInBounds_toArray, List.set_cons_zero, List.set_cons_succ, i64_w, i32_w]
                                    rfl
                                  refine done_ (done_of HT_.out (by kernel_rfl)) ?_
                                  have n0_ : Aside0 (Kd.R k28 28 ((((w68.setCell ⟨gb349, 0, none⟩ (.int .i64 t343)).setCell ⟨gb349, 1, none⟩ (.int .i64 t344)).setCell ⟨gb349, 2, none⟩ (.int .i64 t345)).setCell ⟨gb349, 3, none⟩ (.int .i64 t346)) w.heap.size (fun k_ => k_ ≠ gb349) (.slice (some ad342) x5_4.length co57) x5_4) := ⟨by (with_reducible repeat (first | apply Kd.R_alloc | apply Kd.R_drewN | apply Kd.R_drew)); exact Kd.R_mono (Kd.R_far (p := ⟨gb349, 3, none⟩) (Kd.R_far (p := ⟨gb349, 2, none⟩) (Kd.R_far (p := ⟨gb349, 1, none⟩) (Kd.R_far (p := ⟨gb349, 0, none⟩) (Kd.R_mono HO_5.out (fun k_ hk => (⟨hk, hk⟩ : _ ∧ k_ ≠ gb349))) (fun _ hk => hk.2) (.int .i64 t343)) (fun _ hk => hk.2) (.int .i64 t344)) (fun _ hk => hk.2) (.int .i64 t345)) (fun _ hk => hk.2) (.int .i64 t346)) (fun _ hk => hk.1)⟩
                                  have n1_ : Aside0 (((((w68.setCell ⟨gb349, 0, none⟩ (.int .i64 t343)).setCell ⟨gb349, 1, none⟩ (.int .i64 t344)).setCell ⟨gb349, 2, none⟩ (.int .i64 t345)).setCell ⟨gb349, 3, none⟩ (.int .i64 t346)).heap[gb318]? = some (.cells #[.int .i64 a0_0, .int .i64 a0_1, .int .i64 a0_2] 23 (0, 0))) := ⟨by (with_reducible repeat (first | refine blk_drewN ?_ _ | refine blk_drew ?_ | refine blk_alloc ?_ _)); refine blk_far ?_ NB318_349.out _; (with_reducible repeat (first | refine blk_drewN ?_ _ | refine blk_drew ?_ | refine blk_alloc ?_ _)); refine blk_far ?_ NB318_349.out _; (with_reducible repeat (first | refine blk_drewN ?_ _ | refine blk_drew ?_ | refine blk_alloc ?_ _)); refine blk_far ?_ NB318_349.out _; (with_reducible repeat (first | refine blk_drewN ?_ _ | refine blk_drew ?_ | refine blk_alloc ?_ _)); refine blk_far ?_ NB318_349.out _; (with_reducible repeat (first | refine blk_drewN ?_ _ | refine blk_drew ?_ | refine blk_alloc ?_ _)); exact BK318.out⟩
                                  have n2_ : Aside0 (((((w68.setCell ⟨gb349, 0, none⟩ (.int .i64 t343)).setCell ⟨gb349, 1, none⟩ (.int .i64 t344)).setCell ⟨gb349, 2, none⟩ (.int .i64 t345)).setCell ⟨gb349, 3, none⟩ (.int .i64 t346)).heap[gb349]? = some (.cells #[.int .i64 t343, .int .i64 t344, .int .i64 t345, .int .i64 t346] 28 (0, 0))) := ⟨by (with_reducible repeat (first | refine blk_drewN ?_ _ | refine blk_drew ?_ | refine blk_alloc ?_ _)); refine blk_put (cs := #[.int .i64 t343, .int .i64 t344, .int .i64 t345, .int .i64 0]) ?_ 3 _ rfl; (with_reducible repeat (first | refine blk_drewN ?_ _ | refine blk_drew ?_ | refine blk_alloc ?_ _)); refine blk_put (cs := #[.int .i64 t343, .int .i64 t344, .int .i64 0, .int .i64 0]) ?_ 2 _ rfl; (with_reducible repeat (first | refine blk_drewN ?_ _ | refine blk_drew ?_ | refine blk_alloc ?_ _)); refine blk_put (cs := #[.int .i64 t343, .int .i64 0, .int .i64 0, .int .i64 0]) ?_ 1 _ rfl; (with_reducible repeat (first | refine blk_drewN ?_ _ | refine blk_drew ?_ | refine blk_alloc ?_ _)); refine blk_put (cs := #[.int .i64 0, .int .i64 0, .int .i64 0, .int .i64 0]) ?_ 0 _ rfl; (with_reducible repeat (first | refine blk_drewN ?_ _ | refine blk_drew ?_ | refine blk_alloc ?_ _)); exact BK349.out⟩
                                  have n3_ : Aside0 (Below w.heap.size w ((((w68.setCell ⟨gb349, 0, none⟩ (.int .i64 t343)).setCell ⟨gb349, 1, none⟩ (.int .i64 t344)).setCell ⟨gb349, 2, none⟩ (.int .i64 t345)).setCell ⟨gb349, 3, none⟩ (.int .i64 t346))) := ⟨by repeat (first | (with_reducible first | exact HB.out | apply below_alloc | apply pw_below_drewN | apply below_drew1 | refine below_set ?_ GE318.out | refine below_set ?_ GE349.out) | exact HB.out)⟩
                                  (try clear HO_5)
                                  (try clear BK318)
                                  (try clear BK349)
                                  (try clear HB)
                                  generalize ((((w68.setCell ⟨gb349, 0, none⟩ (.int .i64 t343)).setCell ⟨gb349, 1, none⟩ (.int .i64 t344)).setCell ⟨gb349, 2, none⟩ (.int .i64 t345)).setCell ⟨gb349, 3, none⟩ (.int .i64 t346)) = w73 at n0_ n1_ n2_ n3_ ⊢
                                  have HO_5 := n0_
                                  have BK318 := n1_
                                  have BK349 := n2_
                                  have HB := n3_
                                  clear n0_ n1_ n2_ n3_
                                  have hnb74 := NB349_318.out
                                  have hnc74 := NB318_349.out
                                  have hcz75_0 : w73.cell? ⟨gb349, 0, none⟩ = some (.int .i64 t343) := (blk_cell BK349.out 0).trans rfl
                                  have hcz75_1 : w73.cell? ⟨gb349, 1, none⟩ = some (.int .i64 t344) := (blk_cell BK349.out 1).trans rfl
                                  have hcz75_2 : w73.cell? ⟨gb349, 2, none⟩ = some (.int .i64 t345) := (blk_cell BK349.out 2).trans rfl
                                  have hcz75_3 : w73.cell? ⟨gb349, 3, none⟩ = some (.int .i64 t346) := (blk_cell BK349.out 3).trans rfl
                                  have hfz75_0 := blk_frozen BK349.out 0
                                  have hfz75_1 := blk_frozen BK349.out 1
                                  have hfz75_2 := blk_frozen BK349.out 2
                                  have hfz75_3 := blk_frozen BK349.out 3
                                  have p63 : 0 ≤ (x71_4 : Int) := of_decide_eq_true (by first | (with_reducible assumption) | assumption)
                                  have q63 : (x71_4 : Int) < ((x5_4.length : Int) : Int) := of_decide_eq_true (by first | (with_reducible assumption) | assumption)
                                  obtain ⟨go63, co63, eo63, gb63, gl63, cl63, HG63⟩ := Kd.R_form HO_5.out (by omega)
                                  (first | cases eo63 | (injection eo63 with ea_ en_ ec_; (first | subst ea_ | (injection ea_ with ea_; subst ea_)); subst ec_; clear en_))
                                  have GB63 := Aside0.mk gb63
                                  have GG63 := Aside0.mk HG63
                                  clear gb63 gl63 HG63
                                  (first | simp only [add_plain] at hx342_0 | skip)
                                  (first | simp only [add_plain] at hx342_1 | skip)
                                  (first | simp only [add_plain] at hx342_2 | skip)
                                  (first | simp only [add_plain] at hx342_3 | skip)
                                  obtain ⟨ce63, hcl63, hM63, hcc63, hfr63⟩ := Kd.R_elem HO_5.out z28 (x71_4 : Int) p63 q63
                                  obtain rfl := k28_openM hM63
                                  have hx63_0 : w73.cell? ⟨go63, (x71_4 : Int).toNat * 4, none⟩ = some (.int .i64 ((rd_T28 x5_4 x71_4).f0)) := hcc63 0 _ rfl
                                  have hx63_1 : w73.cell? ⟨go63, (x71_4 : Int).toNat * 4 + 1, none⟩ = some (.int .i64 ((rd_T28 x5_4 x71_4).f1)) := hcc63 1 _ rfl
                                  have hx63_2 : w73.cell? ⟨go63, (x71_4 : Int).toNat * 4 + 2, none⟩ = some (.int .i64 ((rd_T28 x5_4 x71_4).f2)) := hcc63 2 _ rfl
                                  have hx63_3 : w73.cell? ⟨go63, (x71_4 : Int).toNat * 4 + 3, none⟩ = some (.int .i64 ((rd_T28 x5_4 x71_4).f3)) := hcc63 3 _ rfl
                                  have hf63_0 : w73.frozen? ⟨go63, (x71_4 : Int).toNat * 4, none⟩ = false := hfr63 0
                                  have hf63_1 : w73.frozen? ⟨go63, (x71_4 : Int).toNat * 4 + 1, none⟩ = false := hfr63 1
                                  have hf63_2 : w73.frozen? ⟨go63, (x71_4 : Int).toNat * 4 + 2, none⟩ = false := hfr63 2
                                  have hf63_3 : w73.frozen? ⟨go63, (x71_4 : Int).toNat * 4 + 3, none⟩ = false := hfr63 3
                                  clear hcl63 hcc63 hfr63 hM63
                                  replace p63 := eq_true p63
                                  replace q63 := eq_true q63
                                  have HX76 := Aside0.mk (show Kd.R k28 28 w73 w.heap.size (fun k_ => k_ ≠ gb349) (.slice (some ⟨go63, 0, none⟩) x5_4.length co57) x5_4 from (by (with_reducible repeat (first | apply Kd.R_alloc | apply Kd.R_drewN | apply Kd.R_drew)); exact HO_5.out))
                                  obtain ⟨ce76, hcl76, hM76, hcc76, hfr76⟩ := Kd.R_elem HX76.out z28 (x71_4 : Int) (of_decide_eq_true (by first | (with_reducible assumption) | assumption)) (by have h_ : (x71_4 : Int) < ((x5_4.length : Int) : Int) := of_decide_eq_true (by first | (with_reducible assumption) | assumption); first | exact h_ | (have e_ := (Kd.R_reads' HO_5.out).1; omega) | simpa using h_)
                                  obtain rfl := k28_openM hM76
                                  have HP76 := Kd.R_seg HX76.out (x71_4 : Int) (of_decide_eq_true (by first | (with_reducible assumption) | assumption)) (by have h_ : (x71_4 : Int) < ((x5_4.length : Int) : Int) := of_decide_eq_true (by first | (with_reducible assumption) | assumption); first | exact h_ | (have e_ := (Kd.R_reads' HO_5.out).1; omega) | simpa using h_) (seg := [.int .i64 t343, .int .i64 t344, .int .i64 t345, .int .i64 t346]) (j := 0) hcl76 hcc76 (show 4 ≤ 4 from by decide) (x' := (⟨t343, t344, t345, t346⟩ : S28)) (k28_mkM _ _ _ (⟨t343, t344, t345, t346⟩ : S28) ) (fun _ hk => hk)
                                  have hx76_0 := hcc76 0 _ rfl
                                  (try simp only [show (k28).sz = 4 from rfl, Nat.mul_one, Nat.add_zero] at hx76_0)
                                  have hf76_0 := hfr76 0
                                  (try simp only [show (k28).sz = 4 from rfl, Nat.mul_one, Nat.add_zero] at hf76_0)
                                  have hx76_1 := hcc76 1 _ rfl
                                  (try simp only [show (k28).sz = 4 from rfl, Nat.mul_one, Nat.add_zero] at hx76_1)
                                  have hf76_1 := hfr76 1
                                  (try simp only [show (k28).sz = 4 from rfl, Nat.mul_one, Nat.add_zero] at hf76_1)
                                  have hx76_2 := hcc76 2 _ rfl
                                  (try simp only [show (k28).sz = 4 from rfl, Nat.mul_one, Nat.add_zero] at hx76_2)
                                  have hf76_2 := hfr76 2
                                  (try simp only [show (k28).sz = 4 from rfl, Nat.mul_one, Nat.add_zero] at hf76_2)
                                  have hx76_3 := hcc76 3 _ rfl
                                  (try simp only [show (k28).sz = 4 from rfl, Nat.mul_one, Nat.add_zero] at hx76_3)
                                  have hf76_3 := hfr76 3
                                  (try simp only [show (k28).sz = 4 from rfl, Nat.mul_one, Nat.add_zero] at hf76_3)
                                  clear hcl76 hcc76 hfr76 hM76
                                  try go_wp2_with (first | ((with_reducible refine gate_store (t := 28) (p := 90) rfl ?_); refine store_event (t := 28) (p := 90) (v := ?vo_w77) (w1 := ((((w73.setCell ⟨go63, (x71_4 : Int).toNat * 4, none⟩ (.int .i64 t343)).setCell ⟨go63, (x71_4 : Int).toNat * 4 + 1, none⟩ (.int .i64 t344)).setCell ⟨go63, (x71_4 : Int).toNat * 4 + 2, none⟩ (.int .i64 t345)).setCell ⟨go63, (x71_4 : Int).toNat * 4 + 3, none⟩ (.int .i64 t346))) ?hg ?ho ?hn ?hr ?_; (case ho => rfl); (case hg => rfl); (case hn => rfl); (case hr => first | (go_simp; done) | (go_simp; rfl)); intro w77 hw; have hg : w73.grownBy w77 (some go63) := (by rw [hw]; exact HP76.2); have hp_ : Kd.R k28 28 w77 w.heap.size (fun k_ => k_ ≠ gb349) (.slice (some ⟨go63, 0, none⟩) x5_4.length co57) y350 := (by rw [hw, Ny350.out]; exact HP76.1); clear HP76; have n0_ := Aside0.mk (hp_); have n1_ := Aside0.mk (blk_grown (g := gb318) (o := .cells #[.int .i64 a0_0, .int .i64 a0_1, .int .i64 a0_2] 23 (0, 0)) (by (with_reducible repeat (first | refine blk_drewN ?_ _ | refine blk_drew ?_ | refine blk_alloc ?_ _)); exact BK318.out) hg (Kd.R_ne HO_5.out BK318.out (by decide))); have n2_ := Aside0.mk (blk_grown (g := gb349) (o := .cells #[.int .i64 t343, .int .i64 t344, .int .i64 t345, .int .i64 t346] 28 (0, 0)) (by (with_reducible repeat (first | refine blk_drewN ?_ _ | refine blk_drew ?_ | refine blk_alloc ?_ _)); exact BK349.out) hg (Kd.R_away HO_5.out (fun _ hk => hk))); have n3_ := Aside0.mk ((by rw [hw]; exact below_set (below_set (below_set (below_set (HB.out) GB63.out) GB63.out) GB63.out) GB63.out : Below w.heap.size w w77)); clear HO_5; clear BK318; clear BK349; clear HB; have HO_5 := n0_; have BK318 := n1_; have BK349 := n2_; have HB := n3_; clear n0_ n1_ n2_ n3_; clear hg hw hp_))
                                  (try simp only [add_plain])
                                  go_loopg [97] k4 (fun kq v97 w' => ∃ (x5_5 : List (S28)) (x97_5 : Int) (x350000_5 : Int) (x350001_5 : Int) (x350002_5 : Int) (x350003_5 : Int), v97 = .int .i64 x97_5 ∧ Aside0 (hopmeshlaw47_GossipPolite.l3 kq x5_5 (wrap64 (x11_4 + 1)) x66_3 x71_4 a0_0 x66_3 (x5_3.length : Int) x71_4 (x5_4.length : Int) x97_5 a0_0 a0_1 a0_2 = some r) ∧ Aside0 (kq ≤ k4) ∧ Aside0 (Kd.R k28 28 w' w.heap.size (fun k_ => k_ ≠ gb349) (.slice (some ⟨go63, 0, none⟩) x5_4.length co57) x5_5) ∧ Aside0 (w'.heap[gb318]? = some (.cells #[.int .i64 a0_0, .int .i64 a0_1, .int .i64 a0_2] 23 (0, 0))) ∧ Aside0 (w'.heap[gb349]? = some (.cells #[.int .i64 x350000_5, .int .i64 x350001_5, .int .i64 x350002_5, .int .i64 x350003_5] 28 (0, 0))) ∧ Aside0 (Below w.heap.size w w'))
                                  case atStart => exact ⟨(y350), (0), (t343), (t344), (t345), (t346), (by first | rfl | (simp; done) | (simp [*]; done)), H', ⟨Nat.le_refl _⟩, ⟨by (try simp only [hl5_4]); (with_reducible repeat (first | apply Kd.R_alloc | apply Kd.R_drewN | apply Kd.R_drew)); exact HO_5.out⟩, ⟨by (try simp only [hl5_4]); (with_reducible repeat (first | refine blk_drewN ?_ _ | refine blk_drew ?_ | refine blk_alloc ?_ _)); exact BK318.out⟩, ⟨by (try simp only [hl5_4]); (with_reducible repeat (first | refine blk_drewN ?_ _ | refine blk_drew ?_ | refine blk_alloc ?_ _)); exact BK349.out⟩, ⟨by repeat (first | (with_reducible first | exact HB.out | apply below_alloc | apply pw_below_drewN | apply below_drew1 | refine below_set ?_ GE318.out | refine below_set ?_ GE349.out) | exact HB.out)⟩⟩
                                  case round =>
                                    clear H'
                                    try clear c1
                                    try clear c2
                                    try clear p2
                                    try clear c3
                                    try clear p3
                                    try clear q3
                                    try clear hx3
                                    try clear c4
                                    try clear c5
                                    try clear c6
                                    try clear p6
                                    try clear q6
                                    try clear hx6
                                    try clear hf6
                                    try clear c7
                                    try clear hx7
                                    try clear hf7
                                    try clear c10
                                    try clear c12
                                    try clear c19
                                    try clear c22
                                    try clear c22b0
                                    try clear c23
                                    try clear c23b0
                                    try clear c24
                                    try clear c24b0
                                    try clear c26
                                    try clear c26b0
                                    try clear c26b1
                                    try clear c28
                                    try clear c32
                                    try clear p32
                                    try clear q32
                                    try clear hx32
                                    try clear p34
                                    try clear q34
                                    try clear hx34
                                    try clear c35
                                    try clear c36
                                    try clear c40
                                    try clear c56
                                    try clear c56b0
                                    try clear c58
                                    try clear c58b0
                                    try clear c59
                                    try clear c59b0
                                    try clear c60
                                    try clear c60b0
                                    try clear c62
                                    try clear c62b0
                                    try clear c62b1
                                    try clear c63
                                    try clear p63
                                    try clear q63
                                    try clear hx63
                                    try clear hf63
                                    try clear c64
                                    try clear p64
                                    try clear c74
                                    try clear c76
                                    try clear hx76
                                    try clear hf76
                                    try clear hcz29_0
                                    try clear hcz29_1
                                    try clear hcz29_2
                                    try clear hcz33_0
                                    try clear hcz33_1
                                    try clear hcz33_2
                                    try clear hcz33_3
                                    try clear hcz37_0
                                    try clear hcz37_1
                                    try clear hcz37_2
                                    try clear hcz41_0
                                    try clear hcz41_1
                                    try clear hcz41_2
                                    try clear hcz41_3
                                    try clear hcz55_0
                                    try clear hcz55_1
                                    try clear hcz55_2
                                    try clear hcz75_0
                                    try clear hcz75_1
                                    try clear hcz75_2
                                    try clear hcz75_3
                                    try clear hfz12_2
                                    try clear hfz14_0
                                    try clear hfz14_1
                                    try clear hfz14_2
                                    try clear hfz16_0
                                    try clear hfz16_1
                                    try clear hfz16_2
                                    try clear hfz29_0
                                    try clear hfz29_1
                                    try clear hfz29_2
                                    try clear hfz33_0
                                    try clear hfz33_1
                                    try clear hfz33_2
                                    try clear hfz33_3
                                    try clear hfz37_0
                                    try clear hfz37_1
                                    try clear hfz37_2
                                    try clear hfz41_0
                                    try clear hfz41_1
                                    try clear hfz41_2
                                    try clear hfz41_3
                                    try clear hfz55_0
                                    try clear hfz55_1
                                    try clear hfz55_2
                                    try clear hfz75_0
                                    try clear hfz75_1
                                    try clear hfz75_2
                                    try clear hfz75_3
                                    try clear hx322_0
                                    try clear hx342_0
                                    try clear hx342_1
                                    try clear hx342_2
                                    try clear hx342_3
                                    try clear hx63_0
                                    try clear hx63_1
                                    try clear hx63_2
                                    try clear hx63_3
                                    try clear hx76_0
                                    try clear hx76_1
                                    try clear hx76_2
                                    try clear hx76_3
                                    try clear p2
                                    try clear p3
                                    try clear p32
                                    try clear p322
                                    try clear p342
                                    try clear p6
                                    try clear p63
                                    try clear q3
                                    try clear q32
                                    try clear q322
                                    try clear q342
                                    try clear q63
                                    obtain ⟨x5_5, x97_5, x350000_5, x350001_5, x350002_5, x350003_5, rfl, HA, HK5, HO_5, BK318, BK349, HB⟩ := hrel
                                    have hl5_5 := (Kd.R_reads' HO_5.out).1
                                    rw [hl5_5] at HO_5
                                    (try simp only [hl5_5])
                                    (try simp only [hl5_5] at BK318)
                                    (try simp only [hl5_5] at BK349)
                                    cases gk with
                                    | zero => exact absurd HA.out (by simp [hopmeshlaw47_GossipPolite.l3])
                                    | succ k5 =>
                                      have H := HA.out
                                      clear HA
                                      simp only [hopmeshlaw47_GossipPolite.l3] at H
                                      by_cases c78 : x97_5 < (x5_4.length : Int)
                                      · rw [if_pos c78] at H
                                        have c78b0 : decide (x97_5 < (x5_4.length : Int)) = true := decide_eq_true c78
                                        clear c78
                                        (try (have c78h0 := c78b0; simp only [hl5_4, hl5_5] at c78h0))
                                        by_cases c79 : x97_5 = x71_4
                                        · rw [if_pos c79] at H
                                          have c79b0 : (x97_5 == x71_4) = true := beq_iff_eq.mpr c79
                                          have c79b1 : (x97_5 != x71_4) = false := bne_eq_false_iff_eq.mpr c79
                                          clear c79
                                          have H' := Aside0.mk H
                                          clear H
                                          go_wp2
                                          (try simp only [← hl5_5])
                                          go_roundg k5
                                          case measure => have := HJ2.out; have := HK2.out; have := HK3.out; have := HK4.out; have := HK5.out; omega
                                          case rel => exact ⟨(x5_5), (wrap64 (x97_5 + 1)), (x350000_5), (x350001_5), (x350002_5), (x350003_5), (by first | rfl | (simp; done) | (simp [*]; done)), H', ⟨by have := HJ2.out; have := HK2.out; have := HK3.out; have := HK4.out; have := HK5.out; omega⟩, ⟨by (try simp only [hl5_4]); (try simp only [hl5_5]); (with_reducible repeat (first | apply Kd.R_alloc | apply Kd.R_drewN | apply Kd.R_drew)); exact HO_5.out⟩, ⟨by (try simp only [hl5_4]); (try simp only [hl5_5]); (with_reducible repeat (first | refine blk_drewN ?_ _ | refine blk_drew ?_ | refine blk_alloc ?_ _)); exact BK318.out⟩, ⟨by (try simp only [hl5_4]); (try simp only [hl5_5]); (with_reducible repeat (first | refine blk_drewN ?_ _ | refine blk_drew ?_ | refine blk_alloc ?_ _)); exact BK349.out⟩, ⟨by repeat (first | (with_reducible first | exact HB.out | apply below_alloc | apply pw_below_drewN | apply below_drew1 | refine below_set ?_ GE318.out | refine below_set ?_ GE349.out) | exact HB.out)⟩⟩
                                        · rw [if_neg c79] at H
                                          have c79b0 : (x97_5 == x71_4) = false := beq_eq_false_iff_ne.mpr c79
                                          have c79b1 : (x97_5 != x71_4) = true := bne_iff_ne.mpr c79
                                          by_cases c80 : 0 ≤ x97_5
                                          · rw [if_pos c80] at H
                                            have c80b0 : decide (0 ≤ x97_5) = true := decide_eq_true c80
                                            clear c80
                                            by_cases c81 : x97_5 < (x5_5.length : Int)
                                            · rw [if_pos c81] at H
                                              have c81b0 : decide (x97_5 < (x5_5.length : Int)) = true := decide_eq_true c81
                                              clear c81
                                              (try (have c81h0 := c81b0; simp only [hl5_4, hl5_5] at c81h0))
                                              replace H := Option.bind_eq_some_iff.mp H
                                              obtain ⟨⟨t352, t353, t354, t355, t356⟩, A820, H⟩ := H
                                              replace H : (if t356 = 0 then (hopmeshlaw47_GossipPolite.l3 k5 (x5_5.set (x97_5 : Int).toNat (⟨t352, t353, t354, t355⟩ : S28)) (wrap64 (x11_4 + 1)) x66_3 x71_4 a0_0 x66_3 (x5_3.length : Int) x71_4 (x5_4.length : Int) (wrap64 (x97_5 + 1)) a0_0 a0_1 a0_2) else (some false)) = some r := H
                                              have A82 := Aside0.mk A820
                                              clear A820
                                              obtain ⟨y357, hy357⟩ : ∃ y_ : List (S28), y_ = (x5_5.set (x97_5 : Int).toNat (⟨t352, t353, t354, t355⟩ : S28)) := ⟨_, rfl⟩
                                              replace H : (if t356 = 0 then (hopmeshlaw47_GossipPolite.l3 k5 y357 (wrap64 (x11_4 + 1)) x66_3 x71_4 a0_0 x66_3 (x5_3.length : Int) x71_4 (x5_4.length : Int) (wrap64 (x97_5 + 1)) a0_0 a0_1 a0_2) else (some false)) = some r := by first | (rw [hy357]; with_reducible exact H) | (have H2_ := (Option.bind_some _ _).symm.trans H; rw [hy357]; with_reducible exact H2_) | (have H2_ := (Option.bind_some _ _).symm.trans H; with_reducible exact H2_) | with_reducible exact H | (rw [hy357]; exact H) | exact H
                                              have Ny357 := Aside0.mk hy357
                                              clear hy357
                                              by_cases c84 : t356 = 0
                                              · rw [if_pos c84] at H
                                                have c84b0 : (t356 == 0) = true := beq_iff_eq.mpr c84
                                                have c84b1 : (t356 != 0) = false := bne_eq_false_iff_eq.mpr c84
                                                clear c84
                                                have H' := Aside0.mk H
                                                clear H
                                                try go_wp2
                                                have n0_ := Aside0.mk (Kd.R_drew HO_5.out)
                                                have n1_ := Aside0.mk (blk_drew BK318.out)
                                                have n2_ := Aside0.mk (blk_drew BK349.out)
                                                have n3_ := Aside0.mk (below_drew1 HB.out)
                                                clear HO_5
                                                clear BK318
                                                clear BK349
                                                clear HB
                                                have HO_5 := n0_
                                                have BK318 := n1_
                                                have BK349 := n2_
                                                have HB := n3_
                                                clear n0_ n1_ n2_ n3_
                                                have p351 : 0 ≤ (x97_5 : Int) := of_decide_eq_true (by first | (with_reducible assumption) | assumption)
                                                have q351 : x97_5 < (x5_5.length : Int) := of_decide_eq_true (by first | (with_reducible assumption) | assumption)
                                                obtain ⟨ad351, e351, hx351_0, hx351_1, hx351_2, hx351_3⟩ := at_T28 (Kd.R_reads' HO_5.out).2.2 x97_5 p351 q351
                                                obtain rfl : (⟨go63, 0, none⟩ : Addr) = ad351 := (by injection e351)
                                                (first | simp only [add_plain] at hx351_0 | simp only [add_at] at hx351_0 | simp only [Addr.add, Nat.zero_add] at hx351_0 | skip)
                                                (first | simp only [add_plain] at hx351_1 | simp only [add_at] at hx351_1 | simp only [Addr.add, Nat.zero_add] at hx351_1 | skip)
                                                (first | simp only [add_plain] at hx351_2 | simp only [add_at] at hx351_2 | simp only [Addr.add, Nat.zero_add] at hx351_2 | skip)
                                                (first | simp only [add_plain] at hx351_3 | simp only [add_at] at hx351_3 | simp only [Addr.add, Nat.zero_add] at hx351_3 | skip)
                                                replace p351 := eq_true p351
                                                replace q351 := eq_true q351
                                                refine start_ (n := 15) (S := fun w' => w'.cell? ⟨gb318, 0, none⟩ = some (.int .i64 a0_0) ∧ w'.cell? ⟨gb318, 1, none⟩ = some (.int .i64 a0_1) ∧ w'.cell? ⟨gb318, 2, none⟩ = some (.int .i64 a0_2) ∧ w'.cell? ⟨go63, (x97_5).toNat * 4, none⟩ = some (.int .i64 ((rd_T28 x5_5 x97_5).f0)) ∧ w'.cell? ⟨go63, (x97_5).toNat * 4 + 1, none⟩ = some (.int .i64 ((rd_T28 x5_5 x97_5).f1)) ∧ w'.cell? ⟨go63, (x97_5).toNat * 4 + 2, none⟩ = some (.int .i64 ((rd_T28 x5_5 x97_5).f2)) ∧ w'.cell? ⟨go63, (x97_5).toNat * 4 + 3, none⟩ = some (.int .i64 ((rd_T28 x5_5 x97_5).f3))) (ds := [13]) #[false, false, false, false, false, false, false, false, false, false, false, false, false, false, false] (by kernel_rfl) rfl rfl ⟨(blk_cell BK318.out 0).trans rfl, (blk_cell BK318.out 1).trans rfl, (blk_cell BK318.out 2).trans rfl, hx351_0, hx351_1, hx351_2, hx351_3⟩ (fun hHeld => ?_); refine with_tabW hopmeshlaw47_GossipPolite.tab32 hopmeshlaw47_GossipPolite.bits32 (fun HT_ HW_ => ?_)
                                                generalize wr.drew = w85 at HO_5 BK318 BK349 HB hx351_0 hx351_1 hx351_2 hx351_3 hHeld ⊢
                                                refine pure_ (i := 0) (N := some 104) (v := ?_) (a' := ?_) #[true, false, false, false, false, false, false, false, false, false, false, false, false, false, false] rfl rfl (any_of HT_.out (by kernel_rfl)) (fun _ _ _ h => h) (Or.inl ⟨by rfl, ?_⟩) ?_ ?_
                                                rotate_left
                                                · intro w'
                                                  go_simp
                                                  with_reducible rfl
                                                rotate_left
                                                · simp only [Act.put, List.setIfInBounds_toArray, List.set_cons_zero, List.set_cons_succ, i64_w, i32_w]
                                                  rfl
                                                refine pure_ (i := 1) (N := some 105) (v := ?_) (a' := ?_) #[true, true, false, false, false, false, false, false, false, false, false, false, false, false, false] rfl rfl (any_of HT_.out (by kernel_rfl)) (fun _ _ _ h => h) (Or.inl ⟨by rfl, ?_⟩) ?_ ?_
                                                rotate_left
                                                · intro w'
                                                  go_simp
                                                  with_reducible rfl
                                                rotate_left
                                                · simp only [Act.put, List.setIfInBounds_toArray, List.set_cons_zero, List.set_cons_succ, i64_w, i32_w]
                                                  rfl
                                                refine pure_ (i := 3) (N := some 107) (v := ?_) (a' := ?_) #[true, true, false, true, false, false, false, false, false, false, false, false, false, false, false] rfl rfl (any_of HT_.out (by kernel_rfl)) (fun _ _ _ h => h) (Or.inl ⟨by rfl, ?_⟩) ?_ ?_
                                                rotate_left
                                                · intro w'
                                                  go_simp
                                                  with_reducible rfl
                                                rotate_left
                                                · simp only [Act.put, List.setIfInBounds_toArray, List.set_cons_zero, List.set_cons_succ, i64_w, i32_w]
                                                  rfl
                                                refine pure_ (i := 4) (N := some 108) (v := ?_) (a' := ?_) #[true, true, false, true, true, false, false, false, false, false, false, false, false, false, false] rfl rfl (any_of HT_.out (by kernel_rfl)) (fun _ _ _ h => h) (Or.inl ⟨by rfl, ?_⟩) ?_ ?_
                                                rotate_left
                                                · intro w'
                                                  go_simp
                                                  with_reducible rfl
                                                rotate_left
                                                · simp only [Act.put, List.setIfInBounds_toArray, List.set_cons_zero, List.set_cons_succ, i64_w, i32_w]
                                                  rfl
                                                refine pure_ (i := 5) (N := some 109) (v := ?_) (a' := ?_) #[true, true, false, true, true, true, false, false, false, false, false, false, false, false, false] rfl rfl (any_of HT_.out (by kernel_rfl)) (fun _ _ _ h => h) (Or.inl ⟨by rfl, ?_⟩) ?_ ?_
                                                rotate_left
                                                · intro w'
                                                  go_simp
                                                  with_reducible rfl
                                                rotate_left
                                                · simp only [Act.put, List.setIfInBounds_toArray, List.set_cons_zero, List.set_cons_succ, i64_w, i32_w]
                                                  rfl
                                                refine pure_ (i := 7) (N := some 111) (v := ?_) (a' := ?_) #[true, true, false, true, true, true, false, true, false, false, false, false, false, false, false] rfl rfl (any_of HT_.out (by kernel_rfl)) (fun _ _ _ h => h) (Or.inl ⟨by rfl, ?_⟩) ?_ ?_
                                                rotate_left
                                                · intro w'
                                                  go_simp
                                                  with_reducible rfl
                                                rotate_left
                                                · simp only [Act.put, List.setIfInBounds_toArray, List.set_cons_zero, List.set_cons_succ, i64_w, i32_w]
                                                  rfl
                                                refine take_ (i := 2) (N := some 106) (v := ?_) (a' := ?_) #[true, true, true, true, true, true, false, true, false, false, false, false, false, false, false] rfl rfl (take_ofW HT_.out HW_.out (by kernel_rfl)) (fun _ _ _ h => h) (Or.inl ⟨by rfl, ?_⟩) hHeld ?_ ?_
                                                rotate_left
                                                · rintro w' ⟨s0, s1, s2, s3, s4, s5, s6⟩
                                                  go_simp
                                                  with_reducible rfl
                                                rotate_left
                                                · simp only [Act.put, List.setIfInBounds_toArray, List.set_cons_zero, List.set_cons_succ, i64_w, i32_w]
                                                  rfl
                                                refine take_ (i := 6) (N := some 110) (v := ?_) (a' := ?_) #[true, true, true, true, true, true, true, true, false, false, false, false, false, false, false] rfl rfl (take_ofW HT_.out HW_.out (by kernel_rfl)) (fun _ _ _ h => h) (Or.inl ⟨by rfl, ?_⟩) hHeld ?_ ?_
                                                rotate_left
                                                · rintro w' ⟨s0, s1, s2, s3, s4, s5, s6⟩
                                                  go_simp
                                                  with_reducible rfl
                                                rotate_left
                                                · simp only [Act.put, List.setIfInBounds_toArray, List.set_cons_zero, List.set_cons_succ, i64_w, i32_w]
                                                  rfl
                                                refine one_ (i := 8) (N := some 112) #[true, true, true, true, true, true, true, true, true, false, false, false, false, false, false] rfl rfl (one_of HT_.out (by kernel_rfl)) (by decide) (fun K hK => ?_)
                                                refine goes_ Try.func14 (by kernel_rfl) rfl #[.agg #[.int .i64 a0_0, .int .i64 a0_1, .int .i64 a0_2], .agg #[.int .i64 ((rd_T28 x5_5 x97_5).f0), .int .i64 ((rd_T28 x5_5 x97_5).f1), .int .i64 ((rd_T28 x5_5 x97_5).f2), .int .i64 ((rd_T28 x5_5 x97_5).f3)], .bool true, .int .i64 x66_3, .int .u32 0] (by rfl) rfl rfl (by (try simp only [List.map_toArray, List.map_cons, List.map_nil]); first | done | rfl | (simp only [List.length_drop, List.length_take]; rfl)) ?_
                                                with_reducible refine (gossip_Hear.calls k5 a0_0 a0_1 a0_2 ((rd_T28 x5_5 x97_5).f0) ((rd_T28 x5_5 x97_5).f1) ((rd_T28 x5_5 x97_5).f2) ((rd_T28 x5_5 x97_5).f3) true x66_3 0 t352 t353 t354 t355 t356 _ A82.out).mono ?_
                                                rintro e w86 ⟨rfl, hb⟩
                                                have HS3_ := (hb.cell (World.block_lt_of_cell? _ _ (hHeld.2.2.2.1))).trans (hHeld.2.2.2.1)
                                                have HS4_ := (hb.cell (World.block_lt_of_cell? _ _ (hHeld.2.2.2.2.1))).trans (hHeld.2.2.2.2.1)
                                                have HS5_ := (hb.cell (World.block_lt_of_cell? _ _ (hHeld.2.2.2.2.2.1))).trans (hHeld.2.2.2.2.2.1)
                                                have HS6_ := (hb.cell (World.block_lt_of_cell? _ _ (hHeld.2.2.2.2.2.2))).trans (hHeld.2.2.2.2.2.2)
                                                refine ⟨_, rfl, ?_⟩
                                                have n0_ := Aside0.mk (Kd.R_below (by (with_reducible repeat (first | apply Kd.R_alloc | apply Kd.R_drewN | apply Kd.R_drew)); exact HO_5.out) hb)
                                                have n1_ := Aside0.mk (blk_below (g := gb318) (o := .cells #[.int .i64 a0_0, .int .i64 a0_1, .int .i64 a0_2] 23 (0, 0)) (by (with_reducible repeat (first | refine blk_drewN ?_ _ | refine blk_drew ?_ | refine blk_alloc ?_ _)); exact BK318.out) hb)
                                                have n2_ := Aside0.mk (blk_below (g := gb349) (o := .cells #[.int .i64 x350000_5, .int .i64 x350001_5, .int .i64 x350002_5, .int .i64 x350003_5] 28 (0, 0)) (by (with_reducible repeat (first | refine blk_drewN ?_ _ | refine blk_drew ?_ | refine blk_alloc ?_ _)); exact BK349.out) hb)
                                                have n3_ := Aside0.mk (below_step (by repeat (first | (with_reducible first | exact HB.out | apply below_alloc | apply pw_below_drewN | apply below_drew1 | refine below_set ?_ GE318.out | refine below_set ?_ GE349.out) | exact HB.out)) hb)
                                                clear HO_5
                                                clear BK318
                                                clear BK349
                                                clear HB
                                                have HO_5 := n0_
                                                have BK318 := n1_
                                                have BK349 := n2_
                                                have HB := n3_
                                                clear n0_ n1_ n2_ n3_
                                                (try clear hb)
                                                (try clear hb2)
                                                (try clear hk)
                                                (try clear hi)
                                                have p83 : 0 ≤ (x97_5 : Int) := of_decide_eq_true (by first | (with_reducible assumption) | assumption)
                                                have q83 : (x97_5 : Int) < ((x5_5.length : Int) : Int) := of_decide_eq_true (by first | (with_reducible assumption) | assumption)
                                                obtain ⟨ce83, hcl83, hM83, hcc83, hfr83⟩ := Kd.R_elem HO_5.out z28 (x97_5 : Int) p83 q83
                                                obtain rfl := k28_openM hM83
                                                have hx83_0 : World.cell? _ ⟨go63, (x97_5 : Int).toNat * 4, none⟩ = some (.int .i64 ((rd_T28 x5_5 x97_5).f0)) := hcc83 0 _ rfl
                                                have hx83_1 : World.cell? _ ⟨go63, (x97_5 : Int).toNat * 4 + 1, none⟩ = some (.int .i64 ((rd_T28 x5_5 x97_5).f1)) := hcc83 1 _ rfl
                                                have hx83_2 : World.cell? _ ⟨go63, (x97_5 : Int).toNat * 4 + 2, none⟩ = some (.int .i64 ((rd_T28 x5_5 x97_5).f2)) := hcc83 2 _ rfl
                                                have hx83_3 : World.cell? _ ⟨go63, (x97_5 : Int).toNat * 4 + 3, none⟩ = some (.int .i64 ((rd_T28 x5_5 x97_5).f3)) := hcc83 3 _ rfl
                                                have hf83_0 : World.frozen? _ ⟨go63, (x97_5 : Int).toNat * 4, none⟩ = false := hfr83 0
                                                have hf83_1 : World.frozen? _ ⟨go63, (x97_5 : Int).toNat * 4 + 1, none⟩ = false := hfr83 1
                                                have hf83_2 : World.frozen? _ ⟨go63, (x97_5 : Int).toNat * 4 + 2, none⟩ = false := hfr83 2
                                                have hf83_3 : World.frozen? _ ⟨go63, (x97_5 : Int).toNat * 4 + 3, none⟩ = false := hfr83 3
                                                clear hcl83 hcc83 hfr83 hM83
                                                replace p83 := eq_true p83
                                                replace q83 := eq_true q83
                                                obtain ⟨ce87, hcl87, hM87, hcc87, hfr87⟩ := Kd.R_elem HO_5.out z28 (x97_5 : Int) (of_decide_eq_true (by first | (with_reducible assumption) | assumption)) (by have h_ : (x97_5 : Int) < ((x5_5.length : Int) : Int) := of_decide_eq_true (by first | (with_reducible assumption) | assumption); first | exact h_ | (have e_ := (Kd.R_reads' HO_5.out).1; omega) | simpa using h_)
                                                obtain rfl := k28_openM hM87
                                                have HP87 := (Kd.R_seg HO_5.out (x97_5 : Int) (of_decide_eq_true (by first | (with_reducible assumption) | assumption)) (by have h_ : (x97_5 : Int) < ((x5_5.length : Int) : Int) := of_decide_eq_true (by first | (with_reducible assumption) | assumption); first | exact h_ | (have e_ := (Kd.R_reads' HO_5.out).1; omega) | simpa using h_) (seg := [.int .i64 t352, .int .i64 t353, .int .i64 t354, .int .i64 t355]) (j := 0) hcl87 hcc87 (show 4 ≤ 4 from by decide) (x' := (⟨t352, t353, t354, t355⟩ : S28)) (k28_mkM _ _ _ (⟨t352, t353, t354, t355⟩ : S28) ) (fun _ hk => hk)).1
                                                rw [← Ny357.out] at HP87
                                                have HQ87 := Aside0.mk HP87
                                                clear hcl87 hcc87 hfr87 hM87 HP87
                                                refine hK.out _ _ ⟨(blk_cell BK318.out 0).trans rfl, (blk_cell BK318.out 1).trans rfl, (blk_cell BK318.out 2).trans rfl, HS3_, HS4_, HS5_, HS6_⟩ (fun hHeld => ?_)
                                                clear hK K
                                                refine norm_ (a' := ?_) ?_ ?_
                                                rotate_left
                                                · show Act.put _ (some 112) _ = _
                                                  simp only [Act.put, List.setIfInBounds_toArray, List.set_cons_zero, List.set_cons_succ, i64_w, i32_w]
                                                  rfl
                                                refine pure_ (i := 9) (N := some 103) (v := ?_) (a' := ?_) #[true, true, true, true, true, true, true, true, true, true, false, false, false, false, false] rfl rfl (any_of HT_.out (by kernel_rfl)) (fun _ _ _ h => h) (Or.inl ⟨by rfl, ?_⟩) ?_ ?_
                                                rotate_left
                                                · intro w'
                                                  go_simp
                                                  with_reducible rfl
                                                rotate_left
                                                · simp only [Act.put, List.setIfInBounds_toArray, List.set_cons_zero, List.set_cons_succ, i64_w, i32_w]
                                                  rfl
                                                refine pure_ (i := 10) (N := some 113) (v := ?_) (a' := ?_) #[true, true, true, true, true, true, true, true, true, true, true, false, false, false, false] rfl rfl (any_of HT_.out (by kernel_rfl)) (fun _ _ _ h => h) (Or.inl ⟨by rfl, ?_⟩) ?_ ?_
                                                rotate_left
                                                · intro w'
                                                  go_simp
                                                  with_reducible rfl
                                                rotate_left
                                                · simp only [Act.put, List.setIfInBounds_toArray, List.set_cons_zero, List.set_cons_succ, i64_w, i32_w]
                                                  rfl
                                                refine pure_ (i := 11) (N := some 114) (v := ?_) (a' := ?_) #[true, true, true, true, true, true, true, true, true, true, true, true, false, false, false] rfl rfl (any_of HT_.out (by kernel_rfl)) (fun _ _ _ h => h) (Or.inl ⟨by rfl, ?_⟩) ?_ ?_
                                                rotate_left
                                                · intro w'
                                                  go_simp
                                                  with_reducible rfl
                                                rotate_left
                                                · simp only [Act.put, List.setIfInBounds_toArray, List.set_cons_zero, List.set_cons_succ, i64_w, i32_w]
                                                  rfl
                                                refine pure_ (i := 12) (N := some 115) (v := ?_) (a' := ?_) #[true, true, true, true, true, true, true, true, true, true, true, true, true, false, false] rfl rfl (any_of HT_.out (by kernel_rfl)) (fun _ _ _ h => h) (Or.inl ⟨by rfl, ?_⟩) ?_ ?_
                                                rotate_left
                                                · intro w'
                                                  go_simp
                                                  with_reducible rfl
                                                rotate_left
                                                · simp only [Act.put, List.setIfInBounds_toArray, List.set_cons_zero, List.set_cons_succ, i64_w, i32_w]
                                                  rfl
                                                refine last_ (i := 13) (N := none) #[true, true, true, true, true, true, true, true, true, true, true, true, true, true, false] rfl rfl (one_of HT_.out (by kernel_rfl)) (by decide) (fun K hK => ?_)
                                                refine skip_ (w1 := ?_) (by rfl) rfl ?_ ?_
                                                rotate_left
                                                · go_simp
                                                  rfl
                                                refine hK.out _ _ ?_
                                                clear hK K
                                                refine pure_ (i := 14) (N := some 16) (v := ?_) (a' := ?_) #[true, true, true, true, true, true, true, true, true, true, true, true, true, true, true] rfl rfl (any_of HT_.out (by kernel_rfl)) (fun _ _ _ h => h) (Or.inl ⟨by rfl, ?_⟩) ?_ ?_
                                                rotate_left
                                                · intro w'
                                                  go_simp
                                                  with_reducible rfl
                                                rotate_left
                                                · simp only [Act.put, List.setIfInBounds_toArray, List.set_cons_zero, List.set_cons_succ, i64_w, i32_w]
                                                  rfl
                                                refine done_ (done_of HT_.out (by kernel_rfl)) ?_
                                                try go_wp2
                                                (try simp only [← hl5_5])
                                                go_roundg k5
                                                case measure => have := HJ2.out; have := HK2.out; have := HK3.out; have := HK4.out; have := HK5.out; omega
                                                case rel => exact ⟨(y357), (wrap64 (x97_5 + 1)), (x350000_5), (x350001_5), (x350002_5), (x350003_5), (by first | rfl | (simp; done) | (simp [*]; done)), H', ⟨by have := HJ2.out; have := HK2.out; have := HK3.out; have := HK4.out; have := HK5.out; omega⟩, ⟨by (try simp only [hl5_4]); (try simp only [hl5_5]); (with_reducible repeat (first | apply Kd.R_alloc | apply Kd.R_drewN | apply Kd.R_drew)); exact HQ87.out⟩, ⟨by (try simp only [hl5_4]); (try simp only [hl5_5]); (with_reducible repeat (first | refine blk_drewN ?_ _ | refine blk_drew ?_ | refine blk_alloc ?_ _)); refine blk_far ?_ (by have h_ := Kd.R_ne HO_5.out BK318.out (by decide); intro e_; exact h_ (by rw [e_]; rfl)) _; (with_reducible repeat (first | refine blk_drewN ?_ _ | refine blk_drew ?_ | refine blk_alloc ?_ _)); refine blk_far ?_ (by have h_ := Kd.R_ne HO_5.out BK318.out (by decide); intro e_; exact h_ (by rw [e_]; rfl)) _; (with_reducible repeat (first | refine blk_drewN ?_ _ | refine blk_drew ?_ | refine blk_alloc ?_ _)); refine blk_far ?_ (by have h_ := Kd.R_ne HO_5.out BK318.out (by decide); intro e_; exact h_ (by rw [e_]; rfl)) _; (with_reducible repeat (first | refine blk_drewN ?_ _ | refine blk_drew ?_ | refine blk_alloc ?_ _)); refine blk_far ?_ (by have h_ := Kd.R_ne HO_5.out BK318.out (by decide); intro e_; exact h_ (by rw [e_]; rfl)) _; (with_reducible repeat (first | refine blk_drewN ?_ _ | refine blk_drew ?_ | refine blk_alloc ?_ _)); exact BK318.out⟩, ⟨by (try simp only [hl5_4]); (try simp only [hl5_5]); (with_reducible repeat (first | refine blk_drewN ?_ _ | refine blk_drew ?_ | refine blk_alloc ?_ _)); refine blk_far ?_ (by have h_ := Kd.R_away HO_5.out (fun _ hk => hk); intro e_; exact h_ (by rw [e_]; rfl)) _; (with_reducible repeat (first | refine blk_drewN ?_ _ | refine blk_drew ?_ | refine blk_alloc ?_ _)); refine blk_far ?_ (by have h_ := Kd.R_away HO_5.out (fun _ hk => hk); intro e_; exact h_ (by rw [e_]; rfl)) _; (with_reducible repeat (first | refine blk_drewN ?_ _ | refine blk_drew ?_ | refine blk_alloc ?_ _)); refine blk_far ?_ (by have h_ := Kd.R_away HO_5.out (fun _ hk => hk); intro e_; exact h_ (by rw [e_]; rfl)) _; (with_reducible repeat (first | refine blk_drewN ?_ _ | refine blk_drew ?_ | refine blk_alloc ?_ _)); refine blk_far ?_ (by have h_ := Kd.R_away HO_5.out (fun _ hk => hk); intro e_; exact h_ (by rw [e_]; rfl)) _; (with_reducible repeat (first | refine blk_drewN ?_ _ | refine blk_drew ?_ | refine blk_alloc ?_ _)); exact BK349.out⟩, ⟨by repeat (first | (with_reducible first | exact HB.out | apply below_alloc | apply pw_below_drewN | apply below_drew1 | refine below_set ?_ GB63.out | refine below_set ?_ GB63.out | refine below_set ?_ GB63.out | refine below_set ?_ GB63.out | refine below_set ?_ GE318.out | refine below_set ?_ GE349.out) | exact HB.out)⟩⟩
                                              · rw [if_neg c84] at H
                                                have c84b0 : (t356 == 0) = false := beq_eq_false_iff_ne.mpr c84
                                                have c84b1 : (t356 != 0) = true := bne_iff_ne.mpr c84
                                                exact absurd (H.trans (congrArg some HRT.out)) (by simp)
                                            · rw [if_neg c81] at H
                                              exact absurd H (by simp)
                                          · rw [if_neg c80] at H
                                            exact absurd H (by simp)
                                      · rw [if_neg c78] at H
                                        have c78b0 : decide (x97_5 < (x5_4.length : Int)) = false := decide_eq_false c78
                                        clear c78
                                        (try (have c78h0 := c78b0; simp only [hl5_4, hl5_5] at c78h0))
                                        have H' := Aside0.mk H
                                        clear H
                                        go_wp2
                                        (try simp only [← hl5_4, ← hl5_5])
                                        go_roundg k5
                                        case measure => have := HJ2.out; have := HK2.out; have := HK3.out; have := HK4.out; have := HK5.out; omega
                                        case rel => exact ⟨(x5_5), ((wrap64 (x11_4 + 1))), (wrap64 (x71_4 + 1)), (by first | rfl | (simp; done) | (simp [*]; done)), (by first | rfl | (simp; done) | (simp [*]; done)), H', ⟨by have := HJ2.out; have := HK2.out; have := HK3.out; have := HK4.out; have := HK5.out; omega⟩, ⟨by (try simp only [hl5_4]); (try simp only [hl5_5]); (with_reducible repeat (first | apply Kd.R_alloc | apply Kd.R_drewN | apply Kd.R_drew)); exact Kd.R_mono HO_5.out (fun _ hk => trivial)⟩, ⟨by (try simp only [hl5_4]); (try simp only [hl5_5]); (with_reducible repeat (first | refine blk_drewN ?_ _ | refine blk_drew ?_ | refine blk_alloc ?_ _)); exact BK318.out⟩, ⟨by repeat (first | (with_reducible first | exact HB.out | apply below_alloc | apply pw_below_drewN | apply below_drew1 | refine below_set ?_ GE318.out | refine below_set ?_ GE349.out) | exact HB.out)⟩⟩
                                · replace c64 := Bool.eq_false_iff.mpr c64
                                  subst c64
                                  have H1 : (hopmeshlaw47_GossipPolite.l2 k4 y350 x11_4 x66_3 a0_0 x66_3 (x5_3.length : Int) (wrap64 (x71_4 + 1)) a0_0 a0_1 a0_2) = some r := by rw [if_neg (show ¬ (false = true) by decide)] at H; exact H
                                  clear H
                                  have H := H1
                                  clear H1
                                  have H' := Aside0.mk H
                                  clear H
                                  try go_wp2
                                  have n0_ := Aside0.mk (Kd.R_drew HO_5.out)
                                  have n1_ := Aside0.mk (blk_drew BK318.out)
                                  have n2_ := Aside0.mk (below_drew1 HB.out)
                                  clear HO_5
                                  clear BK318
                                  clear HB
                                  have HO_5 := n0_
                                  have BK318 := n1_
                                  have HB := n2_
                                  clear n0_ n1_ n2_
                                  have p342 : 0 ≤ (x71_4 : Int) := of_decide_eq_true (by first | (with_reducible assumption) | assumption)
                                  have q342 : x71_4 < (x5_4.length : Int) := of_decide_eq_true (by first | (with_reducible assumption) | assumption)
                                  obtain ⟨ad342, e342, hx342_0, hx342_1, hx342_2, hx342_3⟩ := at_T28 (Kd.R_reads' HO_5.out).2.2 x71_4 p342 q342
                                  cases e342
                                  replace p342 := eq_true p342
                                  replace q342 := eq_true q342
                                  refine start_ (n := 15) (S := fun w' => w'.cell? ⟨gb318, 0, none⟩ = some (.int .i64 a0_0) ∧ w'.cell? ⟨gb318, 1, none⟩ = some (.int .i64 a0_1) ∧ w'.cell? ⟨gb318, 2, none⟩ = some (.int .i64 a0_2) ∧ w'.cell? (ad342.add ((x71_4).toNat * 4)) = some (.int .i64 ((rd_T28 x5_4 x71_4).f0)) ∧ w'.cell? ⟨(ad342.add ((x71_4).toNat * 4)).block, (ad342.add ((x71_4).toNat * 4)).off + 1, none⟩ = some (.int .i64 ((rd_T28 x5_4 x71_4).f1)) ∧ w'.cell? ⟨(ad342.add ((x71_4).toNat * 4)).block, (ad342.add ((x71_4).toNat * 4)).off + 2, none⟩ = some (.int .i64 ((rd_T28 x5_4 x71_4).f2)) ∧ w'.cell? ⟨(ad342.add ((x71_4).toNat * 4)).block, (ad342.add ((x71_4).toNat * 4)).off + 3, none⟩ = some (.int .i64 ((rd_T28 x5_4 x71_4).f3))) (ds := []) #[false, false, false, false, false, false, false, false, false, false, false, false, false, false, false] (by kernel_rfl) rfl rfl ⟨(blk_cell BK318.out 0).trans rfl, (blk_cell BK318.out 1).trans rfl, (blk_cell BK318.out 2).trans rfl, hx342_0, hx342_1, hx342_2, hx342_3⟩ (fun hHeld => ?_); refine with_tabW hopmeshlaw47_GossipPolite.tab22 hopmeshlaw47_GossipPolite.bits22 (fun HT_ HW_ => ?_)
                                  generalize wr.drew = w88 at HO_5 BK318 HB hx342_0 hx342_1 hx342_2 hx342_3 hHeld ⊢
                                  refine pure_ (i := 1) (N := some 76) (v := ?_) (a' := ?_) #[false, true, false, false, false, false, false, false, false, false, false, false, false, false, false] rfl rfl (any_of HT_.out (by kernel_rfl)) (fun _ _ _ h => h) (Or.inl ⟨by rfl, ?_⟩) ?_ ?_
                                  rotate_left
                                  · intro w'
                                    go_simp
                                    with_reducible rfl
                                  rotate_left
                                  · simp only [Act.put, List.setIfInBounds_toArray, List.set_cons_zero, List.set_cons_succ, i64_w, i32_w]
                                    rfl
                                  refine pure_ (i := 2) (N := some 77) (v := ?_) (a' := ?_) #[false, true, true, false, false, false, false, false, false, false, false, false, false, false, false] rfl rfl (any_of HT_.out (by kernel_rfl)) (fun _ _ _ h => h) (Or.inl ⟨by rfl, ?_⟩) ?_ ?_
                                  rotate_left
                                  · intro w'
                                    go_simp
                                    with_reducible rfl
                                  rotate_left
                                  · simp only [Act.put, List.setIfInBounds_toArray, List.set_cons_zero, List.set_cons_succ, i64_w, i32_w]
                                    rfl
                                  refine pure_ (i := 3) (N := some 78) (v := ?_) (a' := ?_) #[false, true, true, true, false, false, false, false, false, false, false, false, false, false, false] rfl rfl (any_of HT_.out (by kernel_rfl)) (fun _ _ _ h => h) (Or.inl ⟨by rfl, ?_⟩) ?_ ?_
                                  rotate_left
                                  · intro w'
                                    go_simp
                                    with_reducible rfl
                                  rotate_left
                                  · simp only [Act.put, List.setIfInBounds_toArray, List.set_cons_zero, List.set_cons_succ, i64_w, i32_w]
                                    rfl
                                  refine pure_ (i := 5) (N := some 80) (v := ?_) (a' := ?_) #[false, true, true, true, false, true, false, false, false, false, false, false, false, false, false] rfl rfl (any_of HT_.out (by kernel_rfl)) (fun _ _ _ h => h) (Or.inl ⟨by rfl, ?_⟩) ?_ ?_
                                  rotate_left
                                  · intro w'
                                    go_simp
                                    with_reducible rfl
                                  rotate_left
                                  · simp only [Act.put, List.setIfInBounds_toArray, List.set_cons_zero, List.set_cons_succ, i64_w, i32_w]
                                    rfl
                                  refine take_ (i := 0) (N := some 75) (v := ?_) (a' := ?_) #[true, true, true, true, false, true, false, false, false, false, false, false, false, false, false] rfl rfl (take_ofW HT_.out HW_.out (by kernel_rfl)) (fun _ _ _ h => h) (Or.inl ⟨by rfl, ?_⟩) hHeld ?_ ?_
                                  rotate_left
                                  · rintro w' ⟨s0, s1, s2, s3, s4, s5, s6⟩
                                    go_simp
                                    with_reducible rfl
                                  rotate_left
                                  · simp only [Act.put, List.setIfInBounds_toArray, List.set_cons_zero, List.set_cons_succ, i64_w, i32_w]
                                    rfl
                                  refine take_ (i := 4) (N := some 79) (v := ?_) (a' := ?_) #[true, true, true, true, true, true, false, false, false, false, false, false, false, false, false] rfl rfl (take_ofW HT_.out HW_.out (by kernel_rfl)) (fun _ _ _ h => h) (Or.inl ⟨by rfl, ?_⟩) hHeld ?_ ?_
                                  rotate_left
                                  · rintro w' ⟨s0, s1, s2, s3, s4, s5, s6⟩
                                    go_simp
                                    with_reducible rfl
                                  rotate_left
                                  · simp only [Act.put, List.setIfInBounds_toArray, List.set_cons_zero, List.set_cons_succ, i64_w, i32_w]
                                    rfl
                                  refine join_ (σ := Nat) 3 #[true, true, true, true, true, true, true, true, true, true, true, true, false, false, false] (fun s_ => [(81, .tuple #[.agg #[.int .i64 t343, .int .i64 t344, .int .i64 t345, .int .i64 t346], .bool false, .int .i64 t348]), (14, .pointer (some ⟨s_, 0, none⟩)), (74, .tuple #[.agg #[.int .i64 t343, .int .i64 t344, .int .i64 t345, .int .i64 t346], .bool false, .int .i64 t348]), (82, .agg #[.int .i64 t343, .int .i64 t344, .int .i64 t345, .int .i64 t346]), (83, .bool false), (84, .int .i64 t348)]) (fun s_ w' => (w'.cell? ⟨gb318, 0, none⟩ = some (.int .i64 a0_0) ∧ w'.cell? ⟨gb318, 1, none⟩ = some (.int .i64 a0_1) ∧ w'.cell? ⟨gb318, 2, none⟩ = some (.int .i64 a0_2) ∧ w'.cell? (ad342.add ((x71_4).toNat * 4)) = some (.int .i64 ((rd_T28 x5_4 x71_4).f0)) ∧ w'.cell? ⟨(ad342.add ((x71_4).toNat * 4)).block, (ad342.add ((x71_4).toNat * 4)).off + 1, none⟩ = some (.int .i64 ((rd_T28 x5_4 x71_4).f1)) ∧ w'.cell? ⟨(ad342.add ((x71_4).toNat * 4)).block, (ad342.add ((x71_4).toNat * 4)).off + 2, none⟩ = some (.int .i64 ((rd_T28 x5_4 x71_4).f2)) ∧ w'.cell? ⟨(ad342.add ((x71_4).toNat * 4)).block, (ad342.add ((x71_4).toNat * 4)).off + 3, none⟩ = some (.int .i64 ((rd_T28 x5_4 x71_4).f3))) ∧ (Kd.R k28 28 w' w.heap.size (fun k_ => k_ ≠ s_) (.slice (some ad342) x5_4.length co57) x5_4) ∧ (w'.heap[gb318]? = some (.cells #[.int .i64 a0_0, .int .i64 a0_1, .int .i64 a0_2] 23 (0, 0))) ∧ (w'.heap[s_]? = some (.cells #[.int .i64 0, .int .i64 0, .int .i64 0, .int .i64 0] 28 (0, 0))) ∧ (w.heap.size ≤ s_) ∧ (w.heap.size ≤ s_) ∧ (gb318 ≠ s_) ∧ (s_ ≠ gb318) ∧ (Below w.heap.size w w')) ?_ ?_
                                  rotate_left
                                  · intro hCont
                                    refine two_ (i := 6) (j := 11) (Ni := some 81) (Nj := some 14) #[true, true, true, true, true, true, true, false, false, false, false, false, false, false, false] #[true, true, true, true, true, true, false, false, false, false, false, true, false, false, false] rfl rfl rfl rfl (two_of HT_.out (by kernel_rfl)) (by decide) (by decide) (fun K hK => ?_) (fun K hK => ?_)
                                    · skip
                                      refine goes_ Try.func12 (by kernel_rfl) rfl #[.agg #[.int .i64 a0_0, .int .i64 a0_1, .int .i64 a0_2], .agg #[.int .i64 ((rd_T28 x5_4 x71_4).f0), .int .i64 ((rd_T28 x5_4 x71_4).f1), .int .i64 ((rd_T28 x5_4 x71_4).f2), .int .i64 ((rd_T28 x5_4 x71_4).f3)], .int .i64 x66_3, .int .u32 0] (by rfl) rfl rfl (by (try simp only [List.map_toArray, List.map_cons, List.map_nil]); first | done | rfl | (simp only [List.length_drop, List.length_take]; rfl)) ?_
                                      with_reducible refine (gossip_Step.calls k4 a0_0 a0_1 a0_2 ((rd_T28 x5_4 x71_4).f0) ((rd_T28 x5_4 x71_4).f1) ((rd_T28 x5_4 x71_4).f2) ((rd_T28 x5_4 x71_4).f3) x66_3 0 t343 t344 t345 t346 false t348 _ A61.out).mono ?_
                                      rintro e w89 ⟨rfl, hb⟩
                                      have HS3_ := (hb.cell (World.block_lt_of_cell? _ _ (hHeld.2.2.2.1))).trans (hHeld.2.2.2.1)
                                      have HS4_ := (hb.cell (World.block_lt_of_cell? _ _ (hHeld.2.2.2.2.1))).trans (hHeld.2.2.2.2.1)
                                      have HS5_ := (hb.cell (World.block_lt_of_cell? _ _ (hHeld.2.2.2.2.2.1))).trans (hHeld.2.2.2.2.2.1)
                                      have HS6_ := (hb.cell (World.block_lt_of_cell? _ _ (hHeld.2.2.2.2.2.2))).trans (hHeld.2.2.2.2.2.2)
                                      refine ⟨_, rfl, ?_⟩
                                      have n0_ := Aside0.mk (Kd.R_below (by (with_reducible repeat (first | apply Kd.R_alloc | apply Kd.R_drewN | apply Kd.R_drew)); exact HO_5.out) hb)
                                      have n1_ := Aside0.mk (blk_below (g := gb318) (o := .cells #[.int .i64 a0_0, .int .i64 a0_1, .int .i64 a0_2] 23 (0, 0)) (by (with_reducible repeat (first | refine blk_drewN ?_ _ | refine blk_drew ?_ | refine blk_alloc ?_ _)); exact BK318.out) hb)
                                      have n2_ := Aside0.mk (below_step (by repeat (first | (with_reducible first | exact HB.out | apply below_alloc | apply pw_below_drewN | apply below_drew1 | refine below_set ?_ GE318.out) | exact HB.out)) hb)
                                      clear HO_5
                                      clear BK318
                                      clear HB
                                      have HO_5 := n0_
                                      have BK318 := n1_
                                      have HB := n2_
                                      clear n0_ n1_ n2_
                                      (try clear hb)
                                      (try clear hb2)
                                      (try clear hk)
                                      (try clear hi)
                                      refine hK.out _ _ ⟨(blk_cell BK318.out 0).trans rfl, (blk_cell BK318.out 1).trans rfl, (blk_cell BK318.out 2).trans rfl, HS3_, HS4_, HS5_, HS6_⟩ (fun hHeld => ?_)
                                      clear hK K
                                      refine norm_ (a' := ?_) ?_ ?_
                                      rotate_left
                                      · show Act.put _ (some 81) _ = _
                                        simp only [Act.put, List.setIfInBounds_toArray, List.set_cons_zero, List.set_cons_succ, i64_w, i32_w]
                                        rfl
                                      refine pure_ (i := 7) (N := some 74) (v := ?_) (a' := ?_) #[true, true, true, true, true, true, true, true, false, false, false, false, false, false, false] rfl rfl (any_of HT_.out (by kernel_rfl)) (fun _ _ _ h => h) (Or.inl ⟨by rfl, ?_⟩) ?_ ?_
                                      rotate_left
                                      · intro w'
                                        go_simp
                                        with_reducible rfl
                                      rotate_left
                                      · simp only [Act.put, List.setIfInBounds_toArray, List.set_cons_zero, List.set_cons_succ, i64_w, i32_w]
                                        rfl
                                      refine pure_ (i := 8) (N := some 82) (v := ?_) (a' := ?_) #[true, true, true, true, true, true, true, true, true, false, false, false, false, false, false] rfl rfl (any_of HT_.out (by kernel_rfl)) (fun _ _ _ h => h) (Or.inl ⟨by rfl, ?_⟩) ?_ ?_
                                      rotate_left
                                      · intro w'
                                        go_simp
                                        with_reducible rfl
                                      rotate_left
                                      · simp only [Act.put, List.setIfInBounds_toArray, List.set_cons_zero, List.set_cons_succ, i64_w, i32_w]
                                        rfl
                                      refine pure_ (i := 9) (N := some 83) (v := ?_) (a' := ?_) #[true, true, true, true, true, true, true, true, true, true, false, false, false, false, false] rfl rfl (any_of HT_.out (by kernel_rfl)) (fun _ _ _ h => h) (Or.inl ⟨by rfl, ?_⟩) ?_ ?_
                                      rotate_left
                                      · intro w'
                                        go_simp
                                        with_reducible rfl
                                      rotate_left
                                      · simp only [Act.put, List.setIfInBounds_toArray, List.set_cons_zero, List.set_cons_succ, i64_w, i32_w]
                                        rfl
                                      refine pure_ (i := 10) (N := some 84) (v := ?_) (a' := ?_) #[true, true, true, true, true, true, true, true, true, true, true, false, false, false, false] rfl rfl (any_of HT_.out (by kernel_rfl)) (fun _ _ _ h => h) (Or.inl ⟨by rfl, ?_⟩) ?_ ?_
                                      rotate_left
                                      · intro w'
                                        go_simp
                                        with_reducible rfl
                                      rotate_left
                                      · simp only [Act.put, List.setIfInBounds_toArray, List.set_cons_zero, List.set_cons_succ, i64_w, i32_w]
                                        rfl
                                      refine one_ (i := 11) (N := some 14) #[true, true, true, true, true, true, true, true, true, true, true, true, false, false, false] rfl rfl (one_of HT_.out (by kernel_rfl)) (by decide) (fun K hK => ?_)
                                      refine box_step ?hg (N := 14) ?hd (cs := #[.int .i64 0, .int .i64 0, .int .i64 0, .int .i64 0]) (t := 28) ?hr ?_; (case hd => rfl); (case hg => rfl); (case hr => first | (go_simp; done) | (go_simp; rfl))
                                      intro gb349 hg w90 hbox hb
                                      have HS3_ := (hb.cell (World.block_lt_of_cell? _ _ (hHeld.2.2.2.1))).trans (hHeld.2.2.2.1)
                                      have HS4_ := (hb.cell (World.block_lt_of_cell? _ _ (hHeld.2.2.2.2.1))).trans (hHeld.2.2.2.2.1)
                                      have HS5_ := (hb.cell (World.block_lt_of_cell? _ _ (hHeld.2.2.2.2.2.1))).trans (hHeld.2.2.2.2.2.1)
                                      have HS6_ := (hb.cell (World.block_lt_of_cell? _ _ (hHeld.2.2.2.2.2.2))).trans (hHeld.2.2.2.2.2.2)
                                      have n0_ := Aside0.mk (Kd.R_below (Kd.R_elderB (by (with_reducible repeat (first | apply Kd.R_alloc | apply Kd.R_drewN | apply Kd.R_drew)); exact HO_5.out) gb349 (Nat.le_of_eq hg.symm)) hb)
                                      have n1_ := Aside0.mk (blk_below (g := gb318) (o := .cells #[.int .i64 a0_0, .int .i64 a0_1, .int .i64 a0_2] 23 (0, 0)) (by (with_reducible repeat (first | refine blk_drewN ?_ _ | refine blk_drew ?_ | refine blk_alloc ?_ _)); exact BK318.out) hb)
                                      have n2_ := Aside0.mk (below_step (by repeat (first | (with_reducible first | exact HB.out | apply below_alloc | apply pw_below_drewN | apply below_drew1 | refine below_set ?_ GE318.out) | exact HB.out)) hb)
                                      have n3_ := Aside0.mk (hbox)
                                      have n4_ := Aside0.mk ((by rw [hg]; exact (below_size (by repeat (first | (with_reducible first | exact HB.out | apply below_alloc | apply pw_below_drewN | apply below_drew1 | refine below_set ?_ GE318.out) | exact HB.out))) : w.heap.size ≤ gb349))
                                      have n5_ := Aside0.mk ((by rw [hg]; exact (below_size (by repeat (first | (with_reducible first | exact HB.out | apply below_alloc | apply pw_below_drewN | apply below_drew1 | refine below_set ?_ GE318.out) | exact HB.out))) : w.heap.size ≤ gb349))
                                      have n6_ := Aside0.mk ((by rw [hg]; exact Nat.ne_of_lt (blk_lt (g := gb318) (o := .cells #[.int .i64 a0_0, .int .i64 a0_1, .int .i64 a0_2] 23 (0, 0)) (by (with_reducible repeat (first | refine blk_drewN ?_ _ | refine blk_drew ?_ | refine blk_alloc ?_ _)); exact BK318.out)) : gb318 ≠ gb349))
                                      have n7_ := Aside0.mk ((by rw [hg]; exact Nat.ne_of_gt (blk_lt (g := gb318) (o := .cells #[.int .i64 a0_0, .int .i64 a0_1, .int .i64 a0_2] 23 (0, 0)) (by (with_reducible repeat (first | refine blk_drewN ?_ _ | refine blk_drew ?_ | refine blk_alloc ?_ _)); exact BK318.out)) : gb349 ≠ gb318))
                                      clear HO_5
                                      clear BK318
                                      clear HB
                                      have HO_5 := n0_
                                      have BK318 := n1_
                                      have HB := n2_
                                      have BK349 := n3_
                                      have GW349 := n4_
                                      have GE349 := n5_
                                      have NB318_349 := n6_
                                      have NB349_318 := n7_
                                      clear n0_ n1_ n2_ n3_ n4_ n5_ n6_ n7_
                                      clear hb hbox hg
                                      refine hK.out _ _ ⟨(blk_cell BK318.out 0).trans rfl, (blk_cell BK318.out 1).trans rfl, (blk_cell BK318.out 2).trans rfl, HS3_, HS4_, HS5_, HS6_⟩ (fun hHeld => ?_)
                                      clear hK K
                                      refine norm_ (a' := ?_) ?_ ?_
                                      rotate_left
                                      · show Act.put _ (some 14) _ = _
                                        simp only [Act.put, List.setIfInBounds_toArray, List.set_cons_zero, List.set_cons_succ, i64_w, i32_w]
                                        rfl
                                      exact norm_ (by simp only [putAll, Act.put, List.setIfInBounds_toArray, List.set_cons_zero, List.set_cons_succ]) (hCont (gb349) _ ⟨hHeld, (by (with_reducible repeat (first | apply Kd.R_alloc | apply Kd.R_drewN | apply Kd.R_drew)); exact Kd.R_mono HO_5.out (fun _ hk => hk.2)), (by (with_reducible repeat (first | refine blk_drewN ?_ _ | refine blk_drew ?_ | refine blk_alloc ?_ _)); exact BK318.out), (by (with_reducible repeat (first | refine blk_drewN ?_ _ | refine blk_drew ?_ | refine blk_alloc ?_ _)); exact BK349.out), GW349.out, GE349.out, NB318_349.out, NB349_318.out, (by repeat (first | (with_reducible first | exact HB.out | apply below_alloc | apply pw_below_drewN | apply below_drew1 | refine below_set ?_ GE318.out | refine below_set ?_ GE349.out) | exact HB.out))⟩)
                                    · skip
                                      refine box_step ?hg (N := 14) ?hd (cs := #[.int .i64 0, .int .i64 0, .int .i64 0, .int .i64 0]) (t := 28) ?hr ?_; (case hd => rfl); (case hg => rfl); (case hr => first | (go_simp; done) | (go_simp; rfl))
                                      intro gb349 hg w89 hbox hb
                                      have HS3_ := (hb.cell (World.block_lt_of_cell? _ _ (hHeld.2.2.2.1))).trans (hHeld.2.2.2.1)
                                      have HS4_ := (hb.cell (World.block_lt_of_cell? _ _ (hHeld.2.2.2.2.1))).trans (hHeld.2.2.2.2.1)
                                      have HS5_ := (hb.cell (World.block_lt_of_cell? _ _ (hHeld.2.2.2.2.2.1))).trans (hHeld.2.2.2.2.2.1)
                                      have HS6_ := (hb.cell (World.block_lt_of_cell? _ _ (hHeld.2.2.2.2.2.2))).trans (hHeld.2.2.2.2.2.2)
                                      have n0_ := Aside0.mk (Kd.R_below (Kd.R_elderB (by (with_reducible repeat (first | apply Kd.R_alloc | apply Kd.R_drewN | apply Kd.R_drew)); exact HO_5.out) gb349 (Nat.le_of_eq hg.symm)) hb)
                                      have n1_ := Aside0.mk (blk_below (g := gb318) (o := .cells #[.int .i64 a0_0, .int .i64 a0_1, .int .i64 a0_2] 23 (0, 0)) (by (with_reducible repeat (first | refine blk_drewN ?_ _ | refine blk_drew ?_ | refine blk_alloc ?_ _)); exact BK318.out) hb)
                                      have n2_ := Aside0.mk (below_step (by repeat (first | (with_reducible first | exact HB.out | apply below_alloc | apply pw_below_drewN | apply below_drew1 | refine below_set ?_ GE318.out) | exact HB.out)) hb)
                                      have n3_ := Aside0.mk (hbox)
                                      have n4_ := Aside0.mk ((by rw [hg]; exact (below_size (by repeat (first | (with_reducible first | exact HB.out | apply below_alloc | apply pw_below_drewN | apply below_drew1 | refine below_set ?_ GE318.out) | exact HB.out))) : w.heap.size ≤ gb349))
                                      have n5_ := Aside0.mk ((by rw [hg]; exact (below_size (by repeat (first | (with_reducible first | exact HB.out | apply below_alloc | apply pw_below_drewN | apply below_drew1 | refine below_set ?_ GE318.out) | exact HB.out))) : w.heap.size ≤ gb349))
                                      have n6_ := Aside0.mk ((by rw [hg]; exact Nat.ne_of_lt (blk_lt (g := gb318) (o := .cells #[.int .i64 a0_0, .int .i64 a0_1, .int .i64 a0_2] 23 (0, 0)) (by (with_reducible repeat (first | refine blk_drewN ?_ _ | refine blk_drew ?_ | refine blk_alloc ?_ _)); exact BK318.out)) : gb318 ≠ gb349))
                                      have n7_ := Aside0.mk ((by rw [hg]; exact Nat.ne_of_gt (blk_lt (g := gb318) (o := .cells #[.int .i64 a0_0, .int .i64 a0_1, .int .i64 a0_2] 23 (0, 0)) (by (with_reducible repeat (first | refine blk_drewN ?_ _ | refine blk_drew ?_ | refine blk_alloc ?_ _)); exact BK318.out)) : gb349 ≠ gb318))
                                      clear HO_5
                                      clear BK318
                                      clear HB
                                      have HO_5 := n0_
                                      have BK318 := n1_
                                      have HB := n2_
                                      have BK349 := n3_
                                      have GW349 := n4_
                                      have GE349 := n5_
                                      have NB318_349 := n6_
                                      have NB349_318 := n7_
                                      clear n0_ n1_ n2_ n3_ n4_ n5_ n6_ n7_
                                      clear hb hbox hg
                                      refine hK.out _ _ ⟨(blk_cell BK318.out 0).trans rfl, (blk_cell BK318.out 1).trans rfl, (blk_cell BK318.out 2).trans rfl, HS3_, HS4_, HS5_, HS6_⟩ (fun hHeld => ?_)
                                      clear hK K
                                      refine norm_ (a' := ?_) ?_ ?_
                                      rotate_left
                                      · show Act.put _ (some 14) _ = _
                                        simp only [Act.put, List.setIfInBounds_toArray, List.set_cons_zero, List.set_cons_succ, i64_w, i32_w]
                                        rfl
                                      refine one_ (i := 6) (N := some 81) #[true, true, true, true, true, true, true, false, false, false, false, true, false, false, false] rfl rfl (one_of HT_.out (by kernel_rfl)) (by decide) (fun K hK => ?_)
                                      refine goes_ Try.func12 (by kernel_rfl) rfl #[.agg #[.int .i64 a0_0, .int .i64 a0_1, .int .i64 a0_2], .agg #[.int .i64 ((rd_T28 x5_4 x71_4).f0), .int .i64 ((rd_T28 x5_4 x71_4).f1), .int .i64 ((rd_T28 x5_4 x71_4).f2), .int .i64 ((rd_T28 x5_4 x71_4).f3)], .int .i64 x66_3, .int .u32 0] (by rfl) rfl rfl (by (try simp only [List.map_toArray, List.map_cons, List.map_nil]); first | done | rfl | (simp only [List.length_drop, List.length_take]; rfl)) ?_
                                      with_reducible refine (gossip_Step.calls k4 a0_0 a0_1 a0_2 ((rd_T28 x5_4 x71_4).f0) ((rd_T28 x5_4 x71_4).f1) ((rd_T28 x5_4 x71_4).f2) ((rd_T28 x5_4 x71_4).f3) x66_3 0 t343 t344 t345 t346 false t348 _ A61.out).mono ?_
                                      rintro e w90 ⟨rfl, hb⟩
                                      have HS3_ := (hb.cell (World.block_lt_of_cell? _ _ (hHeld.2.2.2.1))).trans (hHeld.2.2.2.1)
                                      have HS4_ := (hb.cell (World.block_lt_of_cell? _ _ (hHeld.2.2.2.2.1))).trans (hHeld.2.2.2.2.1)
                                      have HS5_ := (hb.cell (World.block_lt_of_cell? _ _ (hHeld.2.2.2.2.2.1))).trans (hHeld.2.2.2.2.2.1)
                                      have HS6_ := (hb.cell (World.block_lt_of_cell? _ _ (hHeld.2.2.2.2.2.2))).trans (hHeld.2.2.2.2.2.2)
                                      refine ⟨_, rfl, ?_⟩
                                      have n0_ := Aside0.mk (Kd.R_below (by (with_reducible repeat (first | apply Kd.R_alloc | apply Kd.R_drewN | apply Kd.R_drew)); exact HO_5.out) hb)
                                      have n1_ := Aside0.mk (blk_below (g := gb318) (o := .cells #[.int .i64 a0_0, .int .i64 a0_1, .int .i64 a0_2] 23 (0, 0)) (by (with_reducible repeat (first | refine blk_drewN ?_ _ | refine blk_drew ?_ | refine blk_alloc ?_ _)); exact BK318.out) hb)
                                      have n2_ := Aside0.mk (blk_below (g := gb349) (o := .cells #[.int .i64 0, .int .i64 0, .int .i64 0, .int .i64 0] 28 (0, 0)) (by (with_reducible repeat (first | refine blk_drewN ?_ _ | refine blk_drew ?_ | refine blk_alloc ?_ _)); exact BK349.out) hb)
                                      have n3_ := Aside0.mk (below_step (by repeat (first | (with_reducible first | exact HB.out | apply below_alloc | apply pw_below_drewN | apply below_drew1 | refine below_set ?_ GE318.out | refine below_set ?_ GE349.out) | exact HB.out)) hb)
                                      clear HO_5
                                      clear BK318
                                      clear BK349
                                      clear HB
                                      have HO_5 := n0_
                                      have BK318 := n1_
                                      have BK349 := n2_
                                      have HB := n3_
                                      clear n0_ n1_ n2_ n3_
                                      (try clear hb)
                                      (try clear hb2)
                                      (try clear hk)
                                      (try clear hi)
                                      refine hK.out _ _ ⟨(blk_cell BK318.out 0).trans rfl, (blk_cell BK318.out 1).trans rfl, (blk_cell BK318.out 2).trans rfl, HS3_, HS4_, HS5_, HS6_⟩ (fun hHeld => ?_)
                                      clear hK K
                                      refine norm_ (a' := ?_) ?_ ?_
                                      rotate_left
                                      · show Act.put _ (some 81) _ = _
                                        simp only [Act.put, List.setIfInBounds_toArray, List.set_cons_zero, List.set_cons_succ, i64_w, i32_w]
                                        rfl
                                      refine pure_ (i := 7) (N := some 74) (v := ?_) (a' := ?_) #[true, true, true, true, true, true, true, true, false, false, false, true, false, false, false] rfl rfl (any_of HT_.out (by kernel_rfl)) (fun _ _ _ h => h) (Or.inl ⟨by rfl, ?_⟩) ?_ ?_
                                      rotate_left
                                      · intro w'
                                        go_simp
                                        with_reducible rfl
                                      rotate_left
                                      · simp only [Act.put, List.setIfInBounds_toArray, List.set_cons_zero, List.set_cons_succ, i64_w, i32_w]
                                        rfl
                                      refine pure_ (i := 8) (N := some 82) (v := ?_) (a' := ?_) #[true, true, true, true, true, true, true, true, true, false, false, true, false, false, false] rfl rfl (any_of HT_.out (by kernel_rfl)) (fun _ _ _ h => h) (Or.inl ⟨by rfl, ?_⟩) ?_ ?_
                                      rotate_left
                                      · intro w'
                                        go_simp
                                        with_reducible rfl
                                      rotate_left
                                      · simp only [Act.put, List.setIfInBounds_toArray, List.set_cons_zero, List.set_cons_succ, i64_w, i32_w]
                                        rfl
                                      refine pure_ (i := 9) (N := some 83) (v := ?_) (a' := ?_) #[true, true, true, true, true, true, true, true, true, true, false, true, false, false, false] rfl rfl (any_of HT_.out (by kernel_rfl)) (fun _ _ _ h => h) (Or.inl ⟨by rfl, ?_⟩) ?_ ?_
                                      rotate_left
                                      · intro w'
                                        go_simp
                                        with_reducible rfl
                                      rotate_left
                                      · simp only [Act.put, List.setIfInBounds_toArray, List.set_cons_zero, List.set_cons_succ, i64_w, i32_w]
                                        rfl
                                      refine pure_ (i := 10) (N := some 84) (v := ?_) (a' := ?_) #[true, true, true, true, true, true, true, true, true, true, true, true, false, false, false] rfl rfl (any_of HT_.out (by kernel_rfl)) (fun _ _ _ h => h) (Or.inl ⟨by rfl, ?_⟩) ?_ ?_
                                      rotate_left
                                      · intro w'
                                        go_simp
                                        with_reducible rfl
                                      rotate_left
                                      · simp only [Act.put, List.setIfInBounds_toArray, List.set_cons_zero, List.set_cons_succ, i64_w, i32_w]
                                        rfl
                                      exact norm_ (by simp only [putAll, Act.put, List.setIfInBounds_toArray, List.set_cons_zero, List.set_cons_succ]) (hCont (gb349) _ ⟨hHeld, (by (with_reducible repeat (first | apply Kd.R_alloc | apply Kd.R_drewN | apply Kd.R_drew)); exact Kd.R_mono HO_5.out (fun _ hk => hk.2)), (by (with_reducible repeat (first | refine blk_drewN ?_ _ | refine blk_drew ?_ | refine blk_alloc ?_ _)); exact BK318.out), (by (with_reducible repeat (first | refine blk_drewN ?_ _ | refine blk_drew ?_ | refine blk_alloc ?_ _)); exact BK349.out), GW349.out, GE349.out, NB318_349.out, NB349_318.out, (by repeat (first | (with_reducible first | exact HB.out | apply below_alloc | apply pw_below_drewN | apply below_drew1 | refine below_set ?_ GE318.out | refine below_set ?_ GE349.out) | exact HB.out))⟩)
                                  rintro gb349 w91 ⟨hS_, h0_, h1_, h2_, h3_, h4_, h5_, h6_, h7_⟩
                                  have n0_ : Aside0 (Kd.R k28 28 w91 w.heap.size (fun k_ => k_ ≠ gb349) (.slice (some ad342) x5_4.length co57) x5_4) := ⟨h0_⟩
                                  have n1_ : Aside0 (w91.heap[gb318]? = some (.cells #[.int .i64 a0_0, .int .i64 a0_1, .int .i64 a0_2] 23 (0, 0))) := ⟨h1_⟩
                                  have n2_ : Aside0 (w91.heap[gb349]? = some (.cells #[.int .i64 0, .int .i64 0, .int .i64 0, .int .i64 0] 28 (0, 0))) := ⟨h2_⟩
                                  have n3_ : Aside0 (w.heap.size ≤ gb349) := ⟨h3_⟩
                                  have n4_ : Aside0 (w.heap.size ≤ gb349) := ⟨h4_⟩
                                  have n5_ : Aside0 (gb318 ≠ gb349) := ⟨h5_⟩
                                  have n6_ : Aside0 (gb349 ≠ gb318) := ⟨h6_⟩
                                  have n7_ : Aside0 (Below w.heap.size w w91) := ⟨h7_⟩
                                  clear HO_5
                                  clear BK318
                                  clear HB
                                  clear h0_ h1_ h2_ h3_ h4_ h5_ h6_ h7_
                                  have HO_5 := n0_
                                  have BK318 := n1_
                                  have BK349 := n2_
                                  have GW349 := n3_
                                  have GE349 := n4_
                                  have NB318_349 := n5_
                                  have NB349_318 := n6_
                                  have HB := n7_
                                  clear n0_ n1_ n2_ n3_ n4_ n5_ n6_ n7_
                                  have hHeld : w91.cell? ⟨gb318, 0, none⟩ = some (.int .i64 a0_0) ∧ w91.cell? ⟨gb318, 1, none⟩ = some (.int .i64 a0_1) ∧ w91.cell? ⟨gb318, 2, none⟩ = some (.int .i64 a0_2) ∧ w91.cell? (ad342.add ((x71_4).toNat * 4)) = some (.int .i64 ((rd_T28 x5_4 x71_4).f0)) ∧ w91.cell? ⟨(ad342.add ((x71_4).toNat * 4)).block, (ad342.add ((x71_4).toNat * 4)).off + 1, none⟩ = some (.int .i64 ((rd_T28 x5_4 x71_4).f1)) ∧ w91.cell? ⟨(ad342.add ((x71_4).toNat * 4)).block, (ad342.add ((x71_4).toNat * 4)).off + 2, none⟩ = some (.int .i64 ((rd_T28 x5_4 x71_4).f2)) ∧ w91.cell? ⟨(ad342.add ((x71_4).toNat * 4)).block, (ad342.add ((x71_4).toNat * 4)).off + 3, none⟩ = some (.int .i64 ((rd_T28 x5_4 x71_4).f3)) := hS_
                                  refine norm_ (a' := ?_) ?_ ?_
                                  rotate_left
                                  · simp only [putAll, Act.put, List.setIfInBounds_toArray, List.set_cons_zero, List.set_cons_succ]
                                    rfl
                                  refine one_ (i := 12) (N := none) #[true, true, true, true, true, true, true, true, true, true, true, true, true, false, false] rfl rfl (one_of HT_.out (by kernel_rfl)) (by decide) (fun K hK => ?_)
                                  have hs92 : w91.cell? ⟨gb349, 0, none⟩ = some (.int .i64 0) := (blk_cell BK349.out 0).trans rfl
                                  have hfs92 := blk_frozen BK349.out 0
                                  have hns92_0 := NB318_349.out
                                  have hms92_0 := NB349_318.out
                                  have hs93 : w91.cell? ⟨gb349, 1, none⟩ = some (.int .i64 0) := (blk_cell BK349.out 1).trans rfl
                                  have hfs93 := blk_frozen BK349.out 1
                                  have hns93_0 := NB318_349.out
                                  have hms93_0 := NB349_318.out
                                  have hs94 : w91.cell? ⟨gb349, 2, none⟩ = some (.int .i64 0) := (blk_cell BK349.out 2).trans rfl
                                  have hfs94 := blk_frozen BK349.out 2
                                  have hns94_0 := NB318_349.out
                                  have hms94_0 := NB349_318.out
                                  have hs95 : w91.cell? ⟨gb349, 3, none⟩ = some (.int .i64 0) := (blk_cell BK349.out 3).trans rfl
                                  have hfs95 := blk_frozen BK349.out 3
                                  have hns95_0 := NB318_349.out
                                  have hms95_0 := NB349_318.out
                                  refine skip_ (w1 := ?_) (by rfl) rfl ?_ ?_
                                  rotate_left
                                  · go_simp
                                    rfl
                                  refine hK.out _ _ ⟨((cell_far (p := ⟨gb349, _, none⟩) NB318_349.out _).trans (((cell_far (p := ⟨gb349, _, none⟩) NB318_349.out _).trans (((cell_far (p := ⟨gb349, _, none⟩) NB318_349.out _).trans (((cell_far (p := ⟨gb349, _, none⟩) NB318_349.out _).trans (hHeld.1)))))))), ((cell_far (p := ⟨gb349, _, none⟩) NB318_349.out _).trans (((cell_far (p := ⟨gb349, _, none⟩) NB318_349.out _).trans (((cell_far (p := ⟨gb349, _, none⟩) NB318_349.out _).trans (((cell_far (p := ⟨gb349, _, none⟩) NB318_349.out _).trans (hHeld.2.1)))))))), ((cell_far (p := ⟨gb349, _, none⟩) NB318_349.out _).trans (((cell_far (p := ⟨gb349, _, none⟩) NB318_349.out _).trans (((cell_far (p := ⟨gb349, _, none⟩) NB318_349.out _).trans (((cell_far (p := ⟨gb349, _, none⟩) NB318_349.out _).trans (hHeld.2.2.1)))))))), ((cell_far (p := ⟨gb349, _, none⟩) (by first | exact Kd.own_blk (Kd.R_away HO_5.out (fun _ hk => hk)) | (rw [add_block]; exact Kd.own_blk (Kd.R_away HO_5.out (fun _ hk => hk))) | (show (Addr.add _ _).block ≠ _; rw [add_block]; exact Kd.own_blk (Kd.R_away HO_5.out (fun _ hk => hk))) | (dsimp only; exact Kd.own_blk (Kd.R_away HO_5.out (fun _ hk => hk)))) _).trans (((cell_far (p := ⟨gb349, _, none⟩) (by first | exact Kd.own_blk (Kd.R_away HO_5.out (fun _ hk => hk)) | (rw [add_block]; exact Kd.own_blk (Kd.R_away HO_5.out (fun _ hk => hk))) | (show (Addr.add _ _).block ≠ _; rw [add_block]; exact Kd.own_blk (Kd.R_away HO_5.out (fun _ hk => hk))) | (dsimp only; exact Kd.own_blk (Kd.R_away HO_5.out (fun _ hk => hk)))) _).trans (((cell_far (p := ⟨gb349, _, none⟩) (by first | exact Kd.own_blk (Kd.R_away HO_5.out (fun _ hk => hk)) | (rw [add_block]; exact Kd.own_blk (Kd.R_away HO_5.out (fun _ hk => hk))) | (show (Addr.add _ _).block ≠ _; rw [add_block]; exact Kd.own_blk (Kd.R_away HO_5.out (fun _ hk => hk))) | (dsimp only; exact Kd.own_blk (Kd.R_away HO_5.out (fun _ hk => hk)))) _).trans (((cell_far (p := ⟨gb349, _, none⟩) (by first | exact Kd.own_blk (Kd.R_away HO_5.out (fun _ hk => hk)) | (rw [add_block]; exact Kd.own_blk (Kd.R_away HO_5.out (fun _ hk => hk))) | (show (Addr.add _ _).block ≠ _; rw [add_block]; exact Kd.own_blk (Kd.R_away HO_5.out (fun _ hk => hk))) | (dsimp only; exact Kd.own_blk (Kd.R_away HO_5.out (fun _ hk => hk)))) _).trans (hHeld.2.2.2.1)))))))), ((cell_far (p := ⟨gb349, _, none⟩) (by first | exact Kd.own_blk (Kd.R_away HO_5.out (fun _ hk => hk)) | (rw [add_block]; exact Kd.own_blk (Kd.R_away HO_5.out (fun _ hk => hk))) | (show (Addr.add _ _).block ≠ _; rw [add_block]; exact Kd.own_blk (Kd.R_away HO_5.out (fun _ hk => hk))) | (dsimp only; exact Kd.own_blk (Kd.R_away HO_5.out (fun _ hk => hk)))) _).trans (((cell_far (p := ⟨gb349, _, none⟩) (by first | exact Kd.own_blk (Kd.R_away HO_5.out (fun _ hk => hk)) | (rw [add_block]; exact Kd.own_blk (Kd.R_away HO_5.out (fun _ hk => hk))) | (show (Addr.add _ _).block ≠ _; rw [add_block]; exact Kd.own_blk (Kd.R_away HO_5.out (fun _ hk => hk))) | (dsimp only; exact Kd.own_blk (Kd.R_away HO_5.out (fun _ hk => hk)))) _).trans (((cell_far (p := ⟨gb349, _, none⟩) (by first | exact Kd.own_blk (Kd.R_away HO_5.out (fun _ hk => hk)) | (rw [add_block]; exact Kd.own_blk (Kd.R_away HO_5.out (fun _ hk => hk))) | (show (Addr.add _ _).block ≠ _; rw [add_block]; exact Kd.own_blk (Kd.R_away HO_5.out (fun _ hk => hk))) | (dsimp only; exact Kd.own_blk (Kd.R_away HO_5.out (fun _ hk => hk)))) _).trans (((cell_far (p := ⟨gb349, _, none⟩) (by first | exact Kd.own_blk (Kd.R_away HO_5.out (fun _ hk => hk)) | (rw [add_block]; exact Kd.own_blk (Kd.R_away HO_5.out (fun _ hk => hk))) | (show (Addr.add _ _).block ≠ _; rw [add_block]; exact Kd.own_blk (Kd.R_away HO_5.out (fun _ hk => hk))) | (dsimp only; exact Kd.own_blk (Kd.R_away HO_5.out (fun _ hk => hk)))) _).trans (hHeld.2.2.2.2.1)))))))), ((cell_far (p := ⟨gb349, _, none⟩) (by first | exact Kd.own_blk (Kd.R_away HO_5.out (fun _ hk => hk)) | (rw [add_block]; exact Kd.own_blk (Kd.R_away HO_5.out (fun _ hk => hk))) | (show (Addr.add _ _).block ≠ _; rw [add_block]; exact Kd.own_blk (Kd.R_away HO_5.out (fun _ hk => hk))) | (dsimp only; exact Kd.own_blk (Kd.R_away HO_5.out (fun _ hk => hk)))) _).trans (((cell_far (p := ⟨gb349, _, none⟩) (by first | exact Kd.own_blk (Kd.R_away HO_5.out (fun _ hk => hk)) | (rw [add_block]; exact Kd.own_blk (Kd.R_away HO_5.out (fun _ hk => hk))) | (show (Addr.add _ _).block ≠ _; rw [add_block]; exact Kd.own_blk (Kd.R_away HO_5.out (fun _ hk => hk))) | (dsimp only; exact Kd.own_blk (Kd.R_away HO_5.out (fun _ hk => hk)))) _).trans (((cell_far (p := ⟨gb349, _, none⟩) (by first | exact Kd.own_blk (Kd.R_away HO_5.out (fun _ hk => hk)) | (rw [add_block]; exact Kd.own_blk (Kd.R_away HO_5.out (fun _ hk => hk))) | (show (Addr.add _ _).block ≠ _; rw [add_block]; exact Kd.own_blk (Kd.R_away HO_5.out (fun _ hk => hk))) | (dsimp only; exact Kd.own_blk (Kd.R_away HO_5.out (fun _ hk => hk)))) _).trans (((cell_far (p := ⟨gb349, _, none⟩) (by first | exact Kd.own_blk (Kd.R_away HO_5.out (fun _ hk => hk)) | (rw [add_block]; exact Kd.own_blk (Kd.R_away HO_5.out (fun _ hk => hk))) | (show (Addr.add _ _).block ≠ _; rw [add_block]; exact Kd.own_blk (Kd.R_away HO_5.out (fun _ hk => hk))) | (dsimp only; exact Kd.own_blk (Kd.R_away HO_5.out (fun _ hk => hk)))) _).trans (hHeld.2.2.2.2.2.1)))))))), ((cell_far (p := ⟨gb349, _, none⟩) (by first | exact Kd.own_blk (Kd.R_away HO_5.out (fun _ hk => hk)) | (rw [add_block]; exact Kd.own_blk (Kd.R_away HO_5.out (fun _ hk => hk))) | (show (Addr.add _ _).block ≠ _; rw [add_block]; exact Kd.own_blk (Kd.R_away HO_5.out (fun _ hk => hk))) | (dsimp only; exact Kd.own_blk (Kd.R_away HO_5.out (fun _ hk => hk)))) _).trans (((cell_far (p := ⟨gb349, _, none⟩) (by first | exact Kd.own_blk (Kd.R_away HO_5.out (fun _ hk => hk)) | (rw [add_block]; exact Kd.own_blk (Kd.R_away HO_5.out (fun _ hk => hk))) | (show (Addr.add _ _).block ≠ _; rw [add_block]; exact Kd.own_blk (Kd.R_away HO_5.out (fun _ hk => hk))) | (dsimp only; exact Kd.own_blk (Kd.R_away HO_5.out (fun _ hk => hk)))) _).trans (((cell_far (p := ⟨gb349, _, none⟩) (by first | exact Kd.own_blk (Kd.R_away HO_5.out (fun _ hk => hk)) | (rw [add_block]; exact Kd.own_blk (Kd.R_away HO_5.out (fun _ hk => hk))) | (show (Addr.add _ _).block ≠ _; rw [add_block]; exact Kd.own_blk (Kd.R_away HO_5.out (fun _ hk => hk))) | (dsimp only; exact Kd.own_blk (Kd.R_away HO_5.out (fun _ hk => hk)))) _).trans (((cell_far (p := ⟨gb349, _, none⟩) (by first | exact Kd.own_blk (Kd.R_away HO_5.out (fun _ hk => hk)) | (rw [add_block]; exact Kd.own_blk (Kd.R_away HO_5.out (fun _ hk => hk))) | (show (Addr.add _ _).block ≠ _; rw [add_block]; exact Kd.own_blk (Kd.R_away HO_5.out (fun _ hk => hk))) | (dsimp only; exact Kd.own_blk (Kd.R_away HO_5.out (fun _ hk => hk)))) _).trans (hHeld.2.2.2.2.2.2))))))))⟩ (fun hHeld => ?_)
                                  clear hK K
                                  refine pure_ (i := 13) (N := some 15) (v := ?_) (a' := ?_) #[true, true, true, true, true, true, true, true, true, true, true, true, true, true, false] rfl rfl (any_of HT_.out (by kernel_rfl)) (fun _ _ _ h => h) (Or.inl ⟨by rfl, ?_⟩) ?_ ?_
                                  rotate_left
                                  · intro w'
                                    go_simp
                                    with_reducible rfl
                                  rotate_left
                                  · simp only [Act.put, List.setIfInBounds_toArray, List.set_cons_zero, List.set_cons_succ, i64_w, i32_w]
                                    rfl
                                  refine pure_ (i := 14) (N := some 16) (v := ?_) (a' := ?_) #[true, true, true, true, true, true, true, true, true, true, true, true, true, true, true] rfl rfl (any_of HT_.out (by kernel_rfl)) (fun _ _ _ h => h) (Or.inl ⟨by rfl, ?_⟩) ?_ ?_
                                  rotate_left
                                  · intro w'
                                    go_simp
                                    with_reducible rfl
                                  rotate_left
                                  · simp only [Act.put, List.setIfInBounds_toArray, List.set_cons_zero, List.set_cons_succ, i64_w, i32_w]
                                    rfl
                                  refine done_ (done_of HT_.out (by kernel_rfl)) ?_
                                  have n0_ : Aside0 (Kd.R k28 28 ((((w91.setCell ⟨gb349, 0, none⟩ (.int .i64 t343)).setCell ⟨gb349, 1, none⟩ (.int .i64 t344)).setCell ⟨gb349, 2, none⟩ (.int .i64 t345)).setCell ⟨gb349, 3, none⟩ (.int .i64 t346)) w.heap.size (fun k_ => k_ ≠ gb349) (.slice (some ad342) x5_4.length co57) x5_4) := ⟨by (with_reducible repeat (first | apply Kd.R_alloc | apply Kd.R_drewN | apply Kd.R_drew)); exact Kd.R_mono (Kd.R_far (p := ⟨gb349, 3, none⟩) (Kd.R_far (p := ⟨gb349, 2, none⟩) (Kd.R_far (p := ⟨gb349, 1, none⟩) (Kd.R_far (p := ⟨gb349, 0, none⟩) (Kd.R_mono HO_5.out (fun k_ hk => (⟨hk, hk⟩ : _ ∧ k_ ≠ gb349))) (fun _ hk => hk.2) (.int .i64 t343)) (fun _ hk => hk.2) (.int .i64 t344)) (fun _ hk => hk.2) (.int .i64 t345)) (fun _ hk => hk.2) (.int .i64 t346)) (fun _ hk => hk.1)⟩
                                  have n1_ : Aside0 (((((w91.setCell ⟨gb349, 0, none⟩ (.int .i64 t343)).setCell ⟨gb349, 1, none⟩ (.int .i64 t344)).setCell ⟨gb349, 2, none⟩ (.int .i64 t345)).setCell ⟨gb349, 3, none⟩ (.int .i64 t346)).heap[gb318]? = some (.cells #[.int .i64 a0_0, .int .i64 a0_1, .int .i64 a0_2] 23 (0, 0))) := ⟨by (with_reducible repeat (first | refine blk_drewN ?_ _ | refine blk_drew ?_ | refine blk_alloc ?_ _)); refine blk_far ?_ NB318_349.out _; (with_reducible repeat (first | refine blk_drewN ?_ _ | refine blk_drew ?_ | refine blk_alloc ?_ _)); refine blk_far ?_ NB318_349.out _; (with_reducible repeat (first | refine blk_drewN ?_ _ | refine blk_drew ?_ | refine blk_alloc ?_ _)); refine blk_far ?_ NB318_349.out _; (with_reducible repeat (first | refine blk_drewN ?_ _ | refine blk_drew ?_ | refine blk_alloc ?_ _)); refine blk_far ?_ NB318_349.out _; (with_reducible repeat (first | refine blk_drewN ?_ _ | refine blk_drew ?_ | refine blk_alloc ?_ _)); exact BK318.out⟩
                                  have n2_ : Aside0 (((((w91.setCell ⟨gb349, 0, none⟩ (.int .i64 t343)).setCell ⟨gb349, 1, none⟩ (.int .i64 t344)).setCell ⟨gb349, 2, none⟩ (.int .i64 t345)).setCell ⟨gb349, 3, none⟩ (.int .i64 t346)).heap[gb349]? = some (.cells #[.int .i64 t343, .int .i64 t344, .int .i64 t345, .int .i64 t346] 28 (0, 0))) := ⟨by (with_reducible repeat (first | refine blk_drewN ?_ _ | refine blk_drew ?_ | refine blk_alloc ?_ _)); refine blk_put (cs := #[.int .i64 t343, .int .i64 t344, .int .i64 t345, .int .i64 0]) ?_ 3 _ rfl; (with_reducible repeat (first | refine blk_drewN ?_ _ | refine blk_drew ?_ | refine blk_alloc ?_ _)); refine blk_put (cs := #[.int .i64 t343, .int .i64 t344, .int .i64 0, .int .i64 0]) ?_ 2 _ rfl; (with_reducible repeat (first | refine blk_drewN ?_ _ | refine blk_drew ?_ | refine blk_alloc ?_ _)); refine blk_put (cs := #[.int .i64 t343, .int .i64 0, .int .i64 0, .int .i64 0]) ?_ 1 _ rfl; (with_reducible repeat (first | refine blk_drewN ?_ _ | refine blk_drew ?_ | refine blk_alloc ?_ _)); refine blk_put (cs := #[.int .i64 0, .int .i64 0, .int .i64 0, .int .i64 0]) ?_ 0 _ rfl; (with_reducible repeat (first | refine blk_drewN ?_ _ | refine blk_drew ?_ | refine blk_alloc ?_ _)); exact BK349.out⟩
                                  have n3_ : Aside0 (Below w.heap.size w ((((w91.setCell ⟨gb349, 0, none⟩ (.int .i64 t343)).setCell ⟨gb349, 1, none⟩ (.int .i64 t344)).setCell ⟨gb349, 2, none⟩ (.int .i64 t345)).setCell ⟨gb349, 3, none⟩ (.int .i64 t346))) := ⟨by repeat (first | (with_reducible first | exact HB.out | apply below_alloc | apply pw_below_drewN | apply below_drew1 | refine below_set ?_ GE318.out | refine below_set ?_ GE349.out) | exact HB.out)⟩
                                  (try clear HO_5)
                                  (try clear BK318)
                                  (try clear BK349)
                                  (try clear HB)
                                  generalize ((((w91.setCell ⟨gb349, 0, none⟩ (.int .i64 t343)).setCell ⟨gb349, 1, none⟩ (.int .i64 t344)).setCell ⟨gb349, 2, none⟩ (.int .i64 t345)).setCell ⟨gb349, 3, none⟩ (.int .i64 t346)) = w96 at n0_ n1_ n2_ n3_ ⊢
                                  have HO_5 := n0_
                                  have BK318 := n1_
                                  have BK349 := n2_
                                  have HB := n3_
                                  clear n0_ n1_ n2_ n3_
                                  have hnb97 := NB349_318.out
                                  have hnc97 := NB318_349.out
                                  have hcz98_0 : w96.cell? ⟨gb349, 0, none⟩ = some (.int .i64 t343) := (blk_cell BK349.out 0).trans rfl
                                  have hcz98_1 : w96.cell? ⟨gb349, 1, none⟩ = some (.int .i64 t344) := (blk_cell BK349.out 1).trans rfl
                                  have hcz98_2 : w96.cell? ⟨gb349, 2, none⟩ = some (.int .i64 t345) := (blk_cell BK349.out 2).trans rfl
                                  have hcz98_3 : w96.cell? ⟨gb349, 3, none⟩ = some (.int .i64 t346) := (blk_cell BK349.out 3).trans rfl
                                  have hfz98_0 := blk_frozen BK349.out 0
                                  have hfz98_1 := blk_frozen BK349.out 1
                                  have hfz98_2 := blk_frozen BK349.out 2
                                  have hfz98_3 := blk_frozen BK349.out 3
                                  have p63 : 0 ≤ (x71_4 : Int) := of_decide_eq_true (by first | (with_reducible assumption) | assumption)
                                  have q63 : (x71_4 : Int) < ((x5_4.length : Int) : Int) := of_decide_eq_true (by first | (with_reducible assumption) | assumption)
                                  obtain ⟨go63, co63, eo63, gb63, gl63, cl63, HG63⟩ := Kd.R_form HO_5.out (by omega)
                                  (first | cases eo63 | (injection eo63 with ea_ en_ ec_; (first | subst ea_ | (injection ea_ with ea_; subst ea_)); subst ec_; clear en_))
                                  have GB63 := Aside0.mk gb63
                                  have GG63 := Aside0.mk HG63
                                  clear gb63 gl63 HG63
                                  (first | simp only [add_plain] at hx342_0 | skip)
                                  (first | simp only [add_plain] at hx342_1 | skip)
                                  (first | simp only [add_plain] at hx342_2 | skip)
                                  (first | simp only [add_plain] at hx342_3 | skip)
                                  obtain ⟨ce63, hcl63, hM63, hcc63, hfr63⟩ := Kd.R_elem HO_5.out z28 (x71_4 : Int) p63 q63
                                  obtain rfl := k28_openM hM63
                                  have hx63_0 : w96.cell? ⟨go63, (x71_4 : Int).toNat * 4, none⟩ = some (.int .i64 ((rd_T28 x5_4 x71_4).f0)) := hcc63 0 _ rfl
                                  have hx63_1 : w96.cell? ⟨go63, (x71_4 : Int).toNat * 4 + 1, none⟩ = some (.int .i64 ((rd_T28 x5_4 x71_4).f1)) := hcc63 1 _ rfl
                                  have hx63_2 : w96.cell? ⟨go63, (x71_4 : Int).toNat * 4 + 2, none⟩ = some (.int .i64 ((rd_T28 x5_4 x71_4).f2)) := hcc63 2 _ rfl
                                  have hx63_3 : w96.cell? ⟨go63, (x71_4 : Int).toNat * 4 + 3, none⟩ = some (.int .i64 ((rd_T28 x5_4 x71_4).f3)) := hcc63 3 _ rfl
                                  have hf63_0 : w96.frozen? ⟨go63, (x71_4 : Int).toNat * 4, none⟩ = false := hfr63 0
                                  have hf63_1 : w96.frozen? ⟨go63, (x71_4 : Int).toNat * 4 + 1, none⟩ = false := hfr63 1
                                  have hf63_2 : w96.frozen? ⟨go63, (x71_4 : Int).toNat * 4 + 2, none⟩ = false := hfr63 2
                                  have hf63_3 : w96.frozen? ⟨go63, (x71_4 : Int).toNat * 4 + 3, none⟩ = false := hfr63 3
                                  clear hcl63 hcc63 hfr63 hM63
                                  replace p63 := eq_true p63
                                  replace q63 := eq_true q63
                                  have HX99 := Aside0.mk (show Kd.R k28 28 w96 w.heap.size (fun k_ => k_ ≠ gb349) (.slice (some ⟨go63, 0, none⟩) x5_4.length co57) x5_4 from (by (with_reducible repeat (first | apply Kd.R_alloc | apply Kd.R_drewN | apply Kd.R_drew)); exact HO_5.out))
                                  obtain ⟨ce99, hcl99, hM99, hcc99, hfr99⟩ := Kd.R_elem HX99.out z28 (x71_4 : Int) (of_decide_eq_true (by first | (with_reducible assumption) | assumption)) (by have h_ : (x71_4 : Int) < ((x5_4.length : Int) : Int) := of_decide_eq_true (by first | (with_reducible assumption) | assumption); first | exact h_ | (have e_ := (Kd.R_reads' HO_5.out).1; omega) | simpa using h_)
                                  obtain rfl := k28_openM hM99
                                  have HP99 := Kd.R_seg HX99.out (x71_4 : Int) (of_decide_eq_true (by first | (with_reducible assumption) | assumption)) (by have h_ : (x71_4 : Int) < ((x5_4.length : Int) : Int) := of_decide_eq_true (by first | (with_reducible assumption) | assumption); first | exact h_ | (have e_ := (Kd.R_reads' HO_5.out).1; omega) | simpa using h_) (seg := [.int .i64 t343, .int .i64 t344, .int .i64 t345, .int .i64 t346]) (j := 0) hcl99 hcc99 (show 4 ≤ 4 from by decide) (x' := (⟨t343, t344, t345, t346⟩ : S28)) (k28_mkM _ _ _ (⟨t343, t344, t345, t346⟩ : S28) ) (fun _ hk => hk)
                                  have hx99_0 := hcc99 0 _ rfl
                                  (try simp only [show (k28).sz = 4 from rfl, Nat.mul_one, Nat.add_zero] at hx99_0)
                                  have hf99_0 := hfr99 0
                                  (try simp only [show (k28).sz = 4 from rfl, Nat.mul_one, Nat.add_zero] at hf99_0)
                                  have hx99_1 := hcc99 1 _ rfl
                                  (try simp only [show (k28).sz = 4 from rfl, Nat.mul_one, Nat.add_zero] at hx99_1)
                                  have hf99_1 := hfr99 1
                                  (try simp only [show (k28).sz = 4 from rfl, Nat.mul_one, Nat.add_zero] at hf99_1)
                                  have hx99_2 := hcc99 2 _ rfl
                                  (try simp only [show (k28).sz = 4 from rfl, Nat.mul_one, Nat.add_zero] at hx99_2)
                                  have hf99_2 := hfr99 2
                                  (try simp only [show (k28).sz = 4 from rfl, Nat.mul_one, Nat.add_zero] at hf99_2)
                                  have hx99_3 := hcc99 3 _ rfl
                                  (try simp only [show (k28).sz = 4 from rfl, Nat.mul_one, Nat.add_zero] at hx99_3)
                                  have hf99_3 := hfr99 3
                                  (try simp only [show (k28).sz = 4 from rfl, Nat.mul_one, Nat.add_zero] at hf99_3)
                                  clear hcl99 hcc99 hfr99 hM99
                                  try go_wp2_with (first | ((with_reducible refine gate_store (t := 28) (p := 90) rfl ?_); refine store_event (t := 28) (p := 90) (v := ?vo_w100) (w1 := ((((w96.setCell ⟨go63, (x71_4 : Int).toNat * 4, none⟩ (.int .i64 t343)).setCell ⟨go63, (x71_4 : Int).toNat * 4 + 1, none⟩ (.int .i64 t344)).setCell ⟨go63, (x71_4 : Int).toNat * 4 + 2, none⟩ (.int .i64 t345)).setCell ⟨go63, (x71_4 : Int).toNat * 4 + 3, none⟩ (.int .i64 t346))) ?hg ?ho ?hn ?hr ?_; (case ho => rfl); (case hg => rfl); (case hn => rfl); (case hr => first | (go_simp; done) | (go_simp; rfl)); intro w100 hw; have hg : w96.grownBy w100 (some go63) := (by rw [hw]; exact HP99.2); have hp_ : Kd.R k28 28 w100 w.heap.size (fun k_ => k_ ≠ gb349) (.slice (some ⟨go63, 0, none⟩) x5_4.length co57) y350 := (by rw [hw, Ny350.out]; exact HP99.1); clear HP99; have n0_ := Aside0.mk (hp_); have n1_ := Aside0.mk (blk_grown (g := gb318) (o := .cells #[.int .i64 a0_0, .int .i64 a0_1, .int .i64 a0_2] 23 (0, 0)) (by (with_reducible repeat (first | refine blk_drewN ?_ _ | refine blk_drew ?_ | refine blk_alloc ?_ _)); exact BK318.out) hg (Kd.R_ne HO_5.out BK318.out (by decide))); have n2_ := Aside0.mk (blk_grown (g := gb349) (o := .cells #[.int .i64 t343, .int .i64 t344, .int .i64 t345, .int .i64 t346] 28 (0, 0)) (by (with_reducible repeat (first | refine blk_drewN ?_ _ | refine blk_drew ?_ | refine blk_alloc ?_ _)); exact BK349.out) hg (Kd.R_away HO_5.out (fun _ hk => hk))); have n3_ := Aside0.mk ((by rw [hw]; exact below_set (below_set (below_set (below_set (HB.out) GB63.out) GB63.out) GB63.out) GB63.out : Below w.heap.size w w100)); clear HO_5; clear BK318; clear BK349; clear HB; have HO_5 := n0_; have BK318 := n1_; have BK349 := n2_; have HB := n3_; clear n0_ n1_ n2_ n3_; clear hg hw hp_))
                                  (try simp only [← hl5_4])
                                  go_roundg k4
                                  case measure => have := HJ2.out; have := HK2.out; have := HK3.out; have := HK4.out; omega
                                  case rel => exact ⟨(y350), (x11_4), (wrap64 (x71_4 + 1)), (by first | rfl | (simp; done) | (simp [*]; done)), (by first | rfl | (simp; done) | (simp [*]; done)), H', ⟨by have := HJ2.out; have := HK2.out; have := HK3.out; have := HK4.out; omega⟩, ⟨by (try simp only [hl5_4]); (with_reducible repeat (first | apply Kd.R_alloc | apply Kd.R_drewN | apply Kd.R_drew)); exact Kd.R_mono HO_5.out (fun _ hk => trivial)⟩, ⟨by (try simp only [hl5_4]); (with_reducible repeat (first | refine blk_drewN ?_ _ | refine blk_drew ?_ | refine blk_alloc ?_ _)); exact BK318.out⟩, ⟨by repeat (first | (with_reducible first | exact HB.out | apply below_alloc | apply pw_below_drewN | apply below_drew1 | refine below_set ?_ GE318.out | refine below_set ?_ GE349.out) | exact HB.out)⟩⟩
                              · rw [if_neg c62] at H
                                have c62b0 : (t348 == 0) = false := beq_eq_false_iff_ne.mpr c62
                                have c62b1 : (t348 != 0) = true := bne_iff_ne.mpr c62
                                exact absurd (H.trans (congrArg some HRT.out)) (by simp)
                            · rw [if_neg c60] at H
                              exact absurd H (by simp)
                          · rw [if_neg c59] at H
                            exact absurd H (by simp)
                        · rw [if_neg c58] at H
                          have c58b0 : decide (x71_4 < (x5_3.length : Int)) = false := decide_eq_false c58
                          clear c58
                          (try (have c58h0 := c58b0; simp only [hl5_4] at c58h0))
                          have H' := Aside0.mk H
                          clear H
                          go_wp2
                          (try simp only [← hl5_4])
                          go_roundg k4
                          case measure => have := HJ2.out; have := HK2.out; have := HK3.out; have := HK4.out; omega
                          case rel => exact ⟨(x5_4), (x11_4), (wrap64 (x66_3 + 1)), (by first | rfl | (simp; done) | (simp [*]; done)), (by first | rfl | (simp; done) | (simp [*]; done)), H', ⟨by have := HJ2.out; have := HK2.out; have := HK3.out; have := HK4.out; omega⟩, ⟨by (try simp only [hl5_4]); (with_reducible repeat (first | apply Kd.R_alloc | apply Kd.R_drewN | apply Kd.R_drew)); exact HO_5.out⟩, ⟨by (try simp only [hl5_4]); (with_reducible repeat (first | refine blk_drewN ?_ _ | refine blk_drew ?_ | refine blk_alloc ?_ _)); exact BK318.out⟩, ⟨by repeat (first | (with_reducible first | exact HB.out | apply below_alloc | apply pw_below_drewN | apply below_drew1 | refine below_set ?_ GE318.out) | exact HB.out)⟩⟩
                  · rw [if_neg c56] at H
                    have c56b0 : decide (x66_3 < a0_0) = false := decide_eq_false c56
                    clear c56
                    by_cases c101 : a0_2 = 0
                    · rw [if_pos c101] at H
                      have c101b0 : (a0_2 == 0) = true := beq_iff_eq.mpr c101
                      have c101b1 : (a0_2 != 0) = false := bne_eq_false_iff_eq.mpr c101
                      clear c101
                      obtain rfl := Option.some.inj H
                      have hcz102_0 : wr.cell? ⟨gb318, 0, none⟩ = some (.int .i64 a0_0) := (blk_cell BK318.out 0).trans rfl
                      have hcz102_1 : wr.cell? ⟨gb318, 1, none⟩ = some (.int .i64 a0_1) := (blk_cell BK318.out 1).trans rfl
                      have hcz102_2 : wr.cell? ⟨gb318, 2, none⟩ = some (.int .i64 a0_2) := (blk_cell BK318.out 2).trans rfl
                      have hfz102_0 := blk_frozen BK318.out 0
                      have hfz102_1 := blk_frozen BK318.out 1
                      have hfz102_2 := blk_frozen BK318.out 2
                      obtain ⟨Ao103, co103, eo103⟩ := Kd.R_slice HO_5.out
                      subst eo103
                      go_wp2
                      go_ret
                      exact ⟨by first | rfl | (simp [errW_none, errW_some] <;> rfl) | (simp [*, errW_none, errW_some] <;> rfl), by repeat (first | (with_reducible first | exact HB.out | apply below_alloc | apply pw_below_drewN | apply below_drew1 | refine below_set ?_ GE318.out) | exact HB.out)⟩
                    · rw [if_neg c101] at H
                      have c101b0 : (a0_2 == 0) = false := beq_eq_false_iff_ne.mpr c101
                      have c101b1 : (a0_2 != 0) = true := bne_iff_ne.mpr c101
                      obtain ⟨ji104, hji104⟩ : ∃ j_ : Int, (mn a0_2 (x5_3.length : Int)) = j_ := ⟨_, rfl⟩
                      replace H : (some (x11_3 == (ji104))) = some r := by first | (rw [hji104] at H; exact H) | (simp only [hji104] at H ⊢; exact H)
                      have hji104_ : (if (x5_3.length : Int) < a0_2 then (x5_3.length : Int) else a0_2) = ji104 := hji104
                      obtain rfl := Option.some.inj H
                      have hcz105_0 : wr.cell? ⟨gb318, 0, none⟩ = some (.int .i64 a0_0) := (blk_cell BK318.out 0).trans rfl
                      have hcz105_1 : wr.cell? ⟨gb318, 1, none⟩ = some (.int .i64 a0_1) := (blk_cell BK318.out 1).trans rfl
                      have hcz105_2 : wr.cell? ⟨gb318, 2, none⟩ = some (.int .i64 a0_2) := (blk_cell BK318.out 2).trans rfl
                      have hfz105_0 := blk_frozen BK318.out 0
                      have hfz105_1 := blk_frozen BK318.out 1
                      have hfz105_2 := blk_frozen BK318.out 2
                      obtain ⟨Ao106, co106, eo106⟩ := Kd.R_slice HO_5.out
                      subst eo106
                      go_wp2
                      go_ret
                      exact ⟨by first | rfl | (simp [errW_none, errW_some] <;> rfl) | (simp only [← hji104]; first | rfl | (simp [errW_none, errW_some] <;> rfl)) | (simp [*, errW_none, errW_some] <;> rfl), by repeat (first | (with_reducible first | exact HB.out | apply below_alloc | apply pw_below_drewN | apply below_drew1 | refine below_set ?_ GE318.out) | exact HB.out)⟩

end Go.Proofs.Ytmmknoaapllcmaa.PA
