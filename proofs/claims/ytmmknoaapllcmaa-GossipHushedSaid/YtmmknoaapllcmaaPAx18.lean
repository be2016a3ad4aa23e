-- Written by a program of this session (mkprint.py: the kit's print, changed) for this claim. Not trusted: Lean checks it.
import Derived.Test.YtmmknoaapllcmaaPAx0
import Derived.Test.YtmmknoaapllcmaaPAx3
import Derived.Test.YtmmknoaapllcmaaPAx4
namespace Go.Proofs.Ytmmknoaapllcmaa.PA
open Go.RowKit Go.Proofs.YtmmknoaapllcmaaW.PrintWords Go.Proofs.YtmmknoaapllcmaaW.PrintLast Go.Proofs.YtmmknoaapllcmaaW.PrintMore
attribute [local go_sem] max2_int min2_int max_two min_two max_three min_three max_four min_four   -- for this text's walks alone
set_option linter.unusedVariables false
set_option linter.unusedSimpArgs false

/-! ### gossip_Due: function 20 -/
def gossip_Due.j0 : Nat → Int → Int → Bool → Int → Int → Int → Int → Int → Int → Int → Option (Int × Bool × Int)
  | 0, _, _, _, _, _, _, _, _, _, _ => none
  | k + 1, x2, x3, x24, x359000, x359001, x359002, x360000, x360001, x360002, x360003 => if x24 = true then (some (0, false, 2)) else (if x360002 < x2 then (some (0, false, 0)) else (if x360002 > x3 then (some (0, false, 0)) else ((gossip_quiet.f x359000 x359001 x359002 x360000 x360001 x360002 x360003).bind fun t361 => (if t361 = true then (some (x360002, true, 0)) else (some (0, false, 0))))))
def gossip_Due.f (k : Nat) (a0_0 : Int) (a0_1 : Int) (a0_2 : Int) (a1_0 : Int) (a1_1 : Int) (a1_2 : Int) (a1_3 : Int) (a2 : Int) (a3 : Int) : Option (Int × Bool × Int) := (gossip_Valid.f k a0_0 a0_1 a0_2 a1_0 a1_1 a1_2 a1_3).bind fun t360 => (if t360 = 0 then (if a2 < 0 then (gossip_Due.j0 k a2 a3 true a0_0 a0_1 a0_2 a1_0 a1_1 a1_2 a1_3) else (gossip_Due.j0 k a2 a3 (decide (a3 < a2)) a0_0 a0_1 a0_2 a1_0 a1_1 a1_2 a1_3)) else (some (0, false, t360)))
theorem gossip_Due.mono_l : ∀ k, (∀ y0 y1 y2 y3 y4 y5 y6 y7 y8 y9, LeO (gossip_Due.j0 k y0 y1 y2 y3 y4 y5 y6 y7 y8 y9) (gossip_Due.j0 (k + 1) y0 y1 y2 y3 y4 y5 y6 y7 y8 y9))
  | 0 => fun _ _ _ _ _ _ _ _ _ _ r h => by simp [gossip_Due.j0] at h
  | k + 1 => by
    have ih0 := gossip_Due.mono_l k
    · intro y0 y1 y2 y3 y4 y5 y6 y7 y8 y9
      unfold gossip_Due.j0
      repeat' first
      | (with_reducible exact ih0 _ _ _ _ _ _ _ _ _ _)
      | (with_reducible exact gossip_Valid.mono _ _ _ _ _ _ _ _)
      | (with_reducible exact LeO.refl _)
      | (with_reducible exact LeO.none _)
      | (with_reducible refine LeO.ite ?_ ?_)
      | (with_reducible refine LeO.bind ?_ (fun _ => ?_))
      | exact ih0 _ _ _ _ _ _ _ _ _ _
      | exact gossip_Valid.mono _ _ _ _ _ _ _ _
      | exact LeO.none _
      | refine LeO.ite ?_ ?_
      | refine LeO.bind ?_ (fun _ => ?_)
theorem gossip_Due.mono : ∀ a0 a1 a2 a3 a4 a5 a6 a7 a8 k, LeO (gossip_Due.f k a0 a1 a2 a3 a4 a5 a6 a7 a8) (gossip_Due.f (k + 1) a0 a1 a2 a3 a4 a5 a6 a7 a8) := by
  intro a0 a1 a2 a3 a4 a5 a6 a7 a8 k
  have ih0 := gossip_Due.mono_l k
  unfold gossip_Due.f
  repeat' first
      | (with_reducible exact ih0 _ _ _ _ _ _ _ _ _ _)
      | (with_reducible exact gossip_Valid.mono _ _ _ _ _ _ _ _)
      | (with_reducible exact LeO.refl _)
      | (with_reducible exact LeO.none _)
      | (with_reducible refine LeO.ite ?_ ?_)
      | (with_reducible refine LeO.bind ?_ (fun _ => ?_))
      | exact ih0 _ _ _ _ _ _ _ _ _ _
      | exact gossip_Valid.mono _ _ _ _ _ _ _ _
      | exact LeO.none _
      | refine LeO.ite ?_ ?_
      | refine LeO.bind ?_ (fun _ => ?_)
set_option maxHeartbeats 8000000 in
set_option maxRecDepth 100000 in
theorem gossip_Due.calls (k : Nat) (a0_0 : Int) (a0_1 : Int) (a0_2 : Int) (a1_0 : Int) (a1_1 : Int) (a1_2 : Int) (a1_3 : Int) (a2 : Int) (a3 : Int) (r1 : Int) (r2 : Bool) (r3 : Int) (w : World) (h : gossip_Due.f k a0_0 a0_1 a0_2 a1_0 a1_1 a1_2 a1_3 a2 a3 = some (r1, r2, r3)) :
    Calls Try.prog 20 #[.agg #[.int .i64 a0_0, .int .i64 a0_1, .int .i64 a0_2], .agg #[.int .i64 a1_0, .int .i64 a1_1, .int .i64 a1_2, .int .i64 a1_3], .int .i64 a2, .int .i64 a3] w fun e w' => e = .returned (.tuple #[.int .i64 r1, .bool r2, .int .i64 r3]) ∧ Below w.heap.size w w' := by
  have hu23 := Try.underlying23
  have hu28 := Try.underlying28
  have HB := Aside0.mk (Below.refl w.heap.size w)
  have H : ((gossip_Valid.f k a0_0 a0_1 a0_2 a1_0 a1_1 a1_2 a1_3).bind fun t360 => (if t360 = 0 then (if a2 < 0 then (gossip_Due.j0 k a2 a3 true a0_0 a0_1 a0_2 a1_0 a1_1 a1_2 a1_3) else (gossip_Due.j0 k a2 a3 (decide (a3 < a2)) a0_0 a0_1 a0_2 a1_0 a1_1 a1_2 a1_3)) else (some (0, false, t360)))) = some (r1, r2, r3) := h
  clear h
  replace H := Option.bind_eq_some_iff.mp H
  obtain ⟨t360, A50, H⟩ := H
  replace H : (if t360 = 0 then (if a2 < 0 then (gossip_Due.j0 k a2 a3 true a0_0 a0_1 a0_2 a1_0 a1_1 a1_2 a1_3) else (gossip_Due.j0 k a2 a3 (decide (a3 < a2)) a0_0 a0_1 a0_2 a1_0 a1_1 a1_2 a1_3)) else (some (0, false, t360))) = some (r1, r2, r3) := H
  have A5 := Aside0.mk A50
  clear A50
  by_cases c6 : t360 = 0
  · rw [if_pos c6] at H
    have c6b0 : (t360 == 0) = true := beq_iff_eq.mpr c6
    have c6b1 : (t360 != 0) = false := bne_eq_false_iff_eq.mpr c6
    clear c6
    have HC7 := Aside0.mk H
    clear H
    go_enter Try.func20, Try.ntmps20
    go_upto_region 4 with (first | ((with_reducible refine gate_dst (N := 4) rfl ?_); refine box_event ?hg (N := 4) ?hd (cs := #[.int .i64 a0_0, .int .i64 a0_1, .int .i64 a0_2]) (t := 23) ?hr ?_; (case hd => rfl); (case hg => rfl); (case hr => first | (go_simp; done) | (go_simp; rfl)); intro gb358 hg w8 hbox hb; have n0_ := Aside0.mk (below_step (by repeat (first | (with_reducible first | exact HB.out | apply below_alloc | apply pw_below_drewN | apply below_drew1) | exact HB.out)) hb); have n1_ := Aside0.mk (hbox); have n2_ := Aside0.mk ((by rw [hg]; exact (below_size (by repeat (first | (with_reducible first | exact HB.out | apply below_alloc | apply pw_below_drewN | apply below_drew1) | exact HB.out))) : w.heap.size ≤ gb358)); have n3_ := Aside0.mk ((by rw [hg]; exact (below_size (by repeat (first | (with_reducible first | exact HB.out | apply below_alloc | apply pw_below_drewN | apply below_drew1) | exact HB.out))) : w.heap.size ≤ gb358)); clear HB; have HB := n0_; have BK358 := n1_; have GW358 := n2_; have GE358 := n3_; clear n0_ n1_ n2_ n3_; clear hb hbox hg) | ((with_reducible refine gate_dst (N := 5) rfl ?_); refine box_event ?hg (N := 5) ?hd (cs := #[.int .i64 a1_0, .int .i64 a1_1, .int .i64 a1_2, .int .i64 a1_3]) (t := 28) ?hr ?_; (case hd => rfl); (case hg => rfl); (case hr => first | (go_simp; done) | (go_simp; rfl)); intro gb359 hg w9 hbox hb; have n0_ := Aside0.mk (blk_below (g := gb358) (o := .cells #[.int .i64 a0_0, .int .i64 a0_1, .int .i64 a0_2] 23 (0, 0)) (by (with_reducible repeat (first | refine blk_drewN ?_ _ | refine blk_drew ?_ | refine blk_alloc ?_ _)); exact BK358.out) hb); have n1_ := Aside0.mk (below_step (by repeat (first | (with_reducible first | exact HB.out | apply below_alloc | apply pw_below_drewN | apply below_drew1 | refine below_set ?_ GE358.out) | exact HB.out)) hb); have n2_ := Aside0.mk (hbox); have n3_ := Aside0.mk ((by rw [hg]; exact (below_size (by repeat (first | (with_reducible first | exact HB.out | apply below_alloc | apply pw_below_drewN | apply below_drew1 | refine below_set ?_ GE358.out) | exact HB.out))) : w.heap.size ≤ gb359)); have n4_ := Aside0.mk ((by rw [hg]; exact (below_size (by repeat (first | (with_reducible first | exact HB.out | apply below_alloc | apply pw_below_drewN | apply below_drew1 | refine below_set ?_ GE358.out) | exact HB.out))) : w.heap.size ≤ gb359)); have n5_ := Aside0.mk ((by rw [hg]; exact Nat.ne_of_lt (blk_lt (g := gb358) (o := .cells #[.int .i64 a0_0, .int .i64 a0_1, .int .i64 a0_2] 23 (0, 0)) (by (with_reducible repeat (first | refine blk_drewN ?_ _ | refine blk_drew ?_ | refine blk_alloc ?_ _)); exact BK358.out)) : gb358 ≠ gb359)); have n6_ := Aside0.mk ((by rw [hg]; exact Nat.ne_of_gt (blk_lt (g := gb358) (o := .cells #[.int .i64 a0_0, .int .i64 a0_1, .int .i64 a0_2] 23 (0, 0)) (by (with_reducible repeat (first | refine blk_drewN ?_ _ | refine blk_drew ?_ | refine blk_alloc ?_ _)); exact BK358.out)) : gb359 ≠ gb358)); clear BK358; clear HB; have BK358 := n0_; have HB := n1_; have BK359 := n2_; have GW359 := n3_; have GE359 := n4_; have NB358_359 := n5_; have NB359_358 := n6_; clear n0_ n1_ n2_ n3_ n4_ n5_ n6_; clear hb hbox hg; have hnb10 := NB358_359.out; have hnc10 := NB359_358.out; have hcz11_0 : w9.cell? ⟨gb358, 0, none⟩ = some (.int .i64 a0_0) := (blk_cell BK358.out 0).trans rfl; have hcz11_1 : w9.cell? ⟨gb358, 1, none⟩ = some (.int .i64 a0_1) := (blk_cell BK358.out 1).trans rfl; have hcz11_2 : w9.cell? ⟨gb358, 2, none⟩ = some (.int .i64 a0_2) := (blk_cell BK358.out 2).trans rfl; have hfz11_0 := blk_frozen BK358.out 0; have hfz11_1 := blk_frozen BK358.out 1; have hfz11_2 := blk_frozen BK358.out 2; have hcz12_0 : w9.cell? ⟨gb359, 0, none⟩ = some (.int .i64 a1_0) := (blk_cell BK359.out 0).trans rfl; have hcz12_1 : w9.cell? ⟨gb359, 1, none⟩ = some (.int .i64 a1_1) := (blk_cell BK359.out 1).trans rfl; have hcz12_2 : w9.cell? ⟨gb359, 2, none⟩ = some (.int .i64 a1_2) := (blk_cell BK359.out 2).trans rfl; have hcz12_3 : w9.cell? ⟨gb359, 3, none⟩ = some (.int .i64 a1_3) := (blk_cell BK359.out 3).trans rfl; have hfz12_0 := blk_frozen BK359.out 0; have hfz12_1 := blk_frozen BK359.out 1; have hfz12_2 := blk_frozen BK359.out 2; have hfz12_3 := blk_frozen BK359.out 3) | ((with_reducible refine gate_callee (f := 16) rfl ?_); refine goesL_ (some 14) rfl rfl Try.func16 (by kernel_rfl) rfl #[.agg #[.int .i64 a0_0, .int .i64 a0_1, .int .i64 a0_2], .agg #[.int .i64 a1_0, .int .i64 a1_1, .int .i64 a1_2, .int .i64 a1_3]] rfl (by (try simp only [List.map_toArray, List.map_cons, List.map_nil]); first | done | rfl | (simp only [List.length_drop, List.length_take]; rfl)) ?_; (with_reducible refine (gossip_Valid.calls k a0_0 a0_1 a0_2 a1_0 a1_1 a1_2 a1_3 t360 _ A5.out).mono ?_); rintro e w13 ⟨rfl, hb⟩; refine ⟨_, rfl, ?_⟩; have n0_ := Aside0.mk (blk_below (g := gb358) (o := .cells #[.int .i64 a0_0, .int .i64 a0_1, .int .i64 a0_2] 23 (0, 0)) (by (with_reducible repeat (first | refine blk_drewN ?_ _ | refine blk_drew ?_ | refine blk_alloc ?_ _)); exact BK358.out) hb); have n1_ := Aside0.mk (blk_below (g := gb359) (o := .cells #[.int .i64 a1_0, .int .i64 a1_1, .int .i64 a1_2, .int .i64 a1_3] 28 (0, 0)) (by (with_reducible repeat (first | refine blk_drewN ?_ _ | refine blk_drew ?_ | refine blk_alloc ?_ _)); exact BK359.out) hb); have n2_ := Aside0.mk (below_step (by repeat (first | (with_reducible first | exact HB.out | apply below_alloc | apply pw_below_drewN | apply below_drew1 | refine below_set ?_ GE358.out | refine below_set ?_ GE359.out) | exact HB.out)) hb); clear BK358; clear BK359; clear HB; have BK358 := n0_; have BK359 := n1_; have HB := n2_; clear n0_ n1_ n2_; (try clear hb); (try clear hb2); (try clear hk); (try clear hi)))
    (try simp only [Act.put, List.setIfInBounds_toArray, List.set_cons_zero, List.set_cons_succ])
    go_cut [24] (fun v24 wc => ∃ (kq : Nat) (x24_6 : Bool), v24 = .bool x24_6 ∧ Aside0 (gossip_Due.j0 kq a2 a3 x24_6 a0_0 a0_1 a0_2 a1_0 a1_1 a1_2 a1_3 = some (r1, r2, r3)) ∧ Aside0 (kq ≤ k) ∧ Aside0 (wc.heap[gb358]? = some (.cells #[.int .i64 a0_0, .int .i64 a0_1, .int .i64 a0_2] 23 (0, 0))) ∧ Aside0 (wc.heap[gb359]? = some (.cells #[.int .i64 a1_0, .int .i64 a1_1, .int .i64 a1_2, .int .i64 a1_3] 28 (0, 0))) ∧ Aside0 (Below w.heap.size w wc))
    case first =>
      have H := HC7.out
      clear HC7
      by_cases c14 : a2 < 0
      · rw [if_pos c14] at H
        have c14b0 : decide (a2 < 0) = true := decide_eq_true c14
        clear c14
        (first | rw [c14b0] | (simp only [i64_w, i32_w]; rw [c14b0]) | skip)
        have H' := Aside0.mk H
        clear H
        go_wp2
        go_meet
        case rel => exact ⟨_, (true), (by first | rfl | (simp; done) | (simp [*]; done)), H', ⟨by first | omega | exact Nat.le_refl _⟩, ⟨by (with_reducible repeat (first | refine blk_drewN ?_ _ | refine blk_drew ?_ | refine blk_alloc ?_ _)); exact BK358.out⟩, ⟨by (with_reducible repeat (first | refine blk_drewN ?_ _ | refine blk_drew ?_ | refine blk_alloc ?_ _)); exact BK359.out⟩, ⟨by repeat (first | (with_reducible first | exact HB.out | apply below_alloc | apply pw_below_drewN | apply below_drew1 | refine below_set ?_ GE358.out | refine below_set ?_ GE359.out) | exact HB.out)⟩⟩
      · rw [if_neg c14] at H
        have c14b0 : decide (a2 < 0) = false := decide_eq_false c14
        clear c14
        (first | rw [c14b0] | (simp only [i64_w, i32_w]; rw [c14b0]) | skip)
        have H' := Aside0.mk H
        clear H
        go_wp2
        go_meet
        case rel => exact ⟨_, (decide (a3 < a2)), (by first | rfl | (simp; done) | (simp [*]; done)), H', ⟨by first | omega | exact Nat.le_refl _⟩, ⟨by (with_reducible repeat (first | refine blk_drewN ?_ _ | refine blk_drew ?_ | refine blk_alloc ?_ _)); exact BK358.out⟩, ⟨by (with_reducible repeat (first | refine blk_drewN ?_ _ | refine blk_drew ?_ | refine blk_alloc ?_ _)); exact BK359.out⟩, ⟨by repeat (first | (with_reducible first | exact HB.out | apply below_alloc | apply pw_below_drewN | apply below_drew1 | refine below_set ?_ GE358.out | refine below_set ?_ GE359.out) | exact HB.out)⟩⟩
    case rest =>
      clear HC7
      try clear c1
      try clear c2
      try clear p2
      try clear c6
      try clear c6b0
      try clear c6b1
      try clear c10
      try clear c14
      try clear c14b0
      try clear hcz11_0
      try clear hcz11_1
      try clear hcz11_2
      try clear hcz12_0
      try clear hcz12_1
      try clear hcz12_2
      try clear hcz12_3
      try clear hfz11_0
      try clear hfz11_1
      try clear hfz11_2
      try clear hfz12_0
      try clear hfz12_1
      try clear hfz12_2
      try clear hfz12_3
      obtain ⟨kq, x24_6, rfl, HA, HJ6, BK358, BK359, HB⟩ := hcut
      cases kq with
      | zero => exact absurd HA.out (by simp [gossip_Due.j0])
      | succ kj6 =>
        have H := HA.out
        clear HA
        simp only [gossip_Due.j0] at H
        by_cases c15 : x24_6 = true
        · subst c15
          have H1 : (some (0, false, 2)) = some (r1, r2, r3) := by rw [if_pos rfl] at H; exact H
          clear H
          have H := H1
          clear H1
          simp only [Option.some.injEq, Prod.mk.injEq] at H
          obtain ⟨rfl, rfl, rfl⟩ := H
          go_wp2
          go_ret3
          exact ⟨by first | rfl | (simp [errW_none, errW_some] <;> rfl) | (simp [*, errW_none, errW_some] <;> rfl), by repeat (first | (with_reducible first | exact HB.out | apply below_alloc | apply pw_below_drewN | apply below_drew1 | refine below_set ?_ GE358.out | refine below_set ?_ GE359.out) | exact HB.out)⟩
        · replace c15 := Bool.eq_false_iff.mpr c15
          subst c15
          have H1 : (if a1_2 < a2 then (some (0, false, 0)) else (if a1_2 > a3 then (some (0, false, 0)) else ((gossip_quiet.f a0_0 a0_1 a0_2 a1_0 a1_1 a1_2 a1_3).bind fun t361 => (if t361 = true then (some (a1_2, true, 0)) else (some (0, false, 0)))))) = some (r1, r2, r3) := by rw [if_neg (show ¬ (false = true) by decide)] at H; exact H
          clear H
          have H := H1
          clear H1
          by_cases c16 : a1_2 < a2
          · rw [if_pos c16] at H
            have c16b0 : decide (a1_2 < a2) = true := decide_eq_true c16
            clear c16
            simp only [Option.some.injEq, Prod.mk.injEq] at H
            obtain ⟨rfl, rfl, rfl⟩ := H
            have hnb17 := NB359_358.out
            have hnc17 := NB358_359.out
            have hcz18_0 : wc.cell? ⟨gb359, 0, none⟩ = some (.int .i64 a1_0) := (blk_cell BK359.out 0).trans rfl
            have hcz18_1 : wc.cell? ⟨gb359, 1, none⟩ = some (.int .i64 a1_1) := (blk_cell BK359.out 1).trans rfl
            have hcz18_2 : wc.cell? ⟨gb359, 2, none⟩ = some (.int .i64 a1_2) := (blk_cell BK359.out 2).trans rfl
            have hcz18_3 : wc.cell? ⟨gb359, 3, none⟩ = some (.int .i64 a1_3) := (blk_cell BK359.out 3).trans rfl
            have hfz18_0 := blk_frozen BK359.out 0
            have hfz18_1 := blk_frozen BK359.out 1
            have hfz18_2 := blk_frozen BK359.out 2
            have hfz18_3 := blk_frozen BK359.out 3
            go_wp2
            go_ret3
            exact ⟨by first | rfl | (simp [errW_none, errW_some] <;> rfl) | (simp [*, errW_none, errW_some] <;> rfl), by repeat (first | (with_reducible first | exact HB.out | apply below_alloc | apply pw_below_drewN | apply below_drew1 | refine below_set ?_ GE358.out | refine below_set ?_ GE359.out) | exact HB.out)⟩
          · rw [if_neg c16] at H
            have c16b0 : decide (a1_2 < a2) = false := decide_eq_false c16
            clear c16
            by_cases c19 : a1_2 > a3
            · rw [if_pos c19] at H
              have c19b0 : decide (a3 < a1_2) = true := decide_eq_true c19
              clear c19
              simp only [Option.some.injEq, Prod.mk.injEq] at H
              obtain ⟨rfl, rfl, rfl⟩ := H
              have hnb20 := NB359_358.out
              have hnc20 := NB358_359.out
              have hcz21_0 : wc.cell? ⟨gb359, 0, none⟩ = some (.int .i64 a1_0) := (blk_cell BK359.out 0).trans rfl
              have hcz21_1 : wc.cell? ⟨gb359, 1, none⟩ = some (.int .i64 a1_1) := (blk_cell BK359.out 1).trans rfl
              have hcz21_2 : wc.cell? ⟨gb359, 2, none⟩ = some (.int .i64 a1_2) := (blk_cell BK359.out 2).trans rfl
              have hcz21_3 : wc.cell? ⟨gb359, 3, none⟩ = some (.int .i64 a1_3) := (blk_cell BK359.out 3).trans rfl
              have hfz21_0 := blk_frozen BK359.out 0
              have hfz21_1 := blk_frozen BK359.out 1
              have hfz21_2 := blk_frozen BK359.out 2
              have hfz21_3 := blk_frozen BK359.out 3
              go_wp2
              go_ret3
              exact ⟨by first | rfl | (simp [errW_none, errW_some] <;> rfl) | (simp [*, errW_none, errW_some] <;> rfl), by repeat (first | (with_reducible first | exact HB.out | apply below_alloc | apply pw_below_drewN | apply below_drew1 | refine below_set ?_ GE358.out | refine below_set ?_ GE359.out) | exact HB.out)⟩
            · rw [if_neg c19] at H
              have c19b0 : decide (a3 < a1_2) = false := decide_eq_false c19
              clear c19
              replace H := Option.bind_eq_some_iff.mp H
              obtain ⟨t361, A220, H⟩ := H
              replace H : (if t361 = true then (some (a1_2, true, 0)) else (some (0, false, 0))) = some (r1, r2, r3) := H
              have A22 := Aside0.mk A220
              clear A220
              by_cases c23 : t361 = true
              · subst c23
                have H1 : (some (a1_2, true, 0)) = some (r1, r2, r3) := by rw [if_pos rfl] at H; exact H
                clear H
                have H := H1
                clear H1
                simp only [Option.some.injEq, Prod.mk.injEq] at H
                obtain ⟨rfl, rfl, rfl⟩ := H
                have hnb24 := NB359_358.out
                have hnc24 := NB358_359.out
                have hcz25_0 : wc.cell? ⟨gb359, 0, none⟩ = some (.int .i64 a1_0) := (blk_cell BK359.out 0).trans rfl
                have hcz25_1 : wc.cell? ⟨gb359, 1, none⟩ = some (.int .i64 a1_1) := (blk_cell BK359.out 1).trans rfl
                have hcz25_2 : wc.cell? ⟨gb359, 2, none⟩ = some (.int .i64 a1_2) := (blk_cell BK359.out 2).trans rfl
                have hcz25_3 : wc.cell? ⟨gb359, 3, none⟩ = some (.int .i64 a1_3) := (blk_cell BK359.out 3).trans rfl
                have hfz25_0 := blk_frozen BK359.out 0
                have hfz25_1 := blk_frozen BK359.out 1
                have hfz25_2 := blk_frozen BK359.out 2
                have hfz25_3 := blk_frozen BK359.out 3
                have hcz26_0 : wc.cell? ⟨gb358, 0, none⟩ = some (.int .i64 a0_0) := (blk_cell BK358.out 0).trans rfl
                have hcz26_1 : wc.cell? ⟨gb358, 1, none⟩ = some (.int .i64 a0_1) := (blk_cell BK358.out 1).trans rfl
                have hcz26_2 : wc.cell? ⟨gb358, 2, none⟩ = some (.int .i64 a0_2) := (blk_cell BK358.out 2).trans rfl
                have hfz26_0 := blk_frozen BK358.out 0
                have hfz26_1 := blk_frozen BK358.out 1
                have hfz26_2 := blk_frozen BK358.out 2
                go_wp2_with (first | (go_at_call 26; (with_reducible refine (gossip_quiet.calls a0_0 a0_1 a0_2 a1_0 a1_1 a1_2 a1_3 true _ A22.out).mono ?_); rintro e w27 ⟨rfl, hb⟩; have n0_ := Aside0.mk (blk_below (g := gb358) (o := .cells #[.int .i64 a0_0, .int .i64 a0_1, .int .i64 a0_2] 23 (0, 0)) (by (with_reducible repeat (first | refine blk_drewN ?_ _ | refine blk_drew ?_ | refine blk_alloc ?_ _)); exact BK358.out) hb); have n1_ := Aside0.mk (blk_below (g := gb359) (o := .cells #[.int .i64 a1_0, .int .i64 a1_1, .int .i64 a1_2, .int .i64 a1_3] 28 (0, 0)) (by (with_reducible repeat (first | refine blk_drewN ?_ _ | refine blk_drew ?_ | refine blk_alloc ?_ _)); exact BK359.out) hb); have n2_ := Aside0.mk (below_step (by repeat (first | (with_reducible first | exact HB.out | apply below_alloc | apply pw_below_drewN | apply below_drew1 | refine below_set ?_ GE358.out | refine below_set ?_ GE359.out) | exact HB.out)) hb); clear BK358; clear BK359; clear HB; have BK358 := n0_; have BK359 := n1_; have HB := n2_; clear n0_ n1_ n2_; (try clear hb); (try clear hb2); (try clear hk); (try clear hi); have hcz28_0 : w27.cell? ⟨gb359, 0, none⟩ = some (.int .i64 a1_0) := (blk_cell BK359.out 0).trans rfl; have hcz28_1 : w27.cell? ⟨gb359, 1, none⟩ = some (.int .i64 a1_1) := (blk_cell BK359.out 1).trans rfl; have hcz28_2 : w27.cell? ⟨gb359, 2, none⟩ = some (.int .i64 a1_2) := (blk_cell BK359.out 2).trans rfl; have hcz28_3 : w27.cell? ⟨gb359, 3, none⟩ = some (.int .i64 a1_3) := (blk_cell BK359.out 3).trans rfl; have hfz28_0 := blk_frozen BK359.out 0; have hfz28_1 := blk_frozen BK359.out 1; have hfz28_2 := blk_frozen BK359.out 2; have hfz28_3 := blk_frozen BK359.out 3))
                go_ret3
                exact ⟨by first | rfl | (simp [errW_none, errW_some] <;> rfl) | (simp [*, errW_none, errW_some] <;> rfl), by repeat (first | (with_reducible first | exact HB.out | apply below_alloc | apply pw_below_drewN | apply below_drew1 | refine below_set ?_ GE358.out | refine below_set ?_ GE359.out) | exact HB.out)⟩
              · replace c23 := Bool.eq_false_iff.mpr c23
                subst c23
                have H1 : (some (0, false, 0)) = some (r1, r2, r3) := by rw [if_neg (show ¬ (false = true) by decide)] at H; exact H
                clear H
                have H := H1
                clear H1
                simp only [Option.some.injEq, Prod.mk.injEq] at H
                obtain ⟨rfl, rfl, rfl⟩ := H
                have hnb29 := NB359_358.out
                have hnc29 := NB358_359.out
                have hcz30_0 : wc.cell? ⟨gb359, 0, none⟩ = some (.int .i64 a1_0) := (blk_cell BK359.out 0).trans rfl
                have hcz30_1 : wc.cell? ⟨gb359, 1, none⟩ = some (.int .i64 a1_1) := (blk_cell BK359.out 1).trans rfl
                have hcz30_2 : wc.cell? ⟨gb359, 2, none⟩ = some (.int .i64 a1_2) := (blk_cell BK359.out 2).trans rfl
                have hcz30_3 : wc.cell? ⟨gb359, 3, none⟩ = some (.int .i64 a1_3) := (blk_cell BK359.out 3).trans rfl
                have hfz30_0 := blk_frozen BK359.out 0
                have hfz30_1 := blk_frozen BK359.out 1
                have hfz30_2 := blk_frozen BK359.out 2
                have hfz30_3 := blk_frozen BK359.out 3
                have hcz31_0 : wc.cell? ⟨gb358, 0, none⟩ = some (.int .i64 a0_0) := (blk_cell BK358.out 0).trans rfl
                have hcz31_1 : wc.cell? ⟨gb358, 1, none⟩ = some (.int .i64 a0_1) := (blk_cell BK358.out 1).trans rfl
                have hcz31_2 : wc.cell? ⟨gb358, 2, none⟩ = some (.int .i64 a0_2) := (blk_cell BK358.out 2).trans rfl
                have hfz31_0 := blk_frozen BK358.out 0
                have hfz31_1 := blk_frozen BK358.out 1
                have hfz31_2 := blk_frozen BK358.out 2
                go_wp2_with (first | (go_at_call 26; (with_reducible refine (gossip_quiet.calls a0_0 a0_1 a0_2 a1_0 a1_1 a1_2 a1_3 false _ A22.out).mono ?_); rintro e w32 ⟨rfl, hb⟩; have n0_ := Aside0.mk (blk_below (g := gb358) (o := .cells #[.int .i64 a0_0, .int .i64 a0_1, .int .i64 a0_2] 23 (0, 0)) (by (with_reducible repeat (first | refine blk_drewN ?_ _ | refine blk_drew ?_ | refine blk_alloc ?_ _)); exact BK358.out) hb); have n1_ := Aside0.mk (blk_below (g := gb359) (o := .cells #[.int .i64 a1_0, .int .i64 a1_1, .int .i64 a1_2, .int .i64 a1_3] 28 (0, 0)) (by (with_reducible repeat (first | refine blk_drewN ?_ _ | refine blk_drew ?_ | refine blk_alloc ?_ _)); exact BK359.out) hb); have n2_ := Aside0.mk (below_step (by repeat (first | (with_reducible first | exact HB.out | apply below_alloc | apply pw_below_drewN | apply below_drew1 | refine below_set ?_ GE358.out | refine below_set ?_ GE359.out) | exact HB.out)) hb); clear BK358; clear BK359; clear HB; have BK358 := n0_; have BK359 := n1_; have HB := n2_; clear n0_ n1_ n2_; (try clear hb); (try clear hb2); (try clear hk); (try clear hi)))
                go_ret3
                exact ⟨by first | rfl | (simp [errW_none, errW_some] <;> rfl) | (simp [*, errW_none, errW_some] <;> rfl), by repeat (first | (with_reducible first | exact HB.out | apply below_alloc | apply pw_below_drewN | apply below_drew1 | refine below_set ?_ GE358.out | refine below_set ?_ GE359.out) | exact HB.out)⟩
  · rw [if_neg c6] at H
    have c6b0 : (t360 == 0) = false := beq_eq_false_iff_ne.mpr c6
    have c6b1 : (t360 != 0) = true := bne_iff_ne.mpr c6
    simp only [Option.some.injEq, Prod.mk.injEq] at H
    obtain ⟨rfl, rfl, rfl⟩ := H
    go_enter Try.func20, Try.ntmps20
    go_wp2_with (first | ((with_reducible refine gate_dst (N := 4) rfl ?_); refine box_event ?hg (N := 4) ?hd (cs := #[.int .i64 a0_0, .int .i64 a0_1, .int .i64 a0_2]) (t := 23) ?hr ?_; (case hd => rfl); (case hg => rfl); (case hr => first | (go_simp; done) | (go_simp; rfl)); intro gb358 hg w33 hbox hb; have n0_ := Aside0.mk (below_step (by repeat (first | (with_reducible first | exact HB.out | apply below_alloc | apply pw_below_drewN | apply below_drew1) | exact HB.out)) hb); have n1_ := Aside0.mk (hbox); have n2_ := Aside0.mk ((by rw [hg]; exact (below_size (by repeat (first | (with_reducible first | exact HB.out | apply below_alloc | apply pw_below_drewN | apply below_drew1) | exact HB.out))) : w.heap.size ≤ gb358)); have n3_ := Aside0.mk ((by rw [hg]; exact (below_size (by repeat (first | (with_reducible first | exact HB.out | apply below_alloc | apply pw_below_drewN | apply below_drew1) | exact HB.out))) : w.heap.size ≤ gb358)); clear HB; have HB := n0_; have BK358 := n1_; have GW358 := n2_; have GE358 := n3_; clear n0_ n1_ n2_ n3_; clear hb hbox hg) | ((with_reducible refine gate_dst (N := 5) rfl ?_); refine box_event ?hg (N := 5) ?hd (cs := #[.int .i64 a1_0, .int .i64 a1_1, .int .i64 a1_2, .int .i64 a1_3]) (t := 28) ?hr ?_; (case hd => rfl); (case hg => rfl); (case hr => first | (go_simp; done) | (go_simp; rfl)); intro gb359 hg w34 hbox hb; have n0_ := Aside0.mk (blk_below (g := gb358) (o := .cells #[.int .i64 a0_0, .int .i64 a0_1, .int .i64 a0_2] 23 (0, 0)) (by (with_reducible repeat (first | refine blk_drewN ?_ _ | refine blk_drew ?_ | refine blk_alloc ?_ _)); exact BK358.out) hb); have n1_ := Aside0.mk (below_step (by repeat (first | (with_reducible first | exact HB.out | apply below_alloc | apply pw_below_drewN | apply below_drew1 | refine below_set ?_ GE358.out) | exact HB.out)) hb); have n2_ := Aside0.mk (hbox); have n3_ := Aside0.mk ((by rw [hg]; exact (below_size (by repeat (first | (with_reducible first | exact HB.out | apply below_alloc | apply pw_below_drewN | apply below_drew1 | refine below_set ?_ GE358.out) | exact HB.out))) : w.heap.size ≤ gb359)); have n4_ := Aside0.mk ((by rw [hg]; exact (below_size (by repeat (first | (with_reducible first | exact HB.out | apply below_alloc | apply pw_below_drewN | apply below_drew1 | refine below_set ?_ GE358.out) | exact HB.out))) : w.heap.size ≤ gb359)); have n5_ := Aside0.mk ((by rw [hg]; exact Nat.ne_of_lt (blk_lt (g := gb358) (o := .cells #[.int .i64 a0_0, .int .i64 a0_1, .int .i64 a0_2] 23 (0, 0)) (by (with_reducible repeat (first | refine blk_drewN ?_ _ | refine blk_drew ?_ | refine blk_alloc ?_ _)); exact BK358.out)) : gb358 ≠ gb359)); have n6_ := Aside0.mk ((by rw [hg]; exact Nat.ne_of_gt (blk_lt (g := gb358) (o := .cells #[.int .i64 a0_0, .int .i64 a0_1, .int .i64 a0_2] 23 (0, 0)) (by (with_reducible repeat (first | refine blk_drewN ?_ _ | refine blk_drew ?_ | refine blk_alloc ?_ _)); exact BK358.out)) : gb359 ≠ gb358)); clear BK358; clear HB; have BK358 := n0_; have HB := n1_; have BK359 := n2_; have GW359 := n3_; have GE359 := n4_; have NB358_359 := n5_; have NB359_358 := n6_; clear n0_ n1_ n2_ n3_ n4_ n5_ n6_; clear hb hbox hg; have hnb35 := NB358_359.out; have hnc35 := NB359_358.out; have hcz36_0 : w34.cell? ⟨gb358, 0, none⟩ = some (.int .i64 a0_0) := (blk_cell BK358.out 0).trans rfl; have hcz36_1 : w34.cell? ⟨gb358, 1, none⟩ = some (.int .i64 a0_1) := (blk_cell BK358.out 1).trans rfl; have hcz36_2 : w34.cell? ⟨gb358, 2, none⟩ = some (.int .i64 a0_2) := (blk_cell BK358.out 2).trans rfl; have hfz36_0 := blk_frozen BK358.out 0; have hfz36_1 := blk_frozen BK358.out 1; have hfz36_2 := blk_frozen BK358.out 2; have hcz37_0 : w34.cell? ⟨gb359, 0, none⟩ = some (.int .i64 a1_0) := (blk_cell BK359.out 0).trans rfl; have hcz37_1 : w34.cell? ⟨gb359, 1, none⟩ = some (.int .i64 a1_1) := (blk_cell BK359.out 1).trans rfl; have hcz37_2 : w34.cell? ⟨gb359, 2, none⟩ = some (.int .i64 a1_2) := (blk_cell BK359.out 2).trans rfl; have hcz37_3 : w34.cell? ⟨gb359, 3, none⟩ = some (.int .i64 a1_3) := (blk_cell BK359.out 3).trans rfl; have hfz37_0 := blk_frozen BK359.out 0; have hfz37_1 := blk_frozen BK359.out 1; have hfz37_2 := blk_frozen BK359.out 2; have hfz37_3 := blk_frozen BK359.out 3) | ((with_reducible refine gate_callee (f := 16) rfl ?_); refine goesL_ (some 14) rfl rfl Try.func16 (by kernel_rfl) rfl #[.agg #[.int .i64 a0_0, .int .i64 a0_1, .int .i64 a0_2], .agg #[.int .i64 a1_0, .int .i64 a1_1, .int .i64 a1_2, .int .i64 a1_3]] rfl (by (try simp only [List.map_toArray, List.map_cons, List.map_nil]); first | done | rfl | (simp only [List.length_drop, List.length_take]; rfl)) ?_; (with_reducible refine (gossip_Valid.calls k a0_0 a0_1 a0_2 a1_0 a1_1 a1_2 a1_3 t360 _ A5.out).mono ?_); rintro e w38 ⟨rfl, hb⟩; refine ⟨_, rfl, ?_⟩; have n0_ := Aside0.mk (blk_below (g := gb358) (o := .cells #[.int .i64 a0_0, .int .i64 a0_1, .int .i64 a0_2] 23 (0, 0)) (by (with_reducible repeat (first | refine blk_drewN ?_ _ | refine blk_drew ?_ | refine blk_alloc ?_ _)); exact BK358.out) hb); have n1_ := Aside0.mk (blk_below (g := gb359) (o := .cells #[.int .i64 a1_0, .int .i64 a1_1, .int .i64 a1_2, .int .i64 a1_3] 28 (0, 0)) (by (with_reducible repeat (first | refine blk_drewN ?_ _ | refine blk_drew ?_ | refine blk_alloc ?_ _)); exact BK359.out) hb); have n2_ := Aside0.mk (below_step (by repeat (first | (with_reducible first | exact HB.out | apply below_alloc | apply pw_below_drewN | apply below_drew1 | refine below_set ?_ GE358.out | refine below_set ?_ GE359.out) | exact HB.out)) hb); clear BK358; clear BK359; clear HB; have BK358 := n0_; have BK359 := n1_; have HB := n2_; clear n0_ n1_ n2_; (try clear hb); (try clear hb2); (try clear hk); (try clear hi)))
    go_ret3
    exact ⟨by first | rfl | (simp [errW_none, errW_some] <;> rfl) | (simp [*, errW_none, errW_some] <;> rfl), by repeat (first | (with_reducible first | exact HB.out | apply below_alloc | apply pw_below_drewN | apply below_drew1 | refine below_set ?_ GE358.out | refine below_set ?_ GE359.out) | exact HB.out)⟩

end Go.Proofs.Ytmmknoaapllcmaa.PA
