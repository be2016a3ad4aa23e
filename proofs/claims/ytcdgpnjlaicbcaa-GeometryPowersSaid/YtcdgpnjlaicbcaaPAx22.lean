-- Written by a program of this session (mkprint.py: the kit's print, changed) for this claim. Not trusted: Lean checks it.
import Derived.Test.YtcdgpnjlaicbcaaPAx0
import Derived.Test.YtcdgpnjlaicbcaaPAx13
import Derived.Test.YtcdgpnjlaicbcaaPAx21
namespace Go.Proofs.Ytcdgpnjlaicbcaa.PA
open Go.RowKit Go.Proofs.YtcdgpnjlaicbcaaW.PrintWords Go.Proofs.YtcdgpnjlaicbcaaW.PrintLast Go.Proofs.YtcdgpnjlaicbcaaW.PrintMore
attribute [local go_sem] max2_int min2_int max_two min_two max_three min_three max_four min_four   -- for this text's walks alone
-- thin
set_option linter.unusedVariables false
set_option linter.unusedSimpArgs false

/-! ### hopmeshref05_at: function 59 -/
mutual
def hopmeshref05_at.j0 : Nat → Int → List (S28) → List Int → List (S47) → Int → Int → Int → Int → Int → Int → Int → Option (Int)
 | 0, _, _, _, _, _, _, _, _, _, _, _ => none
 | k + 1, x10, x240000, x240001, x240002, x240003, x240004, x240005, x241000, x241001, x242000, x242001 => hopmeshref05_at.l0 k x10 0 x240000 x240001 x240002 x240003 x240004 x240005 x241000 x241001 x242000 x242001
def hopmeshref05_at.l0 : Nat → Int → Int → List (S28) → List Int → List (S47) → Int → Int → Int → Int → Int → Int → Int → Option (Int)
 | 0, _, _, _, _, _, _, _, _, _, _, _, _ => none
 | k + 1, x10, x11, x240000, x240001, x240002, x240003, x240004, x240005, x241000, x241001, x242000, x242001 => if x11 < (x240002.length : Int) then (if 0 ≤ x11 then ((hopmeshref05_Crosses.f k x241000 x241001 x242000 x242001 ((rd_T47 x240002 x11).f0.f0) ((rd_T47 x240002 x11).f0.f1) ((rd_T47 x240002 x11).f1.f0) ((rd_T47 x240002 x11).f1.f1) ((rd_T47 x240002 x11).f2)).bind fun t244 => (if t244 = true then (hopmeshref05_at.l0 k (wrap64 (Int.tdiv (wrap64 (x10 * ((rd_T47 x240002 x11).f2))) 1000)) (wrap64 (x11 + 1)) x240000 x240001 x240002 x240003 x240004 x240005 x241000 x241001 x242000 x242001) else (hopmeshref05_at.l0 k x10 (wrap64 (x11 + 1)) x240000 x240001 x240002 x240003 x240004 x240005 x241000 x241001 x242000 x242001))) else (none)) else (some x10)
end
def hopmeshref05_at.f (k : Nat) (l0_0 : List (S28)) (l0_1 : List Int) (l0_2 : List (S47)) (a0_3 : Int) (a0_4 : Int) (a0_5 : Int) (a1_0 : Int) (a1_1 : Int) (a2 : Int) (a3_0 : Int) (a3_1 : Int) : Option (Int) := (hopmeshref05_Square.f a1_0 a1_1 a3_0 a3_1).bind fun t242 => (if (mx t242 100) = 0 then (none) else (if a0_3 = 4 then (hopmeshref05_at.j0 k (wrap64 (Int.tdiv (wrap64 ((wrap64 (Int.tdiv (wrap64 (a2 * 100)) (mx t242 100))) * 100)) (mx t242 100))) l0_0 l0_1 l0_2 a0_3 a0_4 a0_5 a1_0 a1_1 a3_0 a3_1) else (hopmeshref05_at.j0 k (wrap64 (Int.tdiv (wrap64 (a2 * 100)) (mx t242 100))) l0_0 l0_1 l0_2 a0_3 a0_4 a0_5 a1_0 a1_1 a3_0 a3_1)))
theorem hopmeshref05_at.mono_l : ∀ k, (∀ y0 y1 y2 y3 y4 y5 y6 y7 y8 y9 y10, LeO (hopmeshref05_at.j0 k y0 y1 y2 y3 y4 y5 y6 y7 y8 y9 y10) (hopmeshref05_at.j0 (k + 1) y0 y1 y2 y3 y4 y5 y6 y7 y8 y9 y10)) ∧ (∀ y0 y1 y2 y3 y4 y5 y6 y7 y8 y9 y10 y11, LeO (hopmeshref05_at.l0 k y0 y1 y2 y3 y4 y5 y6 y7 y8 y9 y10 y11) (hopmeshref05_at.l0 (k + 1) y0 y1 y2 y3 y4 y5 y6 y7 y8 y9 y10 y11))
 | 0 => ⟨fun _ _ _ _ _ _ _ _ _ _ _ r h => by simp [hopmeshref05_at.j0] at h, fun _ _ _ _ _ _ _ _ _ _ _ _ r h => by simp [hopmeshref05_at.l0] at h⟩
 | k + 1 => by
  obtain ⟨ih0, ih1⟩ := hopmeshref05_at.mono_l k
  refine ⟨?_, ?_⟩
  ·intro y0 y1 y2 y3 y4 y5 y6 y7 y8 y9 y10
   unfold hopmeshref05_at.j0
   repeat' first
   | (with_reducible exact ih0 _ _ _ _ _ _ _ _ _ _ _)
   | (with_reducible exact ih1 _ _ _ _ _ _ _ _ _ _ _ _)
   | (with_reducible exact hopmeshref05_Crosses.mono _ _ _ _ _ _ _ _ _ _)
   | (with_reducible exact LeO.refl _)
   | (with_reducible exact LeO.none _)
   | (with_reducible refine LeO.ite ?_ ?_)
   | (with_reducible refine LeO.bind ?_ (fun _ => ?_))
   | exact ih0 _ _ _ _ _ _ _ _ _ _ _
   | exact ih1 _ _ _ _ _ _ _ _ _ _ _ _
   | exact hopmeshref05_Crosses.mono _ _ _ _ _ _ _ _ _ _
   | exact LeO.none _
   | refine LeO.ite ?_ ?_
   | refine LeO.bind ?_ (fun _ => ?_)
  intro y0 y1 y2 y3 y4 y5 y6 y7 y8 y9 y10 y11
  unfold hopmeshref05_at.l0
  repeat' first
  | (with_reducible exact ih0 _ _ _ _ _ _ _ _ _ _ _)
  | (with_reducible exact ih1 _ _ _ _ _ _ _ _ _ _ _ _)
  | (with_reducible exact hopmeshref05_Crosses.mono _ _ _ _ _ _ _ _ _ _)
  | (with_reducible exact LeO.refl _)
  | (with_reducible exact LeO.none _)
  | (with_reducible refine LeO.ite ?_ ?_)
  | (with_reducible refine LeO.bind ?_ (fun _ => ?_))
  | exact ih0 _ _ _ _ _ _ _ _ _ _ _
  | exact ih1 _ _ _ _ _ _ _ _ _ _ _ _
  | exact hopmeshref05_Crosses.mono _ _ _ _ _ _ _ _ _ _
  | exact LeO.none _
  | refine LeO.ite ?_ ?_
  | refine LeO.bind ?_ (fun _ => ?_)
theorem hopmeshref05_at.mono : ∀ a0 a1 a2 a3 a4 a5 a6 a7 a8 a9 a10 k, LeO (hopmeshref05_at.f k a0 a1 a2 a3 a4 a5 a6 a7 a8 a9 a10) (hopmeshref05_at.f (k + 1) a0 a1 a2 a3 a4 a5 a6 a7 a8 a9 a10) := by
 intro a0 a1 a2 a3 a4 a5 a6 a7 a8 a9 a10 k
 obtain ⟨ih0, ih1⟩ := hopmeshref05_at.mono_l k
 unfold hopmeshref05_at.f
 repeat' first
  | (with_reducible exact ih0 _ _ _ _ _ _ _ _ _ _ _)
  | (with_reducible exact ih1 _ _ _ _ _ _ _ _ _ _ _ _)
  | (with_reducible exact hopmeshref05_Crosses.mono _ _ _ _ _ _ _ _ _ _)
  | (with_reducible exact LeO.refl _)
  | (with_reducible exact LeO.none _)
  | (with_reducible refine LeO.ite ?_ ?_)
  | (with_reducible refine LeO.bind ?_ (fun _ => ?_))
  | exact ih0 _ _ _ _ _ _ _ _ _ _ _
  | exact ih1 _ _ _ _ _ _ _ _ _ _ _ _
  | exact hopmeshref05_Crosses.mono _ _ _ _ _ _ _ _ _ _
  | exact LeO.none _
  | refine LeO.ite ?_ ?_
  | refine LeO.bind ?_ (fun _ => ?_)
def hopmeshref05_at.T8 : Bool × List (List Nat × List Nat) := (true, [([], []), ([], []), ([], []), ([2], [2]), ([], []), ([3, 4], [3, 4]), ([5], [5]), ([0, 1, 6], [0, 1, 6])])
def hopmeshref05_at.B8 : List Nat := [0, 0, 0, 4, 0, 28, 60, 127]
theorem hopmeshref05_at.tab8 : rtab .any (opsOf Try.f59 8) = hopmeshref05_at.T8 := by kernel_rfl
theorem hopmeshref05_at.bits8 : waitsOk hopmeshref05_at.T8.2 hopmeshref05_at.B8 = true := by kernel_rfl
set_option maxHeartbeats 8000000 in
set_option maxRecDepth 100000 in
theorem hopmeshref05_at.calls (k : Nat) (A0_0 : Option Addr) (c0_0 : Nat) (l0_0 : List (S28)) (A0_1 : Option Addr) (c0_1 : Nat) (l0_1 : List Int) (A0_2 : Option Addr) (c0_2 : Nat) (l0_2 : List (S47)) (a0_3 : Int) (a0_4 : Int) (a0_5 : Int) (a1_0 : Int) (a1_1 : Int) (a2 : Int) (a3_0 : Int) (a3_1 : Int) (r : Int) (w : World) (hr0_0 : Kd.C k28 w A0_0 l0_0.length l0_0) (hc0_0 : l0_0.length ≤ c0_0) (hr0_1 : Kd.C (Kd.int .i64) w A0_1 l0_1.length l0_1) (hc0_1 : l0_1.length ≤ c0_1) (hr0_2 : Kd.C k47 w A0_2 l0_2.length l0_2) (hc0_2 : l0_2.length ≤ c0_2) (h : hopmeshref05_at.f k l0_0 l0_1 l0_2 a0_3 a0_4 a0_5 a1_0 a1_1 a2 a3_0 a3_1 = some r) :
 Calls Try.prog 59 #[.agg #[.slice A0_0 l0_0.length c0_0, .slice A0_1 l0_1.length c0_1, .slice A0_2 l0_2.length c0_2, .int .i64 a0_3, .int .i64 a0_4, .int .i64 a0_5], .agg #[.int .i64 a1_0, .int .i64 a1_1], .int .i64 a2, .agg #[.int .i64 a3_0, .int .i64 a3_1]] w fun e w' => e = .returned (.int .i64 r) ∧ Below w.heap.size w w' := by
 have hu26 := Try.underlying26
 have hu28 := Try.underlying28
 have hu47 := Try.underlying47
 have HR0_0 := Aside0.mk hr0_0
 have HC0_0 := Aside0.mk hc0_0
 clear hr0_0 hc0_0
 have HR0_1 := Aside0.mk hr0_1
 have HC0_1 := Aside0.mk hc0_1
 clear hr0_1 hc0_1
 have HR0_2 := Aside0.mk hr0_2
 have HC0_2 := Aside0.mk hc0_2
 clear hr0_2 hc0_2
 have HB := Aside0.mk (Below.refl w.heap.size w)
 have H : ((hopmeshref05_Square.f a1_0 a1_1 a3_0 a3_1).bind fun t242 => (if (mx t242 100) = 0 then (none) else (if a0_3 = 4 then (hopmeshref05_at.j0 k (wrap64 (Int.tdiv (wrap64 ((wrap64 (Int.tdiv (wrap64 (a2 * 100)) (mx t242 100))) * 100)) (mx t242 100))) l0_0 l0_1 l0_2 a0_3 a0_4 a0_5 a1_0 a1_1 a3_0 a3_1) else (hopmeshref05_at.j0 k (wrap64 (Int.tdiv (wrap64 (a2 * 100)) (mx t242 100))) l0_0 l0_1 l0_2 a0_3 a0_4 a0_5 a1_0 a1_1 a3_0 a3_1)))) = some r := h
 clear h
 replace H := Option.bind_eq_some_iff.mp H
 obtain ⟨t242, A50, H⟩ := H
 replace H : (if (mx t242 100) = 0 then (none) else (if a0_3 = 4 then (hopmeshref05_at.j0 k (wrap64 (Int.tdiv (wrap64 ((wrap64 (Int.tdiv (wrap64 (a2 * 100)) (mx t242 100))) * 100)) (mx t242 100))) l0_0 l0_1 l0_2 a0_3 a0_4 a0_5 a1_0 a1_1 a3_0 a3_1) else (hopmeshref05_at.j0 k (wrap64 (Int.tdiv (wrap64 (a2 * 100)) (mx t242 100))) l0_0 l0_1 l0_2 a0_3 a0_4 a0_5 a1_0 a1_1 a3_0 a3_1))) = some r := H
 have A5 := Aside0.mk A50
 clear A50
 obtain ⟨ji6, hji6⟩ : ∃ j_ : Int, (mx t242 100) = j_ := ⟨_, rfl⟩
 replace H : (if (ji6) = 0 then (none) else (if a0_3 = 4 then (hopmeshref05_at.j0 k (wrap64 (Int.tdiv (wrap64 ((wrap64 (Int.tdiv (wrap64 (a2 * 100)) (ji6))) * 100)) (ji6))) l0_0 l0_1 l0_2 a0_3 a0_4 a0_5 a1_0 a1_1 a3_0 a3_1) else (hopmeshref05_at.j0 k (wrap64 (Int.tdiv (wrap64 (a2 * 100)) (ji6))) l0_0 l0_1 l0_2 a0_3 a0_4 a0_5 a1_0 a1_1 a3_0 a3_1))) = some r := by first | (rw [hji6] at H; exact H) | (simp only [hji6] at H ⊢; exact H)
 (try rw [hji6] at A5)
 (try (have hji6l : 100 ≤ ji6 := by (rw [← hji6]; unfold mx; (repeat' split) <;> omega)))
 (try (have hji6m : 0 ≤ ji6 := by omega))
 have hji6_ : (if t242 < 100 then 100 else t242) = ji6 := hji6
 by_cases c7 : (ji6) = 0
 ·rw [if_pos c7] at H
  exact absurd H (by simp)
 rw [if_neg c7] at H
 have c7b0 : ((ji6) == 0) = false := beq_eq_false_iff_ne.mpr c7
 have c7b1 : ((ji6) != 0) = true := bne_iff_ne.mpr c7
 have HC8 := Aside0.mk H
 clear H
 go_enter Try.func59, Try.ntmps59
 go_upto_if 22 with (first | ((with_reducible refine gate_dst (N := 4) rfl ?_); refine box_event ?hg (N := 4) ?hd (cs := #[.slice A0_0 l0_0.length c0_0, .slice A0_1 l0_1.length c0_1, .slice A0_2 l0_2.length c0_2, .int .i64 a0_3, .int .i64 a0_4, .int .i64 a0_5]) (t := 26) ?hr ?_; (case hd => rfl); (case hg => rfl); (case hr => first | (go_simp; done) | (go_simp; rfl)); intro gb239 hg w9 hbox hb; have n0_ := Aside0.mk (below_step (by repeat (first | (with_reducible first | exact HB.out | apply blA | apply blN | apply blD) | exact HB.out)) hb); have n1_ := Aside0.mk (hbox); have n2_ := Aside0.mk ((by rw [hg]; exact (below_size (by repeat (first | (with_reducible first | exact HB.out | apply blA | apply blN | apply blD) | exact HB.out))) : w.heap.size ≤ gb239)); have n3_ := Aside0.mk ((by rw [hg]; exact (below_size (by repeat (first | (with_reducible first | exact HB.out | apply blA | apply blN | apply blD) | exact HB.out))) : w.heap.size ≤ gb239)); clear HB; have HB := n0_; have BK239 := n1_; have GW239 := n2_; have GE239 := n3_; clear n0_ n1_ n2_ n3_; clear hb hbox hg) | ((with_reducible refine gate_dst (N := 5) rfl ?_); refine box_event ?hg (N := 5) ?hd (cs := #[.int .i64 a1_0, .int .i64 a1_1]) (t := 28) ?hr ?_; (case hd => rfl); (case hg => rfl); (case hr => first | (go_simp; done) | (go_simp; rfl)); intro gb240 hg w10 hbox hb; have n0_ := Aside0.mk (bkB (g := gb239) (o := .cells #[.slice A0_0 l0_0.length c0_0, .slice A0_1 l0_1.length c0_1, .slice A0_2 l0_2.length c0_2, .int .i64 a0_3, .int .i64 a0_4, .int .i64 a0_5] 26 (0, 0)) (by (with_reducible repeat (first | refine bkN ?_ _ | refine bkD ?_ | refine bkA ?_ _)); exact BK239.out) hb); have n1_ := Aside0.mk (below_step (by repeat (first | (with_reducible first | exact HB.out | apply blA | apply blN | apply blD | refine blS ?_ GE239.out) | exact HB.out)) hb); have n2_ := Aside0.mk (hbox); have n3_ := Aside0.mk ((by rw [hg]; exact (below_size (by repeat (first | (with_reducible first | exact HB.out | apply blA | apply blN | apply blD | refine blS ?_ GE239.out) | exact HB.out))) : w.heap.size ≤ gb240)); have n4_ := Aside0.mk ((by rw [hg]; exact (below_size (by repeat (first | (with_reducible first | exact HB.out | apply blA | apply blN | apply blD | refine blS ?_ GE239.out) | exact HB.out))) : w.heap.size ≤ gb240)); have n5_ := Aside0.mk ((by rw [hg]; exact Nat.ne_of_lt (blk_lt (g := gb239) (o := .cells #[.slice A0_0 l0_0.length c0_0, .slice A0_1 l0_1.length c0_1, .slice A0_2 l0_2.length c0_2, .int .i64 a0_3, .int .i64 a0_4, .int .i64 a0_5] 26 (0, 0)) (by (with_reducible repeat (first | refine bkN ?_ _ | refine bkD ?_ | refine bkA ?_ _)); exact BK239.out)) : gb239 ≠ gb240)); have n6_ := Aside0.mk ((by rw [hg]; exact Nat.ne_of_gt (blk_lt (g := gb239) (o := .cells #[.slice A0_0 l0_0.length c0_0, .slice A0_1 l0_1.length c0_1, .slice A0_2 l0_2.length c0_2, .int .i64 a0_3, .int .i64 a0_4, .int .i64 a0_5] 26 (0, 0)) (by (with_reducible repeat (first | refine bkN ?_ _ | refine bkD ?_ | refine bkA ?_ _)); exact BK239.out)) : gb240 ≠ gb239)); clear BK239; clear HB; have BK239 := n0_; have HB := n1_; have BK240 := n2_; have GW240 := n3_; have GE240 := n4_; have NB239_240 := n5_; have NB240_239 := n6_; clear n0_ n1_ n2_ n3_ n4_ n5_ n6_; clear hb hbox hg) | ((with_reducible refine gate_dst (N := 7) rfl ?_); refine box_event ?hg (N := 7) ?hd (cs := #[.int .i64 a3_0, .int .i64 a3_1]) (t := 28) ?hr ?_; (case hd => rfl); (case hg => rfl); (case hr => first | (go_simp; done) | (go_simp; rfl)); intro gb241 hg w11 hbox hb; have n0_ := Aside0.mk (bkB (g := gb239) (o := .cells #[.slice A0_0 l0_0.length c0_0, .slice A0_1 l0_1.length c0_1, .slice A0_2 l0_2.length c0_2, .int .i64 a0_3, .int .i64 a0_4, .int .i64 a0_5] 26 (0, 0)) (by (with_reducible repeat (first | refine bkN ?_ _ | refine bkD ?_ | refine bkA ?_ _)); exact BK239.out) hb); have n1_ := Aside0.mk (bkB (g := gb240) (o := .cells #[.int .i64 a1_0, .int .i64 a1_1] 28 (0, 0)) (by (with_reducible repeat (first | refine bkN ?_ _ | refine bkD ?_ | refine bkA ?_ _)); exact BK240.out) hb); have n2_ := Aside0.mk (below_step (by repeat (first | (with_reducible first | exact HB.out | apply blA | apply blN | apply blD | refine blS ?_ GE239.out | refine blS ?_ GE240.out) | exact HB.out)) hb); have n3_ := Aside0.mk (hbox); have n4_ := Aside0.mk ((by rw [hg]; exact (below_size (by repeat (first | (with_reducible first | exact HB.out | apply blA | apply blN | apply blD | refine blS ?_ GE239.out | refine blS ?_ GE240.out) | exact HB.out))) : w.heap.size ≤ gb241)); have n5_ := Aside0.mk ((by rw [hg]; exact (below_size (by repeat (first | (with_reducible first | exact HB.out | apply blA | apply blN | apply blD | refine blS ?_ GE239.out | refine blS ?_ GE240.out) | exact HB.out))) : w.heap.size ≤ gb241)); have n6_ := Aside0.mk ((by rw [hg]; exact Nat.ne_of_lt (blk_lt (g := gb239) (o := .cells #[.slice A0_0 l0_0.length c0_0, .slice A0_1 l0_1.length c0_1, .slice A0_2 l0_2.length c0_2, .int .i64 a0_3, .int .i64 a0_4, .int .i64 a0_5] 26 (0, 0)) (by (with_reducible repeat (first | refine bkN ?_ _ | refine bkD ?_ | refine bkA ?_ _)); exact BK239.out)) : gb239 ≠ gb241)); have n7_ := Aside0.mk ((by rw [hg]; exact Nat.ne_of_gt (blk_lt (g := gb239) (o := .cells #[.slice A0_0 l0_0.length c0_0, .slice A0_1 l0_1.length c0_1, .slice A0_2 l0_2.length c0_2, .int .i64 a0_3, .int .i64 a0_4, .int .i64 a0_5] 26 (0, 0)) (by (with_reducible repeat (first | refine bkN ?_ _ | refine bkD ?_ | refine bkA ?_ _)); exact BK239.out)) : gb241 ≠ gb239)); have n8_ := Aside0.mk ((by rw [hg]; exact Nat.ne_of_lt (blk_lt (g := gb240) (o := .cells #[.int .i64 a1_0, .int .i64 a1_1] 28 (0, 0)) (by (with_reducible repeat (first | refine bkN ?_ _ | refine bkD ?_ | refine bkA ?_ _)); exact BK240.out)) : gb240 ≠ gb241)); have n9_ := Aside0.mk ((by rw [hg]; exact Nat.ne_of_gt (blk_lt (g := gb240) (o := .cells #[.int .i64 a1_0, .int .i64 a1_1] 28 (0, 0)) (by (with_reducible repeat (first | refine bkN ?_ _ | refine bkD ?_ | refine bkA ?_ _)); exact BK240.out)) : gb241 ≠ gb240)); clear BK239; clear BK240; clear HB; have BK239 := n0_; have BK240 := n1_; have HB := n2_; have BK241 := n3_; have GW241 := n4_; have GE241 := n5_; have NB239_241 := n6_; have NB241_239 := n7_; have NB240_241 := n8_; have NB241_240 := n9_; clear n0_ n1_ n2_ n3_ n4_ n5_ n6_ n7_ n8_ n9_; clear hb hbox hg; have hnb12 := NB240_239.out; have hnc12 := NB239_240.out; have hnb13 := NB240_241.out; have hnc13 := NB241_240.out; have hcz14_0 : w11.cell? ⟨gb240, 0, none⟩ = some (.int .i64 a1_0) := (bkC BK240.out 0).trans rfl; have hcz14_1 : w11.cell? ⟨gb240, 1, none⟩ = some (.int .i64 a1_1) := (bkC BK240.out 1).trans rfl; have hfz14_0 := bkF BK240.out 0; have hfz14_1 := bkF BK240.out 1; have hnb15 := NB241_239.out; have hnc15 := NB239_241.out; have hcz16_0 : w11.cell? ⟨gb241, 0, none⟩ = some (.int .i64 a3_0) := (bkC BK241.out 0).trans rfl; have hcz16_1 : w11.cell? ⟨gb241, 1, none⟩ = some (.int .i64 a3_1) := (bkC BK241.out 1).trans rfl; have hfz16_0 := bkF BK241.out 0; have hfz16_1 := bkF BK241.out 1) | ((with_reducible refine gate_callee (f := 26) rfl ?_); refine goesL_ (some 14) rfl rfl Try.func26 (by kernel_rfl) rfl #[.agg #[.int .i64 a1_0, .int .i64 a1_1], .agg #[.int .i64 a3_0, .int .i64 a3_1]] rfl (by (try simp only [List.map_toArray, List.map_cons, List.map_nil]); first | done | rfl | (simp only [List.length_drop, List.length_take]; rfl)) ?_; (with_reducible refine (hopmeshref05_Square.calls a1_0 a1_1 a3_0 a3_1 t242 _ A5.out).mono ?_); rintro e w17 ⟨rfl, hb⟩; refine ⟨_, rfl, ?_⟩; have n0_ := Aside0.mk (bkB (g := gb239) (o := .cells #[.slice A0_0 l0_0.length c0_0, .slice A0_1 l0_1.length c0_1, .slice A0_2 l0_2.length c0_2, .int .i64 a0_3, .int .i64 a0_4, .int .i64 a0_5] 26 (0, 0)) (by (with_reducible repeat (first | refine bkN ?_ _ | refine bkD ?_ | refine bkA ?_ _)); exact BK239.out) hb); have n1_ := Aside0.mk (bkB (g := gb240) (o := .cells #[.int .i64 a1_0, .int .i64 a1_1] 28 (0, 0)) (by (with_reducible repeat (first | refine bkN ?_ _ | refine bkD ?_ | refine bkA ?_ _)); exact BK240.out) hb); have n2_ := Aside0.mk (bkB (g := gb241) (o := .cells #[.int .i64 a3_0, .int .i64 a3_1] 28 (0, 0)) (by (with_reducible repeat (first | refine bkN ?_ _ | refine bkD ?_ | refine bkA ?_ _)); exact BK241.out) hb); have n3_ := Aside0.mk (below_step (by repeat (first | (with_reducible first | exact HB.out | apply blA | apply blN | apply blD | refine blS ?_ GE239.out | refine blS ?_ GE240.out | refine blS ?_ GE241.out) | exact HB.out)) hb); clear BK239; clear BK240; clear BK241; clear HB; have BK239 := n0_; have BK240 := n1_; have BK241 := n2_; have HB := n3_; clear n0_ n1_ n2_ n3_; (try clear hb); (try clear hb2); (try clear hk); (try clear hi); have hcz18_0 : w17.cell? ⟨gb239, 0, none⟩ = some (.slice A0_0 l0_0.length c0_0) := (bkC BK239.out 0).trans rfl; have hcz18_1 : w17.cell? ⟨gb239, 1, none⟩ = some (.slice A0_1 l0_1.length c0_1) := (bkC BK239.out 1).trans rfl; have hcz18_2 : w17.cell? ⟨gb239, 2, none⟩ = some (.slice A0_2 l0_2.length c0_2) := (bkC BK239.out 2).trans rfl; have hcz18_3 : w17.cell? ⟨gb239, 3, none⟩ = some (.int .i64 a0_3) := (bkC BK239.out 3).trans rfl; have hcz18_4 : w17.cell? ⟨gb239, 4, none⟩ = some (.int .i64 a0_4) := (bkC BK239.out 4).trans rfl; have hcz18_5 : w17.cell? ⟨gb239, 5, none⟩ = some (.int .i64 a0_5) := (bkC BK239.out 5).trans rfl; have hfz18_0 := bkF BK239.out 0; have hfz18_1 := bkF BK239.out 1; have hfz18_2 := bkF BK239.out 2; have hfz18_3 := bkF BK239.out 3; have hfz18_4 := bkF BK239.out 4; have hfz18_5 := bkF BK239.out 5))
 (try simp only [Act.put, List.setIfInBounds_toArray, List.set_cons_zero, List.set_cons_succ])
 go_cut [10] (fun v10 wc => ∃ (kq : Nat) (x10_7 : Int), v10 = .int .i64 x10_7 ∧ Aside0 (hopmeshref05_at.j0 kq x10_7 l0_0 l0_1 l0_2 a0_3 a0_4 a0_5 a1_0 a1_1 a3_0 a3_1 = some r) ∧ Aside0 (kq ≤ k) ∧ Aside0 (wc.heap[gb239]? = some (.cells #[(.slice A0_0 l0_0.length c0_0), (.slice A0_1 l0_1.length c0_1), (.slice A0_2 l0_2.length c0_2), .int .i64 a0_3, .int .i64 a0_4, .int .i64 a0_5] 26 (0, 0))) ∧ Aside0 (wc.heap[gb240]? = some (.cells #[.int .i64 a1_0, .int .i64 a1_1] 28 (0, 0))) ∧ Aside0 (wc.heap[gb241]? = some (.cells #[.int .i64 a3_0, .int .i64 a3_1] 28 (0, 0))) ∧ Aside0 (Below w.heap.size w wc))
 case first =>
  have H := HC8.out
  clear HC8
  by_cases c19 : a0_3 = 4
  rotate_left
  ·rw [if_neg c19] at H
   have c19b0 : (a0_3 == 4) = false := beq_eq_false_iff_ne.mpr c19
   have c19b1 : (a0_3 != 4) = true := bne_iff_ne.mpr c19
   (first | rw [c19b0] | (simp only [i64_w, i32_w]; rw [c19b0]) | skip)
   have H' := Aside0.mk H
   clear H
   go_wp2
   go_meet
   case rel => exact ⟨_, (wrap64 (Int.tdiv (wrap64 (a2 * 100)) (ji6))), (by first | rfl | (simp; done) | (simp only [← hji6] <;> (first | rfl | simp)) | (simp [*]; done)), H', ⟨by first | omega | exact Nat.le_refl _⟩, ⟨by (with_reducible repeat (first | refine bkN ?_ _ | refine bkD ?_ | refine bkA ?_ _)); exact BK239.out⟩, ⟨by (with_reducible repeat (first | refine bkN ?_ _ | refine bkD ?_ | refine bkA ?_ _)); exact BK240.out⟩, ⟨by (with_reducible repeat (first | refine bkN ?_ _ | refine bkD ?_ | refine bkA ?_ _)); exact BK241.out⟩, ⟨by repeat (first | (with_reducible first | exact HB.out | apply blA | apply blN | apply blD | refine blS ?_ GE239.out | refine blS ?_ GE240.out | refine blS ?_ GE241.out) | exact HB.out)⟩⟩
  rw [if_pos c19] at H
  have c19b0 : (a0_3 == 4) = true := beq_iff_eq.mpr c19
  have c19b1 : (a0_3 != 4) = false := bne_eq_false_iff_eq.mpr c19
  clear c19
  (first | rw [c19b0] | (simp only [i64_w, i32_w]; rw [c19b0]) | skip)
  have H' := Aside0.mk H
  clear H
  go_wp2
  go_meet
  case rel => exact ⟨_, (wrap64 (Int.tdiv (wrap64 ((wrap64 (Int.tdiv (wrap64 (a2 * 100)) (ji6))) * 100)) (ji6))), (by first | rfl | (simp; done) | (simp only [← hji6] <;> (first | rfl | simp)) | (simp [*]; done)), H', ⟨by first | omega | exact Nat.le_refl _⟩, ⟨by (with_reducible repeat (first | refine bkN ?_ _ | refine bkD ?_ | refine bkA ?_ _)); exact BK239.out⟩, ⟨by (with_reducible repeat (first | refine bkN ?_ _ | refine bkD ?_ | refine bkA ?_ _)); exact BK240.out⟩, ⟨by (with_reducible repeat (first | refine bkN ?_ _ | refine bkD ?_ | refine bkA ?_ _)); exact BK241.out⟩, ⟨by repeat (first | (with_reducible first | exact HB.out | apply blA | apply blN | apply blD | refine blS ?_ GE239.out | refine blS ?_ GE240.out | refine blS ?_ GE241.out) | exact HB.out)⟩⟩
 case rest =>
  clear HC8
  try clear c1
  try clear c2
  try clear p2
  try clear c5
  try clear p6
  try clear c7
  try clear c7b0
  try clear c7b1
  try clear c12
  try clear c13
  try clear c15
  try clear c19
  try clear c19b0
  try clear c19b1
  try clear hcz14_0
  try clear hcz14_1
  try clear hcz16_0
  try clear hcz16_1
  try clear hcz18_0
  try clear hcz18_1
  try clear hcz18_2
  try clear hcz18_3
  try clear hcz18_4
  try clear hcz18_5
  try clear hfz14_0
  try clear hfz14_1
  try clear hfz16_0
  try clear hfz16_1
  try clear hfz18_0
  try clear hfz18_1
  try clear hfz18_2
  try clear hfz18_3
  try clear hfz18_4
  try clear hfz18_5
  obtain ⟨kq, x10_7, rfl, HA, HJ7, BK239, BK240, BK241, HB⟩ := hcut
  cases kq with
  | zero => exact absurd HA.out (by simp [hopmeshref05_at.j0])
  | succ kj7 =>
   have H := HA.out
   clear HA
   simp only [hopmeshref05_at.j0] at H
   have H' := Aside0.mk H
   clear H
   go_wp2
   go_loopg [10, 11] kj7 (fun kq v10 v11 w' => ∃ (x10_2 : Int) (x11_2 : Int), v10 = .int .i64 x10_2 ∧ v11 = .int .i64 x11_2 ∧ Aside0 (hopmeshref05_at.l0 kq x10_2 x11_2 l0_0 l0_1 l0_2 a0_3 a0_4 a0_5 a1_0 a1_1 a3_0 a3_1 = some r) ∧ Aside0 (kq ≤ kj7) ∧ Aside0 (w'.heap[gb239]? = some (.cells #[(.slice A0_0 l0_0.length c0_0), (.slice A0_1 l0_1.length c0_1), (.slice A0_2 l0_2.length c0_2), .int .i64 a0_3, .int .i64 a0_4, .int .i64 a0_5] 26 (0, 0))) ∧ Aside0 (w'.heap[gb240]? = some (.cells #[.int .i64 a1_0, .int .i64 a1_1] 28 (0, 0))) ∧ Aside0 (w'.heap[gb241]? = some (.cells #[.int .i64 a3_0, .int .i64 a3_1] 28 (0, 0))) ∧ Aside0 (Below w.heap.size w w'))
   case atStart => exact ⟨(x10_7), (0), (by first | rfl | (simp; done) | (simp [*]; done)), (by first | rfl | (simp; done) | (simp [*]; done)), H', ⟨Nat.le_refl _⟩, ⟨by (with_reducible repeat (first | refine bkN ?_ _ | refine bkD ?_ | refine bkA ?_ _)); exact BK239.out⟩, ⟨by (with_reducible repeat (first | refine bkN ?_ _ | refine bkD ?_ | refine bkA ?_ _)); exact BK240.out⟩, ⟨by (with_reducible repeat (first | refine bkN ?_ _ | refine bkD ?_ | refine bkA ?_ _)); exact BK241.out⟩, ⟨by repeat (first | (with_reducible first | exact HB.out | apply blA | apply blN | apply blD | refine blS ?_ GE239.out | refine blS ?_ GE240.out | refine blS ?_ GE241.out) | exact HB.out)⟩⟩
   case round =>
    clear H'
    try clear c1
    try clear c2
    try clear p2
    try clear c5
    try clear p6
    try clear c7
    try clear c7b0
    try clear c7b1
    try clear c12
    try clear c13
    try clear c15
    try clear c19
    try clear c19b0
    try clear c19b1
    try clear hcz14_0
    try clear hcz14_1
    try clear hcz16_0
    try clear hcz16_1
    try clear hcz18_0
    try clear hcz18_1
    try clear hcz18_2
    try clear hcz18_3
    try clear hcz18_4
    try clear hcz18_5
    try clear hfz14_0
    try clear hfz14_1
    try clear hfz16_0
    try clear hfz16_1
    try clear hfz18_0
    try clear hfz18_1
    try clear hfz18_2
    try clear hfz18_3
    try clear hfz18_4
    try clear hfz18_5
    try clear p2
    try clear p6
    obtain ⟨x10_2, x11_2, rfl, rfl, HA, HK2, BK239, BK240, BK241, HB⟩ := hrel
    cases gk with
    | zero => exact absurd HA.out (by simp [hopmeshref05_at.l0])
    | succ k2 =>
     have H := HA.out
     clear HA
     simp only [hopmeshref05_at.l0] at H
     by_cases c20 : x11_2 < (l0_2.length : Int)
     rotate_left
     ·rw [if_neg c20] at H
      have c20b0 : decide (x11_2 < (l0_2.length : Int)) = false := decide_eq_false c20
      clear c20
      obtain rfl := Option.some.inj H
      have hnb35 := NB239_240.out
      have hnc35 := NB240_239.out
      have hnb36 := NB239_241.out
      have hnc36 := NB241_239.out
      have hcz37_0 : wr.cell? ⟨gb239, 0, none⟩ = some (.slice A0_0 l0_0.length c0_0) := (bkC BK239.out 0).trans rfl
      have hcz37_1 : wr.cell? ⟨gb239, 1, none⟩ = some (.slice A0_1 l0_1.length c0_1) := (bkC BK239.out 1).trans rfl
      have hcz37_2 : wr.cell? ⟨gb239, 2, none⟩ = some (.slice A0_2 l0_2.length c0_2) := (bkC BK239.out 2).trans rfl
      have hcz37_3 : wr.cell? ⟨gb239, 3, none⟩ = some (.int .i64 a0_3) := (bkC BK239.out 3).trans rfl
      have hcz37_4 : wr.cell? ⟨gb239, 4, none⟩ = some (.int .i64 a0_4) := (bkC BK239.out 4).trans rfl
      have hcz37_5 : wr.cell? ⟨gb239, 5, none⟩ = some (.int .i64 a0_5) := (bkC BK239.out 5).trans rfl
      have hfz37_0 := bkF BK239.out 0
      have hfz37_1 := bkF BK239.out 1
      have hfz37_2 := bkF BK239.out 2
      have hfz37_3 := bkF BK239.out 3
      have hfz37_4 := bkF BK239.out 4
      have hfz37_5 := bkF BK239.out 5
      go_wp2
      go_ret
      exact ⟨by first | rfl | (simp [errW_none, errW_some] <;> rfl) | (simp only [← hji6]; first | rfl | (simp [errW_none, errW_some] <;> rfl)) | (simp [*, errW_none, errW_some] <;> rfl), by repeat (first | (with_reducible first | exact HB.out | apply blA | apply blN | apply blD | refine blS ?_ GE239.out | refine blS ?_ GE240.out | refine blS ?_ GE241.out) | exact HB.out)⟩

     rw [if_pos c20] at H
     have c20b0 : decide (x11_2 < (l0_2.length : Int)) = true := decide_eq_true c20
     clear c20
     by_cases c21 : 0 ≤ x11_2
     rotate_left
     ·rw [if_neg c21] at H
      exact absurd H (by simp)
     rw [if_pos c21] at H
     have c21b0 : decide (0 ≤ x11_2) = true := decide_eq_true c21
     clear c21
     replace H := Option.bind_eq_some_iff.mp H
     obtain ⟨t244, A220, H⟩ := H
     replace H : (if t244 = true then (hopmeshref05_at.l0 k2 (wrap64 (Int.tdiv (wrap64 (x10_2 * ((rd_T47 l0_2 x11_2).f2))) 1000)) (wrap64 (x11_2 + 1)) l0_0 l0_1 l0_2 a0_3 a0_4 a0_5 a1_0 a1_1 a3_0 a3_1) else (hopmeshref05_at.l0 k2 x10_2 (wrap64 (x11_2 + 1)) l0_0 l0_1 l0_2 a0_3 a0_4 a0_5 a1_0 a1_1 a3_0 a3_1)) = some r := H
     have A22 := Aside0.mk A220
     clear A220
     by_cases c23 : t244 = true
     rotate_left
     ·replace c23 := Bool.eq_false_iff.mpr c23
      subst c23
      have H1 : (hopmeshref05_at.l0 k2 x10_2 (wrap64 (x11_2 + 1)) l0_0 l0_1 l0_2 a0_3 a0_4 a0_5 a1_0 a1_1 a3_0 a3_1) = some r := by rw [if_neg (show ¬ (false = true) by decide)] at H; exact H
      clear H
      have H := H1
      clear H1
      have H' := Aside0.mk H
      clear H
      have hnb30 := NB239_240.out
      have hnc30 := NB240_239.out
      have hnb31 := NB239_241.out
      have hnc31 := NB241_239.out
      have hcz32_0 : wr.cell? ⟨gb239, 0, none⟩ = some (.slice A0_0 l0_0.length c0_0) := (bkC BK239.out 0).trans rfl
      have hcz32_1 : wr.cell? ⟨gb239, 1, none⟩ = some (.slice A0_1 l0_1.length c0_1) := (bkC BK239.out 1).trans rfl
      have hcz32_2 : wr.cell? ⟨gb239, 2, none⟩ = some (.slice A0_2 l0_2.length c0_2) := (bkC BK239.out 2).trans rfl
      have hcz32_3 : wr.cell? ⟨gb239, 3, none⟩ = some (.int .i64 a0_3) := (bkC BK239.out 3).trans rfl
      have hcz32_4 : wr.cell? ⟨gb239, 4, none⟩ = some (.int .i64 a0_4) := (bkC BK239.out 4).trans rfl
      have hcz32_5 : wr.cell? ⟨gb239, 5, none⟩ = some (.int .i64 a0_5) := (bkC BK239.out 5).trans rfl
      have hfz32_0 := bkF BK239.out 0
      have hfz32_1 := bkF BK239.out 1
      have hfz32_2 := bkF BK239.out 2
      have hfz32_3 := bkF BK239.out 3
      have hfz32_4 := bkF BK239.out 4
      have hfz32_5 := bkF BK239.out 5
      try go_wp2
      have n0_ := Aside0.mk (bkD BK239.out)
      have n1_ := Aside0.mk (bkD BK240.out)
      have n2_ := Aside0.mk (bkD BK241.out)
      have n3_ := Aside0.mk (blD HB.out)
      clear BK239
      clear BK240
      clear BK241
      clear HB
      have BK239 := n0_
      have BK240 := n1_
      have BK241 := n2_
      have HB := n3_
      clear n0_ n1_ n2_ n3_
      have p243 : 0 ≤ (x11_2 : Int) := of_decide_eq_true (by first | (with_reducible assumption) | assumption)
      have q243 : x11_2 < (l0_2.length : Int) := of_decide_eq_true (by first | (with_reducible assumption) | assumption)
      obtain ⟨ad243, e243, hx243_0, hx243_1, hx243_2, hx243_3, hx243_4⟩ := at_T47 HR0_2.out x11_2 p243 q243
      have hw243_4 := hx243_4
      have hw243_3 := hx243_3
      have hw243_2 := hx243_2
      have hw243_1 := hx243_1
      have hw243_0 := hx243_0
      cases e243
      replace hx243_0 := (HB.out.cell (World.block_lt_of_cell? w _ hx243_0)).trans hx243_0
      replace hx243_1 := (HB.out.cell (World.block_lt_of_cell? w _ hx243_1)).trans hx243_1
      replace hx243_2 := (HB.out.cell (World.block_lt_of_cell? w _ hx243_2)).trans hx243_2
      replace hx243_3 := (HB.out.cell (World.block_lt_of_cell? w _ hx243_3)).trans hx243_3
      replace hx243_4 := (HB.out.cell (World.block_lt_of_cell? w _ hx243_4)).trans hx243_4
      replace p243 := eq_true p243
      replace q243 := eq_true q243
      refine start_ (n := 8) (S := fun w' => w'.cell? ⟨gb240, 0, none⟩ = some (.int .i64 a1_0) ∧ w'.cell? ⟨gb240, 1, none⟩ = some (.int .i64 a1_1) ∧ w'.cell? ⟨gb241, 0, none⟩ = some (.int .i64 a3_0) ∧ w'.cell? ⟨gb241, 1, none⟩ = some (.int .i64 a3_1) ∧ w'.cell? ⟨gb239, 0, none⟩ = some (.slice A0_0 l0_0.length c0_0) ∧ w'.cell? ⟨gb239, 1, none⟩ = some (.slice A0_1 l0_1.length c0_1) ∧ w'.cell? ⟨gb239, 2, none⟩ = some (.slice (some ad243) l0_2.length c0_2) ∧ w'.cell? ⟨gb239, 3, none⟩ = some (.int .i64 a0_3) ∧ w'.cell? ⟨gb239, 4, none⟩ = some (.int .i64 a0_4) ∧ w'.cell? ⟨gb239, 5, none⟩ = some (.int .i64 a0_5) ∧ w'.cell? (ad243.add ((x11_2).toNat * 5)) = some (.int .i64 ((rd_T47 l0_2 x11_2).f0.f0)) ∧ w'.cell? ⟨(ad243.add ((x11_2).toNat * 5)).block, (ad243.add ((x11_2).toNat * 5)).off + 1, none⟩ = some (.int .i64 ((rd_T47 l0_2 x11_2).f0.f1)) ∧ w'.cell? ⟨(ad243.add ((x11_2).toNat * 5)).block, (ad243.add ((x11_2).toNat * 5)).off + 2, none⟩ = some (.int .i64 ((rd_T47 l0_2 x11_2).f1.f0)) ∧ w'.cell? ⟨(ad243.add ((x11_2).toNat * 5)).block, (ad243.add ((x11_2).toNat * 5)).off + 3, none⟩ = some (.int .i64 ((rd_T47 l0_2 x11_2).f1.f1)) ∧ w'.cell? ⟨(ad243.add ((x11_2).toNat * 5)).block, (ad243.add ((x11_2).toNat * 5)).off + 4, none⟩ = some (.int .i64 ((rd_T47 l0_2 x11_2).f2))) (ds := []) #[false, false, false, false, false, false, false, false] (by kernel_rfl) rfl rfl ⟨(bkC BK240.out 0).trans rfl, (bkC BK240.out 1).trans rfl, (bkC BK241.out 0).trans rfl, (bkC BK241.out 1).trans rfl, (bkC BK239.out 0).trans rfl, (bkC BK239.out 1).trans rfl, (bkC BK239.out 2).trans rfl, (bkC BK239.out 3).trans rfl, (bkC BK239.out 4).trans rfl, (bkC BK239.out 5).trans rfl, ((HB.out.cell (World.block_lt_of_cell? w _ hw243_0)).trans hw243_0), ((HB.out.cell (World.block_lt_of_cell? w _ hw243_1)).trans hw243_1), ((HB.out.cell (World.block_lt_of_cell? w _ hw243_2)).trans hw243_2), ((HB.out.cell (World.block_lt_of_cell? w _ hw243_3)).trans hw243_3), ((HB.out.cell (World.block_lt_of_cell? w _ hw243_4)).trans hw243_4)⟩ (fun hHeld => ?_); refine with_tabW hopmeshref05_at.tab8 hopmeshref05_at.bits8 (fun HT_ HW_ => ?_)
      generalize wr.drew = w33 at BK239 BK240 BK241 HB hx243_0 hx243_1 hx243_2 hx243_3 hx243_4 hHeld ⊢
      refine pure_ (i := 2) (N := some 36) (v := ?_) (a' := ?_) #[false, false, true, false, false, false, false, false] rfl rfl (any_of HT_.out (by kernel_rfl)) (fun _ _ _ h => h) (Or.inl ⟨by rfl, ?_⟩) ?_ ?_
      rotate_left
      ·intro w'
       go_simp
       with_reducible rfl
      rotate_left
      ·simp only [Act.put, List.setIfInBounds_toArray, List.set_cons_zero, List.set_cons_succ, i64_w, i32_w]
       rfl
      refine pure_ (i := 4) (N := some 38) (v := ?_) (a' := ?_) #[false, false, true, false, true, false, false, false] rfl rfl (any_of HT_.out (by kernel_rfl)) (fun _ _ _ h => h) (Or.inl ⟨by rfl, ?_⟩) ?_ ?_
      rotate_left
      ·intro w'
       go_simp
       with_reducible rfl
      rotate_left
      ·simp only [Act.put, List.setIfInBounds_toArray, List.set_cons_zero, List.set_cons_succ, i64_w, i32_w]
       rfl
      refine take_ (i := 0) (N := some 34) (v := ?_) (a' := ?_) #[true, false, true, false, true, false, false, false] rfl rfl (take_ofW HT_.out HW_.out (by kernel_rfl)) (fun _ _ _ h => h) (Or.inl ⟨by rfl, ?_⟩) hHeld ?_ ?_
      rotate_left
      ·rintro w' ⟨s0, s1, s2, s3, s4, s5, s6, s7, s8, s9, s10, s11, s12, s13, s14⟩
       go_simp
       with_reducible rfl
      rotate_left
      ·simp only [Act.put, List.setIfInBounds_toArray, List.set_cons_zero, List.set_cons_succ, i64_w, i32_w]
       rfl
      refine take_ (i := 1) (N := some 35) (v := ?_) (a' := ?_) #[true, true, true, false, true, false, false, false] rfl rfl (take_ofW HT_.out HW_.out (by kernel_rfl)) (fun _ _ _ h => h) (Or.inl ⟨by rfl, ?_⟩) hHeld ?_ ?_
      rotate_left
      ·rintro w' ⟨s0, s1, s2, s3, s4, s5, s6, s7, s8, s9, s10, s11, s12, s13, s14⟩
       go_simp
       with_reducible rfl
      rotate_left
      ·simp only [Act.put, List.setIfInBounds_toArray, List.set_cons_zero, List.set_cons_succ, i64_w, i32_w]
       rfl
      refine take_ (i := 3) (N := some 37) (v := ?_) (a' := ?_) #[true, true, true, true, true, false, false, false] rfl rfl (take_ofW HT_.out HW_.out (by kernel_rfl)) (fun _ _ _ h => h) (Or.inl ⟨by rfl, ?_⟩) hHeld ?_ ?_
      rotate_left
      ·rintro w' ⟨s0, s1, s2, s3, s4, s5, s6, s7, s8, s9, s10, s11, s12, s13, s14⟩
       go_simp
       with_reducible rfl
      rotate_left
      ·simp only [Act.put, List.setIfInBounds_toArray, List.set_cons_zero, List.set_cons_succ, i64_w, i32_w]
       rfl
      refine pure_ (i := 5) (N := some 39) (v := ?_) (a' := ?_) #[true, true, true, true, true, true, false, false] rfl rfl (any_of HT_.out (by kernel_rfl)) (fun _ _ _ h => h) (Or.inl ⟨by rfl, ?_⟩) ?_ ?_
      rotate_left
      ·intro w'
       go_simp
       with_reducible rfl
      rotate_left
      ·simp only [Act.put, List.setIfInBounds_toArray, List.set_cons_zero, List.set_cons_succ, i64_w, i32_w]
       rfl
      refine take_ (i := 6) (N := some 40) (v := ?_) (a' := ?_) #[true, true, true, true, true, true, true, false] rfl rfl (take_ofW HT_.out HW_.out (by kernel_rfl)) (fun _ _ _ h => h) (Or.inl ⟨by rfl, ?_⟩) hHeld ?_ ?_
      rotate_left
      ·rintro w' ⟨s0, s1, s2, s3, s4, s5, s6, s7, s8, s9, s10, s11, s12, s13, s14⟩
       go_simp
       with_reducible rfl
      rotate_left
      ·simp only [Act.put, List.setIfInBounds_toArray, List.set_cons_zero, List.set_cons_succ, i64_w, i32_w]
       rfl
      refine one_ (i := 7) (N := some 41) #[true, true, true, true, true, true, true, true] rfl rfl (one_of HT_.out (by kernel_rfl)) (by decide) (fun K hK => ?_)
      refine goes_ Try.func28 (by kernel_rfl) rfl #[.agg #[.int .i64 a1_0, .int .i64 a1_1], .agg #[.int .i64 a3_0, .int .i64 a3_1], .agg #[.int .i64 ((rd_T47 l0_2 x11_2).f0.f0), .int .i64 ((rd_T47 l0_2 x11_2).f0.f1), .int .i64 ((rd_T47 l0_2 x11_2).f1.f0), .int .i64 ((rd_T47 l0_2 x11_2).f1.f1), .int .i64 ((rd_T47 l0_2 x11_2).f2)]] (by rfl) rfl rfl (by (try simp only [List.map_toArray, List.map_cons, List.map_nil]); first | done | rfl | (simp only [List.length_drop, List.length_take]; rfl)) ?_
      with_reducible refine (hopmeshref05_Crosses.calls k2 a1_0 a1_1 a3_0 a3_1 ((rd_T47 l0_2 x11_2).f0.f0) ((rd_T47 l0_2 x11_2).f0.f1) ((rd_T47 l0_2 x11_2).f1.f0) ((rd_T47 l0_2 x11_2).f1.f1) ((rd_T47 l0_2 x11_2).f2) false _ A22.out).mono ?_
      rintro e w34 ⟨rfl, hb⟩
      refine ⟨_, rfl, ?_⟩
      have n0_ := Aside0.mk (bkB (g := gb239) (o := .cells #[.slice A0_0 l0_0.length c0_0, .slice A0_1 l0_1.length c0_1, .slice (some ad243) l0_2.length c0_2, .int .i64 a0_3, .int .i64 a0_4, .int .i64 a0_5] 26 (0, 0)) (by (with_reducible repeat (first | refine bkN ?_ _ | refine bkD ?_ | refine bkA ?_ _)); exact BK239.out) hb)
      have n1_ := Aside0.mk (bkB (g := gb240) (o := .cells #[.int .i64 a1_0, .int .i64 a1_1] 28 (0, 0)) (by (with_reducible repeat (first | refine bkN ?_ _ | refine bkD ?_ | refine bkA ?_ _)); exact BK240.out) hb)
      have n2_ := Aside0.mk (bkB (g := gb241) (o := .cells #[.int .i64 a3_0, .int .i64 a3_1] 28 (0, 0)) (by (with_reducible repeat (first | refine bkN ?_ _ | refine bkD ?_ | refine bkA ?_ _)); exact BK241.out) hb)
      have n3_ := Aside0.mk (below_step (by repeat (first | (with_reducible first | exact HB.out | apply blA | apply blN | apply blD | refine blS ?_ GE239.out | refine blS ?_ GE240.out | refine blS ?_ GE241.out) | exact HB.out)) hb)
      clear BK239
      clear BK240
      clear BK241
      clear HB
      have BK239 := n0_
      have BK240 := n1_
      have BK241 := n2_
      have HB := n3_
      clear n0_ n1_ n2_ n3_
      (try clear hb)
      (try clear hb2)
      (try clear hk)
      (try clear hi)
      refine hK.out _ _ ⟨(bkC BK240.out 0).trans rfl, (bkC BK240.out 1).trans rfl, (bkC BK241.out 0).trans rfl, (bkC BK241.out 1).trans rfl, (bkC BK239.out 0).trans rfl, (bkC BK239.out 1).trans rfl, (bkC BK239.out 2).trans rfl, (bkC BK239.out 3).trans rfl, (bkC BK239.out 4).trans rfl, (bkC BK239.out 5).trans rfl, ((HB.out.cell (World.block_lt_of_cell? w _ hw243_0)).trans hw243_0), ((HB.out.cell (World.block_lt_of_cell? w _ hw243_1)).trans hw243_1), ((HB.out.cell (World.block_lt_of_cell? w _ hw243_2)).trans hw243_2), ((HB.out.cell (World.block_lt_of_cell? w _ hw243_3)).trans hw243_3), ((HB.out.cell (World.block_lt_of_cell? w _ hw243_4)).trans hw243_4)⟩ (fun hHeld => ?_)
      clear hK K
      refine norm_ (a' := ?_) ?_ ?_
      rotate_left
      ·show Act.put _ (some 41) _ = _
       simp only [Act.put, List.setIfInBounds_toArray, List.set_cons_zero, List.set_cons_succ, i64_w, i32_w]
       rfl
      refine done_ (done_of HT_.out (by kernel_rfl)) ?_
      try go_wp2
      go_roundg k2
      case measure => have := HJ7.out; have := HK2.out; omega
      case rel => exact ⟨(x10_2), (wrap64 (x11_2 + 1)), (by first | rfl | (simp; done) | (simp [*]; done)), (by first | rfl | (simp; done) | (simp [*]; done)), H', ⟨by have := HJ7.out; have := HK2.out; omega⟩, ⟨by (with_reducible repeat (first | refine bkN ?_ _ | refine bkD ?_ | refine bkA ?_ _)); exact BK239.out⟩, ⟨by (with_reducible repeat (first | refine bkN ?_ _ | refine bkD ?_ | refine bkA ?_ _)); exact BK240.out⟩, ⟨by (with_reducible repeat (first | refine bkN ?_ _ | refine bkD ?_ | refine bkA ?_ _)); exact BK241.out⟩, ⟨by repeat (first | (with_reducible first | exact HB.out | apply blA | apply blN | apply blD | refine blS ?_ GE239.out | refine blS ?_ GE240.out | refine blS ?_ GE241.out) | exact HB.out)⟩⟩
     subst c23
     have H1 : (hopmeshref05_at.l0 k2 (wrap64 (Int.tdiv (wrap64 (x10_2 * ((rd_T47 l0_2 x11_2).f2))) 1000)) (wrap64 (x11_2 + 1)) l0_0 l0_1 l0_2 a0_3 a0_4 a0_5 a1_0 a1_1 a3_0 a3_1) = some r := by rw [if_pos rfl] at H; exact H
     clear H
     have H := H1
     clear H1
     have H' := Aside0.mk H
     clear H
     have hnb24 := NB239_240.out
     have hnc24 := NB240_239.out
     have hnb25 := NB239_241.out
     have hnc25 := NB241_239.out
     have hcz26_0 : wr.cell? ⟨gb239, 0, none⟩ = some (.slice A0_0 l0_0.length c0_0) := (bkC BK239.out 0).trans rfl
     have hcz26_1 : wr.cell? ⟨gb239, 1, none⟩ = some (.slice A0_1 l0_1.length c0_1) := (bkC BK239.out 1).trans rfl
     have hcz26_2 : wr.cell? ⟨gb239, 2, none⟩ = some (.slice A0_2 l0_2.length c0_2) := (bkC BK239.out 2).trans rfl
     have hcz26_3 : wr.cell? ⟨gb239, 3, none⟩ = some (.int .i64 a0_3) := (bkC BK239.out 3).trans rfl
     have hcz26_4 : wr.cell? ⟨gb239, 4, none⟩ = some (.int .i64 a0_4) := (bkC BK239.out 4).trans rfl
     have hcz26_5 : wr.cell? ⟨gb239, 5, none⟩ = some (.int .i64 a0_5) := (bkC BK239.out 5).trans rfl
     have hfz26_0 := bkF BK239.out 0
     have hfz26_1 := bkF BK239.out 1
     have hfz26_2 := bkF BK239.out 2
     have hfz26_3 := bkF BK239.out 3
     have hfz26_4 := bkF BK239.out 4
     have hfz26_5 := bkF BK239.out 5
     try go_wp2
     have n0_ := Aside0.mk (bkD BK239.out)
     have n1_ := Aside0.mk (bkD BK240.out)
     have n2_ := Aside0.mk (bkD BK241.out)
     have n3_ := Aside0.mk (blD HB.out)
     clear BK239
     clear BK240
     clear BK241
     clear HB
     have BK239 := n0_
     have BK240 := n1_
     have BK241 := n2_
     have HB := n3_
     clear n0_ n1_ n2_ n3_
     have p243 : 0 ≤ (x11_2 : Int) := of_decide_eq_true (by first | (with_reducible assumption) | assumption)
     have q243 : x11_2 < (l0_2.length : Int) := of_decide_eq_true (by first | (with_reducible assumption) | assumption)
     obtain ⟨ad243, e243, hx243_0, hx243_1, hx243_2, hx243_3, hx243_4⟩ := at_T47 HR0_2.out x11_2 p243 q243
     have hw243_4 := hx243_4
     have hw243_3 := hx243_3
     have hw243_2 := hx243_2
     have hw243_1 := hx243_1
     have hw243_0 := hx243_0
     cases e243
     replace hx243_0 := (HB.out.cell (World.block_lt_of_cell? w _ hx243_0)).trans hx243_0
     replace hx243_1 := (HB.out.cell (World.block_lt_of_cell? w _ hx243_1)).trans hx243_1
     replace hx243_2 := (HB.out.cell (World.block_lt_of_cell? w _ hx243_2)).trans hx243_2
     replace hx243_3 := (HB.out.cell (World.block_lt_of_cell? w _ hx243_3)).trans hx243_3
     replace hx243_4 := (HB.out.cell (World.block_lt_of_cell? w _ hx243_4)).trans hx243_4
     replace p243 := eq_true p243
     replace q243 := eq_true q243
     refine start_ (n := 8) (S := fun w' => w'.cell? ⟨gb240, 0, none⟩ = some (.int .i64 a1_0) ∧ w'.cell? ⟨gb240, 1, none⟩ = some (.int .i64 a1_1) ∧ w'.cell? ⟨gb241, 0, none⟩ = some (.int .i64 a3_0) ∧ w'.cell? ⟨gb241, 1, none⟩ = some (.int .i64 a3_1) ∧ w'.cell? ⟨gb239, 0, none⟩ = some (.slice A0_0 l0_0.length c0_0) ∧ w'.cell? ⟨gb239, 1, none⟩ = some (.slice A0_1 l0_1.length c0_1) ∧ w'.cell? ⟨gb239, 2, none⟩ = some (.slice (some ad243) l0_2.length c0_2) ∧ w'.cell? ⟨gb239, 3, none⟩ = some (.int .i64 a0_3) ∧ w'.cell? ⟨gb239, 4, none⟩ = some (.int .i64 a0_4) ∧ w'.cell? ⟨gb239, 5, none⟩ = some (.int .i64 a0_5) ∧ w'.cell? (ad243.add ((x11_2).toNat * 5)) = some (.int .i64 ((rd_T47 l0_2 x11_2).f0.f0)) ∧ w'.cell? ⟨(ad243.add ((x11_2).toNat * 5)).block, (ad243.add ((x11_2).toNat * 5)).off + 1, none⟩ = some (.int .i64 ((rd_T47 l0_2 x11_2).f0.f1)) ∧ w'.cell? ⟨(ad243.add ((x11_2).toNat * 5)).block, (ad243.add ((x11_2).toNat * 5)).off + 2, none⟩ = some (.int .i64 ((rd_T47 l0_2 x11_2).f1.f0)) ∧ w'.cell? ⟨(ad243.add ((x11_2).toNat * 5)).block, (ad243.add ((x11_2).toNat * 5)).off + 3, none⟩ = some (.int .i64 ((rd_T47 l0_2 x11_2).f1.f1)) ∧ w'.cell? ⟨(ad243.add ((x11_2).toNat * 5)).block, (ad243.add ((x11_2).toNat * 5)).off + 4, none⟩ = some (.int .i64 ((rd_T47 l0_2 x11_2).f2))) (ds := []) #[false, false, false, false, false, false, false, false] (by kernel_rfl) rfl rfl ⟨(bkC BK240.out 0).trans rfl, (bkC BK240.out 1).trans rfl, (bkC BK241.out 0).trans rfl, (bkC BK241.out 1).trans rfl, (bkC BK239.out 0).trans rfl, (bkC BK239.out 1).trans rfl, (bkC BK239.out 2).trans rfl, (bkC BK239.out 3).trans rfl, (bkC BK239.out 4).trans rfl, (bkC BK239.out 5).trans rfl, ((HB.out.cell (World.block_lt_of_cell? w _ hw243_0)).trans hw243_0), ((HB.out.cell (World.block_lt_of_cell? w _ hw243_1)).trans hw243_1), ((HB.out.cell (World.block_lt_of_cell? w _ hw243_2)).trans hw243_2), ((HB.out.cell (World.block_lt_of_cell? w _ hw243_3)).trans hw243_3), ((HB.out.cell (World.block_lt_of_cell? w _ hw243_4)).trans hw243_4)⟩ (fun hHeld => ?_); refine with_tabW hopmeshref05_at.tab8 hopmeshref05_at.bits8 (fun HT_ HW_ => ?_)
     generalize wr.drew = w27 at BK239 BK240 BK241 HB hx243_0 hx243_1 hx243_2 hx243_3 hx243_4 hHeld ⊢
     refine pure_ (i := 2) (N := some 36) (v := ?_) (a' := ?_) #[false, false, true, false, false, false, false, false] rfl rfl (any_of HT_.out (by kernel_rfl)) (fun _ _ _ h => h) (Or.inl ⟨by rfl, ?_⟩) ?_ ?_
     rotate_left
     ·intro w'
      go_simp
      with_reducible rfl
     rotate_left
     ·simp only [Act.put, List.setIfInBounds_toArray, List.set_cons_zero, List.set_cons_succ, i64_w, i32_w]
      rfl
     refine pure_ (i := 4) (N := some 38) (v := ?_) (a' := ?_) #[false, false, true, false, true, false, false, false] rfl rfl (any_of HT_.out (by kernel_rfl)) (fun _ _ _ h => h) (Or.inl ⟨by rfl, ?_⟩) ?_ ?_
     rotate_left
     ·intro w'
      go_simp
      with_reducible rfl
     rotate_left
     ·simp only [Act.put, List.setIfInBounds_toArray, List.set_cons_zero, List.set_cons_succ, i64_w, i32_w]
      rfl
     refine take_ (i := 0) (N := some 34) (v := ?_) (a' := ?_) #[true, false, true, false, true, false, false, false] rfl rfl (take_ofW HT_.out HW_.out (by kernel_rfl)) (fun _ _ _ h => h) (Or.inl ⟨by rfl, ?_⟩) hHeld ?_ ?_
     rotate_left
     ·rintro w' ⟨s0, s1, s2, s3, s4, s5, s6, s7, s8, s9, s10, s11, s12, s13, s14⟩
      go_simp
      with_reducible rfl
     rotate_left
     ·simp only [Act.put, List.setIfInBounds_toArray, List.set_cons_zero, List.set_cons_succ, i64_w, i32_w]
      rfl
     refine take_ (i := 1) (N := some 35) (v := ?_) (a' := ?_) #[true, true, true, false, true, false, false, false] rfl rfl (take_ofW HT_.out HW_.out (by kernel_rfl)) (fun _ _ _ h => h) (Or.inl ⟨by rfl, ?_⟩) hHeld ?_ ?_
     rotate_left
     ·rintro w' ⟨s0, s1, s2, s3, s4, s5, s6, s7, s8, s9, s10, s11, s12, s13, s14⟩
      go_simp
      with_reducible rfl
     rotate_left
     ·simp only [Act.put, List.setIfInBounds_toArray, List.set_cons_zero, List.set_cons_succ, i64_w, i32_w]
      rfl
     refine take_ (i := 3) (N := some 37) (v := ?_) (a' := ?_) #[true, true, true, true, true, false, false, false] rfl rfl (take_ofW HT_.out HW_.out (by kernel_rfl)) (fun _ _ _ h => h) (Or.inl ⟨by rfl, ?_⟩) hHeld ?_ ?_
     rotate_left
     ·rintro w' ⟨s0, s1, s2, s3, s4, s5, s6, s7, s8, s9, s10, s11, s12, s13, s14⟩
      go_simp
      with_reducible rfl
     rotate_left
     ·simp only [Act.put, List.setIfInBounds_toArray, List.set_cons_zero, List.set_cons_succ, i64_w, i32_w]
      rfl
     refine pure_ (i := 5) (N := some 39) (v := ?_) (a' := ?_) #[true, true, true, true, true, true, false, false] rfl rfl (any_of HT_.out (by kernel_rfl)) (fun _ _ _ h => h) (Or.inl ⟨by rfl, ?_⟩) ?_ ?_
     rotate_left
     ·intro w'
      go_simp
      with_reducible rfl
     rotate_left
     ·simp only [Act.put, List.setIfInBounds_toArray, List.set_cons_zero, List.set_cons_succ, i64_w, i32_w]
      rfl
     refine take_ (i := 6) (N := some 40) (v := ?_) (a' := ?_) #[true, true, true, true, true, true, true, false] rfl rfl (take_ofW HT_.out HW_.out (by kernel_rfl)) (fun _ _ _ h => h) (Or.inl ⟨by rfl, ?_⟩) hHeld ?_ ?_
     rotate_left
     ·rintro w' ⟨s0, s1, s2, s3, s4, s5, s6, s7, s8, s9, s10, s11, s12, s13, s14⟩
      go_simp
      with_reducible rfl
     rotate_left
     ·simp only [Act.put, List.setIfInBounds_toArray, List.set_cons_zero, List.set_cons_succ, i64_w, i32_w]
      rfl
     refine one_ (i := 7) (N := some 41) #[true, true, true, true, true, true, true, true] rfl rfl (one_of HT_.out (by kernel_rfl)) (by decide) (fun K hK => ?_)
     refine goes_ Try.func28 (by kernel_rfl) rfl #[.agg #[.int .i64 a1_0, .int .i64 a1_1], .agg #[.int .i64 a3_0, .int .i64 a3_1], .agg #[.int .i64 ((rd_T47 l0_2 x11_2).f0.f0), .int .i64 ((rd_T47 l0_2 x11_2).f0.f1), .int .i64 ((rd_T47 l0_2 x11_2).f1.f0), .int .i64 ((rd_T47 l0_2 x11_2).f1.f1), .int .i64 ((rd_T47 l0_2 x11_2).f2)]] (by rfl) rfl rfl (by (try simp only [List.map_toArray, List.map_cons, List.map_nil]); first | done | rfl | (simp only [List.length_drop, List.length_take]; rfl)) ?_
     with_reducible refine (hopmeshref05_Crosses.calls k2 a1_0 a1_1 a3_0 a3_1 ((rd_T47 l0_2 x11_2).f0.f0) ((rd_T47 l0_2 x11_2).f0.f1) ((rd_T47 l0_2 x11_2).f1.f0) ((rd_T47 l0_2 x11_2).f1.f1) ((rd_T47 l0_2 x11_2).f2) true _ A22.out).mono ?_
     rintro e w28 ⟨rfl, hb⟩
     refine ⟨_, rfl, ?_⟩
     have n0_ := Aside0.mk (bkB (g := gb239) (o := .cells #[.slice A0_0 l0_0.length c0_0, .slice A0_1 l0_1.length c0_1, .slice (some ad243) l0_2.length c0_2, .int .i64 a0_3, .int .i64 a0_4, .int .i64 a0_5] 26 (0, 0)) (by (with_reducible repeat (first | refine bkN ?_ _ | refine bkD ?_ | refine bkA ?_ _)); exact BK239.out) hb)
     have n1_ := Aside0.mk (bkB (g := gb240) (o := .cells #[.int .i64 a1_0, .int .i64 a1_1] 28 (0, 0)) (by (with_reducible repeat (first | refine bkN ?_ _ | refine bkD ?_ | refine bkA ?_ _)); exact BK240.out) hb)
     have n2_ := Aside0.mk (bkB (g := gb241) (o := .cells #[.int .i64 a3_0, .int .i64 a3_1] 28 (0, 0)) (by (with_reducible repeat (first | refine bkN ?_ _ | refine bkD ?_ | refine bkA ?_ _)); exact BK241.out) hb)
     have n3_ := Aside0.mk (below_step (by repeat (first | (with_reducible first | exact HB.out | apply blA | apply blN | apply blD | refine blS ?_ GE239.out | refine blS ?_ GE240.out | refine blS ?_ GE241.out) | exact HB.out)) hb)
     clear BK239
     clear BK240
     clear BK241
     clear HB
     have BK239 := n0_
     have BK240 := n1_
     have BK241 := n2_
     have HB := n3_
     clear n0_ n1_ n2_ n3_
     (try clear hb)
     (try clear hb2)
     (try clear hk)
     (try clear hi)
     refine hK.out _ _ ⟨(bkC BK240.out 0).trans rfl, (bkC BK240.out 1).trans rfl, (bkC BK241.out 0).trans rfl, (bkC BK241.out 1).trans rfl, (bkC BK239.out 0).trans rfl, (bkC BK239.out 1).trans rfl, (bkC BK239.out 2).trans rfl, (bkC BK239.out 3).trans rfl, (bkC BK239.out 4).trans rfl, (bkC BK239.out 5).trans rfl, ((HB.out.cell (World.block_lt_of_cell? w _ hw243_0)).trans hw243_0), ((HB.out.cell (World.block_lt_of_cell? w _ hw243_1)).trans hw243_1), ((HB.out.cell (World.block_lt_of_cell? w _ hw243_2)).trans hw243_2), ((HB.out.cell (World.block_lt_of_cell? w _ hw243_3)).trans hw243_3), ((HB.out.cell (World.block_lt_of_cell? w _ hw243_4)).trans hw243_4)⟩ (fun hHeld => ?_)
     clear hK K
     refine norm_ (a' := ?_) ?_ ?_
     rotate_left
     ·show Act.put _ (some 41) _ = _
      simp only [Act.put, List.setIfInBounds_toArray, List.set_cons_zero, List.set_cons_succ, i64_w, i32_w]
      rfl
     refine done_ (done_of HT_.out (by kernel_rfl)) ?_
     have hcz29_0 : w28.cell? ⟨gb239, 0, none⟩ = some (.slice A0_0 l0_0.length c0_0) := (bkC BK239.out 0).trans rfl
     have hcz29_1 : w28.cell? ⟨gb239, 1, none⟩ = some (.slice A0_1 l0_1.length c0_1) := (bkC BK239.out 1).trans rfl
     have hcz29_2 : w28.cell? ⟨gb239, 2, none⟩ = some (.slice (some ad243) l0_2.length c0_2) := (bkC BK239.out 2).trans rfl
     have hcz29_3 : w28.cell? ⟨gb239, 3, none⟩ = some (.int .i64 a0_3) := (bkC BK239.out 3).trans rfl
     have hcz29_4 : w28.cell? ⟨gb239, 4, none⟩ = some (.int .i64 a0_4) := (bkC BK239.out 4).trans rfl
     have hcz29_5 : w28.cell? ⟨gb239, 5, none⟩ = some (.int .i64 a0_5) := (bkC BK239.out 5).trans rfl
     have hfz29_0 := bkF BK239.out 0
     have hfz29_1 := bkF BK239.out 1
     have hfz29_2 := bkF BK239.out 2
     have hfz29_3 := bkF BK239.out 3
     have hfz29_4 := bkF BK239.out 4
     have hfz29_5 := bkF BK239.out 5
     have p245 : 0 ≤ (x11_2 : Int) := of_decide_eq_true (by first | (with_reducible assumption) | assumption)
     have q245 : x11_2 < (l0_2.length : Int) := of_decide_eq_true (by first | (with_reducible assumption) | assumption)
     obtain ⟨ad245, e245, hx245_0, hx245_1, hx245_2, hx245_3, hx245_4⟩ := at_T47 HR0_2.out x11_2 p245 q245
     obtain rfl : ad243 = ad245 := (by injection e245)
     replace hx245_0 := (HB.out.cell (World.block_lt_of_cell? w _ hx245_0)).trans hx245_0
     replace hx245_1 := (HB.out.cell (World.block_lt_of_cell? w _ hx245_1)).trans hx245_1
     replace hx245_2 := (HB.out.cell (World.block_lt_of_cell? w _ hx245_2)).trans hx245_2
     replace hx245_3 := (HB.out.cell (World.block_lt_of_cell? w _ hx245_3)).trans hx245_3
     replace hx245_4 := (HB.out.cell (World.block_lt_of_cell? w _ hx245_4)).trans hx245_4
     replace p245 := eq_true p245
     replace q245 := eq_true q245
     try go_wp2
     go_roundg k2
     case measure => have := HJ7.out; have := HK2.out; omega
     case rel => exact ⟨(wrap64 (Int.tdiv (wrap64 (x10_2 * ((rd_T47 l0_2 x11_2).f2))) 1000)), (wrap64 (x11_2 + 1)), (by first | rfl | (simp; done) | (simp [*]; done)), (by first | rfl | (simp; done) | (simp [*]; done)), H', ⟨by have := HJ7.out; have := HK2.out; omega⟩, ⟨by (with_reducible repeat (first | refine bkN ?_ _ | refine bkD ?_ | refine bkA ?_ _)); exact BK239.out⟩, ⟨by (with_reducible repeat (first | refine bkN ?_ _ | refine bkD ?_ | refine bkA ?_ _)); exact BK240.out⟩, ⟨by (with_reducible repeat (first | refine bkN ?_ _ | refine bkD ?_ | refine bkA ?_ _)); exact BK241.out⟩, ⟨by repeat (first | (with_reducible first | exact HB.out | apply blA | apply blN | apply blD | refine blS ?_ GE239.out | refine blS ?_ GE240.out | refine blS ?_ GE241.out) | exact HB.out)⟩⟩
end Go.Proofs.Ytcdgpnjlaicbcaa.PA
