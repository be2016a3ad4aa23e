-- Written by a program of this session (mkprint.py: the kit's print, changed) for this claim. Not trusted: Lean checks it.
import Derived.Test.YtcdgpnjlaicbcaaPAx0
import Derived.Test.YtcdgpnjlaicbcaaPAx13
namespace Go.Proofs.Ytcdgpnjlaicbcaa.PA
open Go.RowKit Go.Proofs.YtcdgpnjlaicbcaaW.PrintWords Go.Proofs.YtcdgpnjlaicbcaaW.PrintLast Go.Proofs.YtcdgpnjlaicbcaaW.PrintMore
attribute [local go_sem] max2_int min2_int max_two min_two max_three min_three max_four min_four   -- for this text's walks alone
-- thin
set_option linter.unusedVariables false
set_option linter.unusedSimpArgs false

/-! ### hopmeshref05_Check: function 36 -/
mutual
def hopmeshref05_Check.j0 : Nat → Int → Bool → List (S28) → List Int → List (S47) → Int → Int → Int → Option (Int)
 | 0, _, _, _, _, _, _, _, _ => none
 | k + 1, x3, x46, x177000, x177001, x177002, x177003, x177004, x177005 => if x46 = true then (some 1) else (hopmeshref05_Check.l0 k x3 0 x177000 x177001 x177002 x177003 x177004 x177005)
def hopmeshref05_Check.l0 : Nat → Int → Int → List (S28) → List Int → List (S47) → Int → Int → Int → Option (Int)
 | 0, _, _, _, _, _, _, _, _ => none
 | k + 1, x3, x4, x177000, x177001, x177002, x177003, x177004, x177005 => if x4 < x3 then (if 0 ≤ x4 then (if x4 < (x177000.length : Int) then ((hopmeshref05_Point.f ((rd_T28 x177000 x4).f0) ((rd_T28 x177000 x4).f1)).bind fun t180 => (if t180 = true then (if x4 < (x177001.length : Int) then ((hopmeshref04_Is.f (rd x177001 x4)).bind fun t182 => (if t182 = true then (hopmeshref05_Check.l0 k x3 (wrap64 (x4 + 1)) x177000 x177001 x177002 x177003 x177004 x177005) else (some 1))) else (none)) else (some 1))) else (none)) else (none)) else (hopmeshref05_Check.l1 k 0 x177000 x177001 x177002 x177003 x177004 x177005)
def hopmeshref05_Check.l1 : Nat → Int → List (S28) → List Int → List (S47) → Int → Int → Int → Option (Int)
 | 0, _, _, _, _, _, _, _ => none
 | k + 1, x5, x177000, x177001, x177002, x177003, x177004, x177005 => if x5 < (x177002.length : Int) then (if 0 ≤ x5 then ((hopmeshref05_Point.f ((rd_T47 x177002 x5).f0.f0) ((rd_T47 x177002 x5).f0.f1)).bind fun t185 => (if t185 = true then ((hopmeshref05_Point.f ((rd_T47 x177002 x5).f1.f0) ((rd_T47 x177002 x5).f1.f1)).bind fun t186 => (if t186 = true then (if ((rd_T47 x177002 x5).f2) < 0 then (hopmeshref05_Check.j3 k x5 true x177000 x177001 x177002 x177003 x177004 x177005) else (hopmeshref05_Check.j3 k x5 (decide (((rd_T47 x177002 x5).f2) > 1000)) x177000 x177001 x177002 x177003 x177004 x177005)) else (hopmeshref05_Check.j3 k x5 true x177000 x177001 x177002 x177003 x177004 x177005))) else (hopmeshref05_Check.j3 k x5 true x177000 x177001 x177002 x177003 x177004 x177005))) else (none)) else (some 0)
def hopmeshref05_Check.j3 : Nat → Int → Bool → List (S28) → List Int → List (S47) → Int → Int → Int → Option (Int)
 | 0, _, _, _, _, _, _, _, _ => none
 | k + 1, x5, x99, x177000, x177001, x177002, x177003, x177004, x177005 => if x99 = true then (some 1) else (hopmeshref05_Check.l1 k (wrap64 (x5 + 1)) x177000 x177001 x177002 x177003 x177004 x177005)
end
def hopmeshref05_Check.f (k : Nat) (l0_0 : List (S28)) (l0_1 : List Int) (l0_2 : List (S47)) (a0_3 : Int) (a0_4 : Int) (a0_5 : Int) : Option (Int) := if (l0_0.length : Int) < 2 then (hopmeshref05_Check.j0 k (l0_0.length : Int) true l0_0 l0_1 l0_2 a0_3 a0_4 a0_5) else (if (l0_0.length : Int) > 32 then (hopmeshref05_Check.j0 k (l0_0.length : Int) true l0_0 l0_1 l0_2 a0_3 a0_4 a0_5) else (if (l0_1.length : Int) = (l0_0.length : Int) then (if (l0_2.length : Int) > 32 then (hopmeshref05_Check.j0 k (l0_0.length : Int) true l0_0 l0_1 l0_2 a0_3 a0_4 a0_5) else (if a0_3 = 2 then ((hopmeshref04_Right.f a0_5 a0_4).bind fun t177 => (hopmeshref05_Check.j0 k (l0_0.length : Int) (!t177) l0_0 l0_1 l0_2 a0_3 a0_4 a0_5)) else (if a0_3 = 4 then ((hopmeshref04_Right.f a0_5 a0_4).bind fun t178 => (hopmeshref05_Check.j0 k (l0_0.length : Int) (!t178) l0_0 l0_1 l0_2 a0_3 a0_4 a0_5)) else (hopmeshref05_Check.j0 k (l0_0.length : Int) true l0_0 l0_1 l0_2 a0_3 a0_4 a0_5)))) else (hopmeshref05_Check.j0 k (l0_0.length : Int) true l0_0 l0_1 l0_2 a0_3 a0_4 a0_5)))
theorem hopmeshref05_Check.mono_l : ∀ k, (∀ y0 y1 y2 y3 y4 y5 y6 y7, LeO (hopmeshref05_Check.j0 k y0 y1 y2 y3 y4 y5 y6 y7) (hopmeshref05_Check.j0 (k + 1) y0 y1 y2 y3 y4 y5 y6 y7)) ∧ (∀ y0 y1 y2 y3 y4 y5 y6 y7, LeO (hopmeshref05_Check.l0 k y0 y1 y2 y3 y4 y5 y6 y7) (hopmeshref05_Check.l0 (k + 1) y0 y1 y2 y3 y4 y5 y6 y7)) ∧ (∀ y0 y1 y2 y3 y4 y5 y6, LeO (hopmeshref05_Check.l1 k y0 y1 y2 y3 y4 y5 y6) (hopmeshref05_Check.l1 (k + 1) y0 y1 y2 y3 y4 y5 y6)) ∧ (∀ y0 y1 y2 y3 y4 y5 y6 y7, LeO (hopmeshref05_Check.j3 k y0 y1 y2 y3 y4 y5 y6 y7) (hopmeshref05_Check.j3 (k + 1) y0 y1 y2 y3 y4 y5 y6 y7))
 | 0 => ⟨fun _ _ _ _ _ _ _ _ r h => by simp [hopmeshref05_Check.j0] at h, fun _ _ _ _ _ _ _ _ r h => by simp [hopmeshref05_Check.l0] at h, fun _ _ _ _ _ _ _ r h => by simp [hopmeshref05_Check.l1] at h, fun _ _ _ _ _ _ _ _ r h => by simp [hopmeshref05_Check.j3] at h⟩
 | k + 1 => by
  obtain ⟨ih0, ih1, ih2, ih3⟩ := hopmeshref05_Check.mono_l k
  refine ⟨?_, ?_, ?_, ?_⟩
  ·intro y0 y1 y2 y3 y4 y5 y6 y7
   unfold hopmeshref05_Check.j0
   repeat' first
   | (with_reducible exact ih0 _ _ _ _ _ _ _ _)
   | (with_reducible exact ih1 _ _ _ _ _ _ _ _)
   | (with_reducible exact ih2 _ _ _ _ _ _ _)
   | (with_reducible exact ih3 _ _ _ _ _ _ _ _)
   | (with_reducible exact LeO.refl _)
   | (with_reducible exact LeO.none _)
   | (with_reducible refine LeO.ite ?_ ?_)
   | (with_reducible refine LeO.bind ?_ (fun _ => ?_))
   | exact ih0 _ _ _ _ _ _ _ _
   | exact ih1 _ _ _ _ _ _ _ _
   | exact ih2 _ _ _ _ _ _ _
   | exact ih3 _ _ _ _ _ _ _ _
   | exact LeO.none _
   | refine LeO.ite ?_ ?_
   | refine LeO.bind ?_ (fun _ => ?_)
  ·intro y0 y1 y2 y3 y4 y5 y6 y7
   unfold hopmeshref05_Check.l0
   repeat' first
   | (with_reducible exact ih0 _ _ _ _ _ _ _ _)
   | (with_reducible exact ih1 _ _ _ _ _ _ _ _)
   | (with_reducible exact ih2 _ _ _ _ _ _ _)
   | (with_reducible exact ih3 _ _ _ _ _ _ _ _)
   | (with_reducible exact LeO.refl _)
   | (with_reducible exact LeO.none _)
   | (with_reducible refine LeO.ite ?_ ?_)
   | (with_reducible refine LeO.bind ?_ (fun _ => ?_))
   | exact ih0 _ _ _ _ _ _ _ _
   | exact ih1 _ _ _ _ _ _ _ _
   | exact ih2 _ _ _ _ _ _ _
   | exact ih3 _ _ _ _ _ _ _ _
   | exact LeO.none _
   | refine LeO.ite ?_ ?_
   | refine LeO.bind ?_ (fun _ => ?_)
  ·intro y0 y1 y2 y3 y4 y5 y6
   unfold hopmeshref05_Check.l1
   repeat' first
   | (with_reducible exact ih0 _ _ _ _ _ _ _ _)
   | (with_reducible exact ih1 _ _ _ _ _ _ _ _)
   | (with_reducible exact ih2 _ _ _ _ _ _ _)
   | (with_reducible exact ih3 _ _ _ _ _ _ _ _)
   | (with_reducible exact LeO.refl _)
   | (with_reducible exact LeO.none _)
   | (with_reducible refine LeO.ite ?_ ?_)
   | (with_reducible refine LeO.bind ?_ (fun _ => ?_))
   | exact ih0 _ _ _ _ _ _ _ _
   | exact ih1 _ _ _ _ _ _ _ _
   | exact ih2 _ _ _ _ _ _ _
   | exact ih3 _ _ _ _ _ _ _ _
   | exact LeO.none _
   | refine LeO.ite ?_ ?_
   | refine LeO.bind ?_ (fun _ => ?_)
  intro y0 y1 y2 y3 y4 y5 y6 y7
  unfold hopmeshref05_Check.j3
  repeat' first
  | (with_reducible exact ih0 _ _ _ _ _ _ _ _)
  | (with_reducible exact ih1 _ _ _ _ _ _ _ _)
  | (with_reducible exact ih2 _ _ _ _ _ _ _)
  | (with_reducible exact ih3 _ _ _ _ _ _ _ _)
  | (with_reducible exact LeO.refl _)
  | (with_reducible exact LeO.none _)
  | (with_reducible refine LeO.ite ?_ ?_)
  | (with_reducible refine LeO.bind ?_ (fun _ => ?_))
  | exact ih0 _ _ _ _ _ _ _ _
  | exact ih1 _ _ _ _ _ _ _ _
  | exact ih2 _ _ _ _ _ _ _
  | exact ih3 _ _ _ _ _ _ _ _
  | exact LeO.none _
  | refine LeO.ite ?_ ?_
  | refine LeO.bind ?_ (fun _ => ?_)
theorem hopmeshref05_Check.mono : ∀ a0 a1 a2 a3 a4 a5 k, LeO (hopmeshref05_Check.f k a0 a1 a2 a3 a4 a5) (hopmeshref05_Check.f (k + 1) a0 a1 a2 a3 a4 a5) := by
 intro a0 a1 a2 a3 a4 a5 k
 obtain ⟨ih0, ih1, ih2, ih3⟩ := hopmeshref05_Check.mono_l k
 unfold hopmeshref05_Check.f
 repeat' first
  | (with_reducible exact ih0 _ _ _ _ _ _ _ _)
  | (with_reducible exact ih1 _ _ _ _ _ _ _ _)
  | (with_reducible exact ih2 _ _ _ _ _ _ _)
  | (with_reducible exact ih3 _ _ _ _ _ _ _ _)
  | (with_reducible exact LeO.refl _)
  | (with_reducible exact LeO.none _)
  | (with_reducible refine LeO.ite ?_ ?_)
  | (with_reducible refine LeO.bind ?_ (fun _ => ?_))
  | exact ih0 _ _ _ _ _ _ _ _
  | exact ih1 _ _ _ _ _ _ _ _
  | exact ih2 _ _ _ _ _ _ _
  | exact ih3 _ _ _ _ _ _ _ _
  | exact LeO.none _
  | refine LeO.ite ?_ ?_
  | refine LeO.bind ?_ (fun _ => ?_)
set_option maxHeartbeats 8000000 in
set_option maxRecDepth 100000 in
theorem hopmeshref05_Check.calls (k : Nat) (A0_0 : Option Addr) (c0_0 : Nat) (l0_0 : List (S28)) (A0_1 : Option Addr) (c0_1 : Nat) (l0_1 : List Int) (A0_2 : Option Addr) (c0_2 : Nat) (l0_2 : List (S47)) (a0_3 : Int) (a0_4 : Int) (a0_5 : Int) (r : Int) (w : World) (hr0_0 : Kd.C k28 w A0_0 l0_0.length l0_0) (hc0_0 : l0_0.length ≤ c0_0) (hr0_1 : Kd.C (Kd.int .i64) w A0_1 l0_1.length l0_1) (hc0_1 : l0_1.length ≤ c0_1) (hr0_2 : Kd.C k47 w A0_2 l0_2.length l0_2) (hc0_2 : l0_2.length ≤ c0_2) (h : hopmeshref05_Check.f k l0_0 l0_1 l0_2 a0_3 a0_4 a0_5 = some r) :
 Calls Try.prog 36 #[.agg #[.slice A0_0 l0_0.length c0_0, .slice A0_1 l0_1.length c0_1, .slice A0_2 l0_2.length c0_2, .int .i64 a0_3, .int .i64 a0_4, .int .i64 a0_5]] w fun e w' => e = .returned (.int .i64 r) ∧ Below w.heap.size w w' := by
 have hu26 := Try.underlying26
 have hu28 := Try.underlying28
 have hu47 := Try.underlying47
 have HR0_0 := Aside0.mk hr0_0
 have HC0_0 := Aside0.mk hc0_0
 clear hr0_0 hc0_0
 have HR0_1 := Aside0.mk hr0_1
 have HC0_1 := Aside0.mk hc0_1
 clear hr0_1 hc0_1
 have HR0_2 := Aside0.mk hr0_2
 have HC0_2 := Aside0.mk hc0_2
 clear hr0_2 hc0_2
 have HB := Aside0.mk (Below.refl w.heap.size w)
 have H : (if (l0_0.length : Int) < 2 then (hopmeshref05_Check.j0 k (l0_0.length : Int) true l0_0 l0_1 l0_2 a0_3 a0_4 a0_5) else (if (l0_0.length : Int) > 32 then (hopmeshref05_Check.j0 k (l0_0.length : Int) true l0_0 l0_1 l0_2 a0_3 a0_4 a0_5) else (if (l0_1.length : Int) = (l0_0.length : Int) then (if (l0_2.length : Int) > 32 then (hopmeshref05_Check.j0 k (l0_0.length : Int) true l0_0 l0_1 l0_2 a0_3 a0_4 a0_5) else (if a0_3 = 2 then ((hopmeshref04_Right.f a0_5 a0_4).bind fun t177 => (hopmeshref05_Check.j0 k (l0_0.length : Int) (!t177) l0_0 l0_1 l0_2 a0_3 a0_4 a0_5)) else (if a0_3 = 4 then ((hopmeshref04_Right.f a0_5 a0_4).bind fun t178 => (hopmeshref05_Check.j0 k (l0_0.length : Int) (!t178) l0_0 l0_1 l0_2 a0_3 a0_4 a0_5)) else (hopmeshref05_Check.j0 k (l0_0.length : Int) true l0_0 l0_1 l0_2 a0_3 a0_4 a0_5)))) else (hopmeshref05_Check.j0 k (l0_0.length : Int) true l0_0 l0_1 l0_2 a0_3 a0_4 a0_5)))) = some r := h
 clear h
 have HC2 := Aside0.mk H
 clear H
 go_enter Try.func36, Try.ntmps36
 go_upto_region 2 with (first | ((with_reducible refine gate_dst (N := 1) rfl ?_); refine box_event ?hg (N := 1) ?hd (cs := #[.slice A0_0 l0_0.length c0_0, .slice A0_1 l0_1.length c0_1, .slice A0_2 l0_2.length c0_2, .int .i64 a0_3, .int .i64 a0_4, .int .i64 a0_5]) (t := 26) ?hr ?_; (case hd => rfl); (case hg => rfl); (case hr => first | (go_simp; done) | (go_simp; rfl)); intro gb176 hg w3 hbox hb; have n0_ := Aside0.mk (below_step (by repeat (first | (with_reducible first | exact HB.out | apply blA | apply blN | apply blD) | exact HB.out)) hb); have n1_ := Aside0.mk (hbox); have n2_ := Aside0.mk ((by rw [hg]; exact (below_size (by repeat (first | (with_reducible first | exact HB.out | apply blA | apply blN | apply blD) | exact HB.out))) : w.heap.size ≤ gb176)); have n3_ := Aside0.mk ((by rw [hg]; exact (below_size (by repeat (first | (with_reducible first | exact HB.out | apply blA | apply blN | apply blD) | exact HB.out))) : w.heap.size ≤ gb176)); clear HB; have HB := n0_; have BK176 := n1_; have GW176 := n2_; have GE176 := n3_; clear n0_ n1_ n2_ n3_; clear hb hbox hg; have hcz4_0 : w3.cell? ⟨gb176, 0, none⟩ = some (.slice A0_0 l0_0.length c0_0) := (bkC BK176.out 0).trans rfl; have hcz4_1 : w3.cell? ⟨gb176, 1, none⟩ = some (.slice A0_1 l0_1.length c0_1) := (bkC BK176.out 1).trans rfl; have hcz4_2 : w3.cell? ⟨gb176, 2, none⟩ = some (.slice A0_2 l0_2.length c0_2) := (bkC BK176.out 2).trans rfl; have hcz4_3 : w3.cell? ⟨gb176, 3, none⟩ = some (.int .i64 a0_3) := (bkC BK176.out 3).trans rfl; have hcz4_4 : w3.cell? ⟨gb176, 4, none⟩ = some (.int .i64 a0_4) := (bkC BK176.out 4).trans rfl; have hcz4_5 : w3.cell? ⟨gb176, 5, none⟩ = some (.int .i64 a0_5) := (bkC BK176.out 5).trans rfl; have hfz4_0 := bkF BK176.out 0; have hfz4_1 := bkF BK176.out 1; have hfz4_2 := bkF BK176.out 2; have hfz4_3 := bkF BK176.out 3; have hfz4_4 := bkF BK176.out 4; have hfz4_5 := bkF BK176.out 5))
 (try simp only [Act.put, List.setIfInBounds_toArray, List.set_cons_zero, List.set_cons_succ])
 go_cut [46] (fun v46 wc => ∃ (kq : Nat) (x46_1 : Bool), v46 = .bool x46_1 ∧ Aside0 (hopmeshref05_Check.j0 kq (l0_0.length : Int) x46_1 l0_0 l0_1 l0_2 a0_3 a0_4 a0_5 = some r) ∧ Aside0 (kq ≤ k) ∧ Aside0 (wc.heap[gb176]? = some (.cells #[(.slice A0_0 l0_0.length c0_0), (.slice A0_1 l0_1.length c0_1), (.slice A0_2 l0_2.length c0_2), .int .i64 a0_3, .int .i64 a0_4, .int .i64 a0_5] 26 (0, 0))) ∧ Aside0 (Below w.heap.size w wc))
 case first =>
  have H := HC2.out
  clear HC2
  by_cases c5 : (l0_0.length : Int) < 2
  ·rw [if_pos c5] at H
   have c5b0 : decide ((l0_0.length : Int) < 2) = true := decide_eq_true c5
   have c5b1 : decide (l0_0.length < 2) = true := decide_eq_true (by omega)
   clear c5
   (first | rw [c5b0] | (simp only [i64_w, i32_w]; rw [c5b0]) | skip)
   have H' := Aside0.mk H
   clear H
   go_wp2
   go_meet
   case rel => exact ⟨_, (true), (by first | rfl | (simp; done) | (simp [*]; done)), H', ⟨by first | omega | exact Nat.le_refl _⟩, ⟨by (with_reducible repeat (first | refine bkN ?_ _ | refine bkD ?_ | refine bkA ?_ _)); exact BK176.out⟩, ⟨by repeat (first | (with_reducible first | exact HB.out | apply blA | apply blN | apply blD | refine blS ?_ GE176.out) | exact HB.out)⟩⟩
  rw [if_neg c5] at H
  have c5b0 : decide ((l0_0.length : Int) < 2) = false := decide_eq_false c5
  have c5b1 : decide (l0_0.length < 2) = false := decide_eq_false (by omega)
  clear c5
  (first | rw [c5b0] | (simp only [i64_w, i32_w]; rw [c5b0]) | skip)
  by_cases c6 : (l0_0.length : Int) > 32
  ·rw [if_pos c6] at H
   have c6b0 : decide (32 < (l0_0.length : Int)) = true := decide_eq_true c6
   have c6b1 : decide (32 < l0_0.length) = true := decide_eq_true (by omega)
   clear c6
   have H' := Aside0.mk H
   clear H
   go_wp2
   go_meet
   case rel => exact ⟨_, (true), (by first | rfl | (simp; done) | (simp [*]; done)), H', ⟨by first | omega | exact Nat.le_refl _⟩, ⟨by (with_reducible repeat (first | refine bkN ?_ _ | refine bkD ?_ | refine bkA ?_ _)); exact BK176.out⟩, ⟨by repeat (first | (with_reducible first | exact HB.out | apply blA | apply blN | apply blD | refine blS ?_ GE176.out) | exact HB.out)⟩⟩
  rw [if_neg c6] at H
  have c6b0 : decide (32 < (l0_0.length : Int)) = false := decide_eq_false c6
  have c6b1 : decide (32 < l0_0.length) = false := decide_eq_false (by omega)
  clear c6
  by_cases c7 : (l0_1.length : Int) = (l0_0.length : Int)
  rotate_left
  ·rw [if_neg c7] at H
   have c7b0 : ((l0_1.length : Int) == (l0_0.length : Int)) = false := beq_eq_false_iff_ne.mpr c7
   have c7b1 : ((l0_1.length : Int) != (l0_0.length : Int)) = true := bne_iff_ne.mpr c7
   have c7b2 : (l0_1.length == l0_0.length) = false := by first | simpa using c7 | (simp at c7 ⊢; omega)
   have H' := Aside0.mk H
   clear H
   have hcz17_0 : w3.cell? ⟨gb176, 0, none⟩ = some (.slice A0_0 l0_0.length c0_0) := (bkC BK176.out 0).trans rfl
   have hcz17_1 : w3.cell? ⟨gb176, 1, none⟩ = some (.slice A0_1 l0_1.length c0_1) := (bkC BK176.out 1).trans rfl
   have hcz17_2 : w3.cell? ⟨gb176, 2, none⟩ = some (.slice A0_2 l0_2.length c0_2) := (bkC BK176.out 2).trans rfl
   have hcz17_3 : w3.cell? ⟨gb176, 3, none⟩ = some (.int .i64 a0_3) := (bkC BK176.out 3).trans rfl
   have hcz17_4 : w3.cell? ⟨gb176, 4, none⟩ = some (.int .i64 a0_4) := (bkC BK176.out 4).trans rfl
   have hcz17_5 : w3.cell? ⟨gb176, 5, none⟩ = some (.int .i64 a0_5) := (bkC BK176.out 5).trans rfl
   have hfz17_0 := bkF BK176.out 0
   have hfz17_1 := bkF BK176.out 1
   have hfz17_2 := bkF BK176.out 2
   have hfz17_3 := bkF BK176.out 3
   have hfz17_4 := bkF BK176.out 4
   have hfz17_5 := bkF BK176.out 5
   go_wp2
   go_meet
   case rel => exact ⟨_, (true), (by first | rfl | (simp; done) | (simp [*]; done)), H', ⟨by first | omega | exact Nat.le_refl _⟩, ⟨by (with_reducible repeat (first | refine bkN ?_ _ | refine bkD ?_ | refine bkA ?_ _)); exact BK176.out⟩, ⟨by repeat (first | (with_reducible first | exact HB.out | apply blA | apply blN | apply blD | refine blS ?_ GE176.out) | exact HB.out)⟩⟩
  rw [if_pos c7] at H
  have c7b0 : ((l0_1.length : Int) == (l0_0.length : Int)) = true := beq_iff_eq.mpr c7
  have c7b1 : ((l0_1.length : Int) != (l0_0.length : Int)) = false := bne_eq_false_iff_eq.mpr c7
  have c7b2 : (l0_1.length == l0_0.length) = true := by first | simpa using c7 | (simp at c7 ⊢; omega)
  clear c7
  by_cases c8 : (l0_2.length : Int) > 32
  ·rw [if_pos c8] at H
   have c8b0 : decide (32 < (l0_2.length : Int)) = true := decide_eq_true c8
   have c8b1 : decide (32 < l0_2.length) = true := decide_eq_true (by omega)
   clear c8
   have H' := Aside0.mk H
   clear H
   have hcz9_0 : w3.cell? ⟨gb176, 0, none⟩ = some (.slice A0_0 l0_0.length c0_0) := (bkC BK176.out 0).trans rfl
   have hcz9_1 : w3.cell? ⟨gb176, 1, none⟩ = some (.slice A0_1 l0_1.length c0_1) := (bkC BK176.out 1).trans rfl
   have hcz9_2 : w3.cell? ⟨gb176, 2, none⟩ = some (.slice A0_2 l0_2.length c0_2) := (bkC BK176.out 2).trans rfl
   have hcz9_3 : w3.cell? ⟨gb176, 3, none⟩ = some (.int .i64 a0_3) := (bkC BK176.out 3).trans rfl
   have hcz9_4 : w3.cell? ⟨gb176, 4, none⟩ = some (.int .i64 a0_4) := (bkC BK176.out 4).trans rfl
   have hcz9_5 : w3.cell? ⟨gb176, 5, none⟩ = some (.int .i64 a0_5) := (bkC BK176.out 5).trans rfl
   have hfz9_0 := bkF BK176.out 0
   have hfz9_1 := bkF BK176.out 1
   have hfz9_2 := bkF BK176.out 2
   have hfz9_3 := bkF BK176.out 3
   have hfz9_4 := bkF BK176.out 4
   have hfz9_5 := bkF BK176.out 5
   go_wp2
   go_meet
   case rel => exact ⟨_, (true), (by first | rfl | (simp; done) | (simp [*]; done)), H', ⟨by first | omega | exact Nat.le_refl _⟩, ⟨by (with_reducible repeat (first | refine bkN ?_ _ | refine bkD ?_ | refine bkA ?_ _)); exact BK176.out⟩, ⟨by repeat (first | (with_reducible first | exact HB.out | apply blA | apply blN | apply blD | refine blS ?_ GE176.out) | exact HB.out)⟩⟩
  rw [if_neg c8] at H
  have c8b0 : decide (32 < (l0_2.length : Int)) = false := decide_eq_false c8
  have c8b1 : decide (32 < l0_2.length) = false := decide_eq_false (by omega)
  clear c8
  by_cases c10 : a0_3 = 2
  ·rw [if_pos c10] at H
   have c10b0 : (a0_3 == 2) = true := beq_iff_eq.mpr c10
   have c10b1 : (a0_3 != 2) = false := bne_eq_false_iff_eq.mpr c10
   clear c10
   replace H := Option.bind_eq_some_iff.mp H
   obtain ⟨t177, A110, H⟩ := H
   replace H : (hopmeshref05_Check.j0 k (l0_0.length : Int) (!t177) l0_0 l0_1 l0_2 a0_3 a0_4 a0_5) = some r := H
   have A11 := Aside0.mk A110
   clear A110
   have H' := Aside0.mk H
   clear H
   have hcz12_0 : w3.cell? ⟨gb176, 0, none⟩ = some (.slice A0_0 l0_0.length c0_0) := (bkC BK176.out 0).trans rfl
   have hcz12_1 : w3.cell? ⟨gb176, 1, none⟩ = some (.slice A0_1 l0_1.length c0_1) := (bkC BK176.out 1).trans rfl
   have hcz12_2 : w3.cell? ⟨gb176, 2, none⟩ = some (.slice A0_2 l0_2.length c0_2) := (bkC BK176.out 2).trans rfl
   have hcz12_3 : w3.cell? ⟨gb176, 3, none⟩ = some (.int .i64 a0_3) := (bkC BK176.out 3).trans rfl
   have hcz12_4 : w3.cell? ⟨gb176, 4, none⟩ = some (.int .i64 a0_4) := (bkC BK176.out 4).trans rfl
   have hcz12_5 : w3.cell? ⟨gb176, 5, none⟩ = some (.int .i64 a0_5) := (bkC BK176.out 5).trans rfl
   have hfz12_0 := bkF BK176.out 0
   have hfz12_1 := bkF BK176.out 1
   have hfz12_2 := bkF BK176.out 2
   have hfz12_3 := bkF BK176.out 3
   have hfz12_4 := bkF BK176.out 4
   have hfz12_5 := bkF BK176.out 5
   go_wp2_with (first | (go_at_call 60; (with_reducible refine (hopmeshref04_Right.calls a0_5 a0_4 t177 _ A11.out).mono ?_); rintro e w' ⟨rfl, ⟨nd, rfl⟩⟩))
   go_meet
   case rel => exact ⟨_, (!t177), (by first | rfl | (simp; done) | (simp [*]; done)), H', ⟨by first | omega | exact Nat.le_refl _⟩, ⟨by (with_reducible repeat (first | refine bkN ?_ _ | refine bkD ?_ | refine bkA ?_ _)); exact BK176.out⟩, ⟨by repeat (first | (with_reducible first | exact HB.out | apply blA | apply blN | apply blD | refine blS ?_ GE176.out) | exact HB.out)⟩⟩
  rw [if_neg c10] at H
  have c10b0 : (a0_3 == 2) = false := beq_eq_false_iff_ne.mpr c10
  have c10b1 : (a0_3 != 2) = true := bne_iff_ne.mpr c10
  by_cases c13 : a0_3 = 4
  rotate_left
  ·rw [if_neg c13] at H
   have c13b0 : (a0_3 == 4) = false := beq_eq_false_iff_ne.mpr c13
   have c13b1 : (a0_3 != 4) = true := bne_iff_ne.mpr c13
   have H' := Aside0.mk H
   clear H
   have hcz16_0 : w3.cell? ⟨gb176, 0, none⟩ = some (.slice A0_0 l0_0.length c0_0) := (bkC BK176.out 0).trans rfl
   have hcz16_1 : w3.cell? ⟨gb176, 1, none⟩ = some (.slice A0_1 l0_1.length c0_1) := (bkC BK176.out 1).trans rfl
   have hcz16_2 : w3.cell? ⟨gb176, 2, none⟩ = some (.slice A0_2 l0_2.length c0_2) := (bkC BK176.out 2).trans rfl
   have hcz16_3 : w3.cell? ⟨gb176, 3, none⟩ = some (.int .i64 a0_3) := (bkC BK176.out 3).trans rfl
   have hcz16_4 : w3.cell? ⟨gb176, 4, none⟩ = some (.int .i64 a0_4) := (bkC BK176.out 4).trans rfl
   have hcz16_5 : w3.cell? ⟨gb176, 5, none⟩ = some (.int .i64 a0_5) := (bkC BK176.out 5).trans rfl
   have hfz16_0 := bkF BK176.out 0
   have hfz16_1 := bkF BK176.out 1
   have hfz16_2 := bkF BK176.out 2
   have hfz16_3 := bkF BK176.out 3
   have hfz16_4 := bkF BK176.out 4
   have hfz16_5 := bkF BK176.out 5
   go_wp2
   go_meet
   case rel => exact ⟨_, (true), (by first | rfl | (simp; done) | (simp [*]; done)), H', ⟨by first | omega | exact Nat.le_refl _⟩, ⟨by (with_reducible repeat (first | refine bkN ?_ _ | refine bkD ?_ | refine bkA ?_ _)); exact BK176.out⟩, ⟨by repeat (first | (with_reducible first | exact HB.out | apply blA | apply blN | apply blD | refine blS ?_ GE176.out) | exact HB.out)⟩⟩
  rw [if_pos c13] at H
  have c13b0 : (a0_3 == 4) = true := beq_iff_eq.mpr c13
  have c13b1 : (a0_3 != 4) = false := bne_eq_false_iff_eq.mpr c13
  clear c13
  replace H := Option.bind_eq_some_iff.mp H
  obtain ⟨t178, A140, H⟩ := H
  replace H : (hopmeshref05_Check.j0 k (l0_0.length : Int) (!t178) l0_0 l0_1 l0_2 a0_3 a0_4 a0_5) = some r := H
  have A14 := Aside0.mk A140
  clear A140
  have H' := Aside0.mk H
  clear H
  have hcz15_0 : w3.cell? ⟨gb176, 0, none⟩ = some (.slice A0_0 l0_0.length c0_0) := (bkC BK176.out 0).trans rfl
  have hcz15_1 : w3.cell? ⟨gb176, 1, none⟩ = some (.slice A0_1 l0_1.length c0_1) := (bkC BK176.out 1).trans rfl
  have hcz15_2 : w3.cell? ⟨gb176, 2, none⟩ = some (.slice A0_2 l0_2.length c0_2) := (bkC BK176.out 2).trans rfl
  have hcz15_3 : w3.cell? ⟨gb176, 3, none⟩ = some (.int .i64 a0_3) := (bkC BK176.out 3).trans rfl
  have hcz15_4 : w3.cell? ⟨gb176, 4, none⟩ = some (.int .i64 a0_4) := (bkC BK176.out 4).trans rfl
  have hcz15_5 : w3.cell? ⟨gb176, 5, none⟩ = some (.int .i64 a0_5) := (bkC BK176.out 5).trans rfl
  have hfz15_0 := bkF BK176.out 0
  have hfz15_1 := bkF BK176.out 1
  have hfz15_2 := bkF BK176.out 2
  have hfz15_3 := bkF BK176.out 3
  have hfz15_4 := bkF BK176.out 4
  have hfz15_5 := bkF BK176.out 5
  go_wp2_with (first | (go_at_call 60; (with_reducible refine (hopmeshref04_Right.calls a0_5 a0_4 t178 _ A14.out).mono ?_); rintro e w' ⟨rfl, ⟨nd, rfl⟩⟩))
  go_meet
  case rel => exact ⟨_, (!t178), (by first | rfl | (simp; done) | (simp [*]; done)), H', ⟨by first | omega | exact Nat.le_refl _⟩, ⟨by (with_reducible repeat (first | refine bkN ?_ _ | refine bkD ?_ | refine bkA ?_ _)); exact BK176.out⟩, ⟨by repeat (first | (with_reducible first | exact HB.out | apply blA | apply blN | apply blD | refine blS ?_ GE176.out) | exact HB.out)⟩⟩
 case rest =>
  clear HC2
  try clear c1
  try clear p2
  try clear c3
  try clear c5
  try clear c5b0
  try clear c5b1
  try clear c6
  try clear c6b0
  try clear c6b1
  try clear c7
  try clear c7b0
  try clear c7b1
  try clear c7b2
  try clear c8
  try clear c8b0
  try clear c8b1
  try clear c10
  try clear c10b0
  try clear c10b1
  try clear c13
  try clear c13b0
  try clear c13b1
  try clear hcz12_0
  try clear hcz12_1
  try clear hcz12_2
  try clear hcz12_3
  try clear hcz12_4
  try clear hcz12_5
  try clear hcz15_0
  try clear hcz15_1
  try clear hcz15_2
  try clear hcz15_3
  try clear hcz15_4
  try clear hcz15_5
  try clear hcz16_0
  try clear hcz16_1
  try clear hcz16_2
  try clear hcz16_3
  try clear hcz16_4
  try clear hcz16_5
  try clear hcz17_0
  try clear hcz17_1
  try clear hcz17_2
  try clear hcz17_3
  try clear hcz17_4
  try clear hcz17_5
  try clear hcz4_0
  try clear hcz4_1
  try clear hcz4_2
  try clear hcz4_3
  try clear hcz4_4
  try clear hcz4_5
  try clear hcz9_0
  try clear hcz9_1
  try clear hcz9_2
  try clear hcz9_3
  try clear hcz9_4
  try clear hcz9_5
  try clear hfz12_0
  try clear hfz12_1
  try clear hfz12_2
  try clear hfz12_3
  try clear hfz12_4
  try clear hfz12_5
  try clear hfz15_0
  try clear hfz15_1
  try clear hfz15_2
  try clear hfz15_3
  try clear hfz15_4
  try clear hfz15_5
  try clear hfz16_0
  try clear hfz16_1
  try clear hfz16_2
  try clear hfz16_3
  try clear hfz16_4
  try clear hfz16_5
  try clear hfz17_0
  try clear hfz17_1
  try clear hfz17_2
  try clear hfz17_3
  try clear hfz17_4
  try clear hfz17_5
  try clear hfz4_0
  try clear hfz4_1
  try clear hfz4_2
  try clear hfz4_3
  try clear hfz4_4
  try clear hfz4_5
  try clear hfz9_0
  try clear hfz9_1
  try clear hfz9_2
  try clear hfz9_3
  try clear hfz9_4
  try clear hfz9_5
  obtain ⟨kq, x46_1, rfl, HA, HJ1, BK176, HB⟩ := hcut
  cases kq with
  | zero => exact absurd HA.out (by simp [hopmeshref05_Check.j0])
  | succ kj1 =>
   have H := HA.out
   clear HA
   simp only [hopmeshref05_Check.j0] at H
   by_cases c18 : x46_1 = true
   ·subst c18
    have H1 : (some 1) = some r := by rw [if_pos rfl] at H; exact H
    clear H
    have H := H1
    clear H1
    obtain rfl := Option.some.inj H
    go_wp2
    go_ret
    exact ⟨by first | rfl | (simp [errW_none, errW_some] <;> rfl) | (simp [*, errW_none, errW_some] <;> rfl), by repeat (first | (with_reducible first | exact HB.out | apply blA | apply blN | apply blD | refine blS ?_ GE176.out) | exact HB.out)⟩
   replace c18 := Bool.eq_false_iff.mpr c18
   subst c18
   have H1 : (hopmeshref05_Check.l0 kj1 (l0_0.length : Int) 0 l0_0 l0_1 l0_2 a0_3 a0_4 a0_5) = some r := by rw [if_neg (show ¬ (false = true) by decide)] at H; exact H
   clear H
   have H := H1
   clear H1
   have H' := Aside0.mk H
   clear H
   go_wp2
   go_loopg [4] kj1 (fun kq v4 w' => ∃ (x4_2 : Int), v4 = .int .i64 x4_2 ∧ Aside0 (hopmeshref05_Check.l0 kq (l0_0.length : Int) x4_2 l0_0 l0_1 l0_2 a0_3 a0_4 a0_5 = some r) ∧ Aside0 (kq ≤ kj1) ∧ Aside0 (w'.heap[gb176]? = some (.cells #[(.slice A0_0 l0_0.length c0_0), (.slice A0_1 l0_1.length c0_1), (.slice A0_2 l0_2.length c0_2), .int .i64 a0_3, .int .i64 a0_4, .int .i64 a0_5] 26 (0, 0))) ∧ Aside0 (Below w.heap.size w w'))
   case atStart => exact ⟨(0), (by first | rfl | (simp; done) | (simp [*]; done)), H', ⟨Nat.le_refl _⟩, ⟨by (with_reducible repeat (first | refine bkN ?_ _ | refine bkD ?_ | refine bkA ?_ _)); exact BK176.out⟩, ⟨by repeat (first | (with_reducible first | exact HB.out | apply blA | apply blN | apply blD | refine blS ?_ GE176.out) | exact HB.out)⟩⟩
   case round =>
    clear H'
    try clear c1
    try clear p2
    try clear c3
    try clear c5
    try clear c5b0
    try clear c5b1
    try clear c6
    try clear c6b0
    try clear c6b1
    try clear c7
    try clear c7b0
    try clear c7b1
    try clear c7b2
    try clear c8
    try clear c8b0
    try clear c8b1
    try clear c10
    try clear c10b0
    try clear c10b1
    try clear c13
    try clear c13b0
    try clear c13b1
    try clear c18
    try clear hcz12_0
    try clear hcz12_1
    try clear hcz12_2
    try clear hcz12_3
    try clear hcz12_4
    try clear hcz12_5
    try clear hcz15_0
    try clear hcz15_1
    try clear hcz15_2
    try clear hcz15_3
    try clear hcz15_4
    try clear hcz15_5
    try clear hcz16_0
    try clear hcz16_1
    try clear hcz16_2
    try clear hcz16_3
    try clear hcz16_4
    try clear hcz16_5
    try clear hcz17_0
    try clear hcz17_1
    try clear hcz17_2
    try clear hcz17_3
    try clear hcz17_4
    try clear hcz17_5
    try clear hcz4_0
    try clear hcz4_1
    try clear hcz4_2
    try clear hcz4_3
    try clear hcz4_4
    try clear hcz4_5
    try clear hcz9_0
    try clear hcz9_1
    try clear hcz9_2
    try clear hcz9_3
    try clear hcz9_4
    try clear hcz9_5
    try clear hfz12_0
    try clear hfz12_1
    try clear hfz12_2
    try clear hfz12_3
    try clear hfz12_4
    try clear hfz12_5
    try clear hfz15_0
    try clear hfz15_1
    try clear hfz15_2
    try clear hfz15_3
    try clear hfz15_4
    try clear hfz15_5
    try clear hfz16_0
    try clear hfz16_1
    try clear hfz16_2
    try clear hfz16_3
    try clear hfz16_4
    try clear hfz16_5
    try clear hfz17_0
    try clear hfz17_1
    try clear hfz17_2
    try clear hfz17_3
    try clear hfz17_4
    try clear hfz17_5
    try clear hfz4_0
    try clear hfz4_1
    try clear hfz4_2
    try clear hfz4_3
    try clear hfz4_4
    try clear hfz4_5
    try clear hfz9_0
    try clear hfz9_1
    try clear hfz9_2
    try clear hfz9_3
    try clear hfz9_4
    try clear hfz9_5
    try clear p2
    obtain ⟨x4_2, rfl, HA, HK2, BK176, HB⟩ := hrel
    cases gk with
    | zero => exact absurd HA.out (by simp [hopmeshref05_Check.l0])
    | succ k2 =>
     have H := HA.out
     clear HA
     simp only [hopmeshref05_Check.l0] at H
     by_cases c19 : x4_2 < (l0_0.length : Int)
     ·rw [if_pos c19] at H
      have c19b0 : decide (x4_2 < (l0_0.length : Int)) = true := decide_eq_true c19
      clear c19
      by_cases c20 : 0 ≤ x4_2
      rotate_left
      ·rw [if_neg c20] at H
       exact absurd H (by simp)
      rw [if_pos c20] at H
      have c20b0 : decide (0 ≤ x4_2) = true := decide_eq_true c20
      clear c20
      by_cases c21 : x4_2 < (l0_0.length : Int)
      rotate_left
      ·rw [if_neg c21] at H
       exact absurd H (by simp)
      rw [if_pos c21] at H
      have c21b0 : decide (x4_2 < (l0_0.length : Int)) = true := decide_eq_true c21
      clear c21
      replace H := Option.bind_eq_some_iff.mp H
      obtain ⟨t180, A220, H⟩ := H
      replace H : (if t180 = true then (if x4_2 < (l0_1.length : Int) then ((hopmeshref04_Is.f (rd l0_1 x4_2)).bind fun t182 => (if t182 = true then (hopmeshref05_Check.l0 k2 (l0_0.length : Int) (wrap64 (x4_2 + 1)) l0_0 l0_1 l0_2 a0_3 a0_4 a0_5) else (some 1))) else (none)) else (some 1)) = some r := H
      have A22 := Aside0.mk A220
      clear A220
      by_cases c23 : t180 = true
      rotate_left
      ·replace c23 := Bool.eq_false_iff.mpr c23
       subst c23
       have H1 : (some 1) = some r := by rw [if_neg (show ¬ (false = true) by decide)] at H; exact H
       clear H
       have H := H1
       clear H1
       obtain rfl := Option.some.inj H
       have hcz33_0 : wr.cell? ⟨gb176, 0, none⟩ = some (.slice A0_0 l0_0.length c0_0) := (bkC BK176.out 0).trans rfl
       have hcz33_1 : wr.cell? ⟨gb176, 1, none⟩ = some (.slice A0_1 l0_1.length c0_1) := (bkC BK176.out 1).trans rfl
       have hcz33_2 : wr.cell? ⟨gb176, 2, none⟩ = some (.slice A0_2 l0_2.length c0_2) := (bkC BK176.out 2).trans rfl
       have hcz33_3 : wr.cell? ⟨gb176, 3, none⟩ = some (.int .i64 a0_3) := (bkC BK176.out 3).trans rfl
       have hcz33_4 : wr.cell? ⟨gb176, 4, none⟩ = some (.int .i64 a0_4) := (bkC BK176.out 4).trans rfl
       have hcz33_5 : wr.cell? ⟨gb176, 5, none⟩ = some (.int .i64 a0_5) := (bkC BK176.out 5).trans rfl
       have hfz33_0 := bkF BK176.out 0
       have hfz33_1 := bkF BK176.out 1
       have hfz33_2 := bkF BK176.out 2
       have hfz33_3 := bkF BK176.out 3
       have hfz33_4 := bkF BK176.out 4
       have hfz33_5 := bkF BK176.out 5
       have p179 : 0 ≤ (x4_2 : Int) := of_decide_eq_true (by first | (with_reducible assumption) | assumption)
       have q179 : x4_2 < (l0_0.length : Int) := of_decide_eq_true (by first | (with_reducible assumption) | assumption)
       obtain ⟨ad179, e179, hx179_0, hx179_1⟩ := at_T28 HR0_0.out x4_2 p179 q179
       cases e179
       replace hx179_0 := (HB.out.cell (World.block_lt_of_cell? w _ hx179_0)).trans hx179_0
       replace hx179_1 := (HB.out.cell (World.block_lt_of_cell? w _ hx179_1)).trans hx179_1
       replace p179 := eq_true p179
       replace q179 := eq_true q179
       go_wp2_with (first | ((with_reducible refine gate_callee (f := 39) rfl ?_); refine goesL_ (some 57) rfl rfl Try.func39 (by kernel_rfl) rfl #[.agg #[.int .i64 ((rd_T28 l0_0 x4_2).f0), .int .i64 ((rd_T28 l0_0 x4_2).f1)]] rfl (by (try simp only [List.map_toArray, List.map_cons, List.map_nil]); first | done | rfl | (simp only [List.length_drop, List.length_take]; rfl)) ?_; (with_reducible refine (hopmeshref05_Point.calls ((rd_T28 l0_0 x4_2).f0) ((rd_T28 l0_0 x4_2).f1) false _ A22.out).mono ?_); rintro e w34 ⟨rfl, hb⟩; refine ⟨_, rfl, ?_⟩; have n0_ := Aside0.mk (bkB (g := gb176) (o := .cells #[.slice (some ad179) l0_0.length c0_0, .slice A0_1 l0_1.length c0_1, .slice A0_2 l0_2.length c0_2, .int .i64 a0_3, .int .i64 a0_4, .int .i64 a0_5] 26 (0, 0)) (by (with_reducible repeat (first | refine bkN ?_ _ | refine bkD ?_ | refine bkA ?_ _)); exact BK176.out) hb); have n1_ := Aside0.mk (below_step (by repeat (first | (with_reducible first | exact HB.out | apply blA | apply blN | apply blD | refine blS ?_ GE176.out) | exact HB.out)) hb); clear BK176; clear HB; have BK176 := n0_; have HB := n1_; clear n0_ n1_; (try clear hb); (try clear hb2); (try clear hk); (try clear hi)))
       go_ret
       exact ⟨by first | rfl | (simp [errW_none, errW_some] <;> rfl) | (simp [*, errW_none, errW_some] <;> rfl), by repeat (first | (with_reducible first | exact HB.out | apply blA | apply blN | apply blD | refine blS ?_ GE176.out) | exact HB.out)⟩
      subst c23
      have H1 : (if x4_2 < (l0_1.length : Int) then ((hopmeshref04_Is.f (rd l0_1 x4_2)).bind fun t182 => (if t182 = true then (hopmeshref05_Check.l0 k2 (l0_0.length : Int) (wrap64 (x4_2 + 1)) l0_0 l0_1 l0_2 a0_3 a0_4 a0_5) else (some 1))) else (none)) = some r := by rw [if_pos rfl] at H; exact H
      clear H
      have H := H1
      clear H1
      by_cases c24 : x4_2 < (l0_1.length : Int)
      rotate_left
      ·rw [if_neg c24] at H
       exact absurd H (by simp)
      rw [if_pos c24] at H
      have c24b0 : decide (x4_2 < (l0_1.length : Int)) = true := decide_eq_true c24
      clear c24
      replace H := Option.bind_eq_some_iff.mp H
      obtain ⟨t182, A250, H⟩ := H
      replace H : (if t182 = true then (hopmeshref05_Check.l0 k2 (l0_0.length : Int) (wrap64 (x4_2 + 1)) l0_0 l0_1 l0_2 a0_3 a0_4 a0_5) else (some 1)) = some r := H
      have A25 := Aside0.mk A250
      clear A250
      by_cases c26 : t182 = true
      rotate_left
      ·replace c26 := Bool.eq_false_iff.mpr c26
       subst c26
       have H1 : (some 1) = some r := by rw [if_neg (show ¬ (false = true) by decide)] at H; exact H
       clear H
       have H := H1
       clear H1
       obtain rfl := Option.some.inj H
       have hcz30_0 : wr.cell? ⟨gb176, 0, none⟩ = some (.slice A0_0 l0_0.length c0_0) := (bkC BK176.out 0).trans rfl
       have hcz30_1 : wr.cell? ⟨gb176, 1, none⟩ = some (.slice A0_1 l0_1.length c0_1) := (bkC BK176.out 1).trans rfl
       have hcz30_2 : wr.cell? ⟨gb176, 2, none⟩ = some (.slice A0_2 l0_2.length c0_2) := (bkC BK176.out 2).trans rfl
       have hcz30_3 : wr.cell? ⟨gb176, 3, none⟩ = some (.int .i64 a0_3) := (bkC BK176.out 3).trans rfl
       have hcz30_4 : wr.cell? ⟨gb176, 4, none⟩ = some (.int .i64 a0_4) := (bkC BK176.out 4).trans rfl
       have hcz30_5 : wr.cell? ⟨gb176, 5, none⟩ = some (.int .i64 a0_5) := (bkC BK176.out 5).trans rfl
       have hfz30_0 := bkF BK176.out 0
       have hfz30_1 := bkF BK176.out 1
       have hfz30_2 := bkF BK176.out 2
       have hfz30_3 := bkF BK176.out 3
       have hfz30_4 := bkF BK176.out 4
       have hfz30_5 := bkF BK176.out 5
       have p179 : 0 ≤ (x4_2 : Int) := of_decide_eq_true (by first | (with_reducible assumption) | assumption)
       have q179 : x4_2 < (l0_0.length : Int) := of_decide_eq_true (by first | (with_reducible assumption) | assumption)
       obtain ⟨ad179, e179, hx179_0, hx179_1⟩ := at_T28 HR0_0.out x4_2 p179 q179
       cases e179
       replace hx179_0 := (HB.out.cell (World.block_lt_of_cell? w _ hx179_0)).trans hx179_0
       replace hx179_1 := (HB.out.cell (World.block_lt_of_cell? w _ hx179_1)).trans hx179_1
       replace p179 := eq_true p179
       replace q179 := eq_true q179
       go_wp2_with (first | ((with_reducible refine gate_callee (f := 39) rfl ?_); refine goesL_ (some 57) rfl rfl Try.func39 (by kernel_rfl) rfl #[.agg #[.int .i64 ((rd_T28 l0_0 x4_2).f0), .int .i64 ((rd_T28 l0_0 x4_2).f1)]] rfl (by (try simp only [List.map_toArray, List.map_cons, List.map_nil]); first | done | rfl | (simp only [List.length_drop, List.length_take]; rfl)) ?_; (with_reducible refine (hopmeshref05_Point.calls ((rd_T28 l0_0 x4_2).f0) ((rd_T28 l0_0 x4_2).f1) true _ A22.out).mono ?_); rintro e w31 ⟨rfl, hb⟩; refine ⟨_, rfl, ?_⟩; have n0_ := Aside0.mk (bkB (g := gb176) (o := .cells #[.slice (some ad179) l0_0.length c0_0, .slice A0_1 l0_1.length c0_1, .slice A0_2 l0_2.length c0_2, .int .i64 a0_3, .int .i64 a0_4, .int .i64 a0_5] 26 (0, 0)) (by (with_reducible repeat (first | refine bkN ?_ _ | refine bkD ?_ | refine bkA ?_ _)); exact BK176.out) hb); have n1_ := Aside0.mk (below_step (by repeat (first | (with_reducible first | exact HB.out | apply blA | apply blN | apply blD | refine blS ?_ GE176.out) | exact HB.out)) hb); clear BK176; clear HB; have BK176 := n0_; have HB := n1_; clear n0_ n1_; (try clear hb); (try clear hb2); (try clear hk); (try clear hi); have hcz32_0 : w31.cell? ⟨gb176, 0, none⟩ = some (.slice (some ad179) l0_0.length c0_0) := (bkC BK176.out 0).trans rfl; have hcz32_1 : w31.cell? ⟨gb176, 1, none⟩ = some (.slice A0_1 l0_1.length c0_1) := (bkC BK176.out 1).trans rfl; have hcz32_2 : w31.cell? ⟨gb176, 2, none⟩ = some (.slice A0_2 l0_2.length c0_2) := (bkC BK176.out 2).trans rfl; have hcz32_3 : w31.cell? ⟨gb176, 3, none⟩ = some (.int .i64 a0_3) := (bkC BK176.out 3).trans rfl; have hcz32_4 : w31.cell? ⟨gb176, 4, none⟩ = some (.int .i64 a0_4) := (bkC BK176.out 4).trans rfl; have hcz32_5 : w31.cell? ⟨gb176, 5, none⟩ = some (.int .i64 a0_5) := (bkC BK176.out 5).trans rfl; have hfz32_0 := bkF BK176.out 0; have hfz32_1 := bkF BK176.out 1; have hfz32_2 := bkF BK176.out 2; have hfz32_3 := bkF BK176.out 3; have hfz32_4 := bkF BK176.out 4; have hfz32_5 := bkF BK176.out 5; have p181 : 0 ≤ (x4_2 : Int) := of_decide_eq_true (by first | (with_reducible assumption) | assumption); have q181 : x4_2 < (l0_1.length : Int) := of_decide_eq_true (by first | (with_reducible assumption) | assumption); obtain ⟨ad181, e181, hx181_0⟩ := Kd.at_int HR0_1.out x4_2 p181 q181; cases e181; replace hx181_0 := (HB.out.cell (World.block_lt_of_cell? w _ hx181_0)).trans hx181_0; replace p181 := eq_true p181; replace q181 := eq_true q181) | (go_at_call 58; (with_reducible refine (hopmeshref04_Is.calls (rd l0_1 x4_2) false _ A25.out).mono ?_); rintro e w' ⟨rfl, ⟨nd, rfl⟩⟩))
       go_ret
       exact ⟨by first | rfl | (simp [errW_none, errW_some] <;> rfl) | (simp [*, errW_none, errW_some] <;> rfl), by repeat (first | (with_reducible first | exact HB.out | apply blA | apply blN | apply blD | refine blS ?_ GE176.out) | exact HB.out)⟩
      subst c26
      have H1 : (hopmeshref05_Check.l0 k2 (l0_0.length : Int) (wrap64 (x4_2 + 1)) l0_0 l0_1 l0_2 a0_3 a0_4 a0_5) = some r := by rw [if_pos rfl] at H; exact H
      clear H
      have H := H1
      clear H1
      have H' := Aside0.mk H
      clear H
      have hcz27_0 : wr.cell? ⟨gb176, 0, none⟩ = some (.slice A0_0 l0_0.length c0_0) := (bkC BK176.out 0).trans rfl
      have hcz27_1 : wr.cell? ⟨gb176, 1, none⟩ = some (.slice A0_1 l0_1.length c0_1) := (bkC BK176.out 1).trans rfl
      have hcz27_2 : wr.cell? ⟨gb176, 2, none⟩ = some (.slice A0_2 l0_2.length c0_2) := (bkC BK176.out 2).trans rfl
      have hcz27_3 : wr.cell? ⟨gb176, 3, none⟩ = some (.int .i64 a0_3) := (bkC BK176.out 3).trans rfl
      have hcz27_4 : wr.cell? ⟨gb176, 4, none⟩ = some (.int .i64 a0_4) := (bkC BK176.out 4).trans rfl
      have hcz27_5 : wr.cell? ⟨gb176, 5, none⟩ = some (.int .i64 a0_5) := (bkC BK176.out 5).trans rfl
      have hfz27_0 := bkF BK176.out 0
      have hfz27_1 := bkF BK176.out 1
      have hfz27_2 := bkF BK176.out 2
      have hfz27_3 := bkF BK176.out 3
      have hfz27_4 := bkF BK176.out 4
      have hfz27_5 := bkF BK176.out 5
      have p179 : 0 ≤ (x4_2 : Int) := of_decide_eq_true (by first | (with_reducible assumption) | assumption)
      have q179 : x4_2 < (l0_0.length : Int) := of_decide_eq_true (by first | (with_reducible assumption) | assumption)
      obtain ⟨ad179, e179, hx179_0, hx179_1⟩ := at_T28 HR0_0.out x4_2 p179 q179
      cases e179
      replace hx179_0 := (HB.out.cell (World.block_lt_of_cell? w _ hx179_0)).trans hx179_0
      replace hx179_1 := (HB.out.cell (World.block_lt_of_cell? w _ hx179_1)).trans hx179_1
      replace p179 := eq_true p179
      replace q179 := eq_true q179
      go_wp2_with (first | ((with_reducible refine gate_callee (f := 39) rfl ?_); refine goesL_ (some 57) rfl rfl Try.func39 (by kernel_rfl) rfl #[.agg #[.int .i64 ((rd_T28 l0_0 x4_2).f0), .int .i64 ((rd_T28 l0_0 x4_2).f1)]] rfl (by (try simp only [List.map_toArray, List.map_cons, List.map_nil]); first | done | rfl | (simp only [List.length_drop, List.length_take]; rfl)) ?_; (with_reducible refine (hopmeshref05_Point.calls ((rd_T28 l0_0 x4_2).f0) ((rd_T28 l0_0 x4_2).f1) true _ A22.out).mono ?_); rintro e w28 ⟨rfl, hb⟩; refine ⟨_, rfl, ?_⟩; have n0_ := Aside0.mk (bkB (g := gb176) (o := .cells #[.slice (some ad179) l0_0.length c0_0, .slice A0_1 l0_1.length c0_1, .slice A0_2 l0_2.length c0_2, .int .i64 a0_3, .int .i64 a0_4, .int .i64 a0_5] 26 (0, 0)) (by (with_reducible repeat (first | refine bkN ?_ _ | refine bkD ?_ | refine bkA ?_ _)); exact BK176.out) hb); have n1_ := Aside0.mk (below_step (by repeat (first | (with_reducible first | exact HB.out | apply blA | apply blN | apply blD | refine blS ?_ GE176.out) | exact HB.out)) hb); clear BK176; clear HB; have BK176 := n0_; have HB := n1_; clear n0_ n1_; (try clear hb); (try clear hb2); (try clear hk); (try clear hi); have hcz29_0 : w28.cell? ⟨gb176, 0, none⟩ = some (.slice (some ad179) l0_0.length c0_0) := (bkC BK176.out 0).trans rfl; have hcz29_1 : w28.cell? ⟨gb176, 1, none⟩ = some (.slice A0_1 l0_1.length c0_1) := (bkC BK176.out 1).trans rfl; have hcz29_2 : w28.cell? ⟨gb176, 2, none⟩ = some (.slice A0_2 l0_2.length c0_2) := (bkC BK176.out 2).trans rfl; have hcz29_3 : w28.cell? ⟨gb176, 3, none⟩ = some (.int .i64 a0_3) := (bkC BK176.out 3).trans rfl; have hcz29_4 : w28.cell? ⟨gb176, 4, none⟩ = some (.int .i64 a0_4) := (bkC BK176.out 4).trans rfl; have hcz29_5 : w28.cell? ⟨gb176, 5, none⟩ = some (.int .i64 a0_5) := (bkC BK176.out 5).trans rfl; have hfz29_0 := bkF BK176.out 0; have hfz29_1 := bkF BK176.out 1; have hfz29_2 := bkF BK176.out 2; have hfz29_3 := bkF BK176.out 3; have hfz29_4 := bkF BK176.out 4; have hfz29_5 := bkF BK176.out 5; have p181 : 0 ≤ (x4_2 : Int) := of_decide_eq_true (by first | (with_reducible assumption) | assumption); have q181 : x4_2 < (l0_1.length : Int) := of_decide_eq_true (by first | (with_reducible assumption) | assumption); obtain ⟨ad181, e181, hx181_0⟩ := Kd.at_int HR0_1.out x4_2 p181 q181; cases e181; replace hx181_0 := (HB.out.cell (World.block_lt_of_cell? w _ hx181_0)).trans hx181_0; replace p181 := eq_true p181; replace q181 := eq_true q181) | (go_at_call 58; (with_reducible refine (hopmeshref04_Is.calls (rd l0_1 x4_2) true _ A25.out).mono ?_); rintro e w' ⟨rfl, ⟨nd, rfl⟩⟩))
      go_roundg k2
      case measure => have := HJ1.out; have := HK2.out; omega
      case rel => exact ⟨(wrap64 (x4_2 + 1)), (by first | rfl | (simp; done) | (simp [*]; done)), H', ⟨by have := HJ1.out; have := HK2.out; omega⟩, ⟨by (with_reducible repeat (first | refine bkN ?_ _ | refine bkD ?_ | refine bkA ?_ _)); exact BK176.out⟩, ⟨by repeat (first | (with_reducible first | exact HB.out | apply blA | apply blN | apply blD | refine blS ?_ GE176.out) | exact HB.out)⟩⟩
     rw [if_neg c19] at H
     have c19b0 : decide (x4_2 < (l0_0.length : Int)) = false := decide_eq_false c19
     clear c19
     have H' := Aside0.mk H
     clear H
     go_wp2
     go_loopg [5] k2 (fun kq v5 w' => ∃ (x5_3 : Int), v5 = .int .i64 x5_3 ∧ Aside0 (hopmeshref05_Check.l1 kq x5_3 l0_0 l0_1 l0_2 a0_3 a0_4 a0_5 = some r) ∧ Aside0 (kq ≤ k2) ∧ Aside0 (w'.heap[gb176]? = some (.cells #[(.slice A0_0 l0_0.length c0_0), (.slice A0_1 l0_1.length c0_1), (.slice A0_2 l0_2.length c0_2), .int .i64 a0_3, .int .i64 a0_4, .int .i64 a0_5] 26 (0, 0))) ∧ Aside0 (Below w.heap.size w w'))
     case atStart => exact ⟨(0), (by first | rfl | (simp; done) | (simp [*]; done)), H', ⟨Nat.le_refl _⟩, ⟨by (with_reducible repeat (first | refine bkN ?_ _ | refine bkD ?_ | refine bkA ?_ _)); exact BK176.out⟩, ⟨by repeat (first | (with_reducible first | exact HB.out | apply blA | apply blN | apply blD | refine blS ?_ GE176.out) | exact HB.out)⟩⟩
     case round =>
      clear H'
      try clear c1
      try clear p1
      try clear q1
      try clear hx1
      try clear c2
      try clear p2
      try clear c3
      try clear c5
      try clear c5b0
      try clear c5b1
      try clear c6
      try clear c6b0
      try clear c6b1
      try clear p6
      try clear c7
      try clear c7b0
      try clear c7b1
      try clear c7b2
      try clear c8
      try clear c8b0
      try clear c8b1
      try clear c10
      try clear c10b0
      try clear c10b1
      try clear c13
      try clear c13b0
      try clear c13b1
      try clear p17
      try clear q17
      try clear hx17
      try clear c18
      try clear p18
      try clear q18
      try clear hx18
      try clear c19
      try clear c19b0
      try clear c20
      try clear c20b0
      try clear c21
      try clear c21b0
      try clear c23
      try clear c24
      try clear c24b0
      try clear c26
      try clear hcz12_0
      try clear hcz12_1
      try clear hcz12_2
      try clear hcz12_3
      try clear hcz12_4
      try clear hcz12_5
      try clear hcz15_0
      try clear hcz15_1
      try clear hcz15_2
      try clear hcz15_3
      try clear hcz15_4
      try clear hcz15_5
      try clear hcz16_0
      try clear hcz16_1
      try clear hcz16_2
      try clear hcz16_3
      try clear hcz16_4
      try clear hcz16_5
      try clear hcz17_0
      try clear hcz17_1
      try clear hcz17_2
      try clear hcz17_3
      try clear hcz17_4
      try clear hcz17_5
      try clear hcz27_0
      try clear hcz27_1
      try clear hcz27_2
      try clear hcz27_3
      try clear hcz27_4
      try clear hcz27_5
      try clear hcz29_0
      try clear hcz29_1
      try clear hcz29_2
      try clear hcz29_3
      try clear hcz29_4
      try clear hcz29_5
      try clear hcz30_0
      try clear hcz30_1
      try clear hcz30_2
      try clear hcz30_3
      try clear hcz30_4
      try clear hcz30_5
      try clear hcz32_0
      try clear hcz32_1
      try clear hcz32_2
      try clear hcz32_3
      try clear hcz32_4
      try clear hcz32_5
      try clear hcz33_0
      try clear hcz33_1
      try clear hcz33_2
      try clear hcz33_3
      try clear hcz33_4
      try clear hcz33_5
      try clear hcz4_0
      try clear hcz4_1
      try clear hcz4_2
      try clear hcz4_3
      try clear hcz4_4
      try clear hcz4_5
      try clear hcz9_0
      try clear hcz9_1
      try clear hcz9_2
      try clear hcz9_3
      try clear hcz9_4
      try clear hcz9_5
      try clear hfz12_0
      try clear hfz12_1
      try clear hfz12_2
      try clear hfz12_3
      try clear hfz12_4
      try clear hfz12_5
      try clear hfz15_0
      try clear hfz15_1
      try clear hfz15_2
      try clear hfz15_3
      try clear hfz15_4
      try clear hfz15_5
      try clear hfz16_0
      try clear hfz16_1
      try clear hfz16_2
      try clear hfz16_3
      try clear hfz16_4
      try clear hfz16_5
      try clear hfz17_0
      try clear hfz17_1
      try clear hfz17_2
      try clear hfz17_3
      try clear hfz17_4
      try clear hfz17_5
      try clear hfz27_0
      try clear hfz27_1
      try clear hfz27_2
      try clear hfz27_3
      try clear hfz27_4
      try clear hfz27_5
      try clear hfz29_0
      try clear hfz29_1
      try clear hfz29_2
      try clear hfz29_3
      try clear hfz29_4
      try clear hfz29_5
      try clear hfz30_0
      try clear hfz30_1
      try clear hfz30_2
      try clear hfz30_3
      try clear hfz30_4
      try clear hfz30_5
      try clear hfz32_0
      try clear hfz32_1
      try clear hfz32_2
      try clear hfz32_3
      try clear hfz32_4
      try clear hfz32_5
      try clear hfz33_0
      try clear hfz33_1
      try clear hfz33_2
      try clear hfz33_3
      try clear hfz33_4
      try clear hfz33_5
      try clear hfz4_0
      try clear hfz4_1
      try clear hfz4_2
      try clear hfz4_3
      try clear hfz4_4
      try clear hfz4_5
      try clear hfz9_0
      try clear hfz9_1
      try clear hfz9_2
      try clear hfz9_3
      try clear hfz9_4
      try clear hfz9_5
      try clear hx179_0
      try clear hx179_1
      try clear hx181_0
      try clear p179
      try clear p181
      try clear p2
      try clear q179
      try clear q181
      obtain ⟨x5_3, rfl, HA, HK3, BK176, HB⟩ := hrel
      cases gk with
      | zero => exact absurd HA.out (by simp [hopmeshref05_Check.l1])
      | succ k3 =>
       have H := HA.out
       clear HA
       simp only [hopmeshref05_Check.l1] at H
       by_cases c35 : x5_3 < (l0_2.length : Int)
       rotate_left
       ·rw [if_neg c35] at H
        have c35b0 : decide (x5_3 < (l0_2.length : Int)) = false := decide_eq_false c35
        clear c35
        obtain rfl := Option.some.inj H
        have hcz68_0 : wr.cell? ⟨gb176, 0, none⟩ = some (.slice A0_0 l0_0.length c0_0) := (bkC BK176.out 0).trans rfl
        have hcz68_1 : wr.cell? ⟨gb176, 1, none⟩ = some (.slice A0_1 l0_1.length c0_1) := (bkC BK176.out 1).trans rfl
        have hcz68_2 : wr.cell? ⟨gb176, 2, none⟩ = some (.slice A0_2 l0_2.length c0_2) := (bkC BK176.out 2).trans rfl
        have hcz68_3 : wr.cell? ⟨gb176, 3, none⟩ = some (.int .i64 a0_3) := (bkC BK176.out 3).trans rfl
        have hcz68_4 : wr.cell? ⟨gb176, 4, none⟩ = some (.int .i64 a0_4) := (bkC BK176.out 4).trans rfl
        have hcz68_5 : wr.cell? ⟨gb176, 5, none⟩ = some (.int .i64 a0_5) := (bkC BK176.out 5).trans rfl
        have hfz68_0 := bkF BK176.out 0
        have hfz68_1 := bkF BK176.out 1
        have hfz68_2 := bkF BK176.out 2
        have hfz68_3 := bkF BK176.out 3
        have hfz68_4 := bkF BK176.out 4
        have hfz68_5 := bkF BK176.out 5
        go_wp2
        go_ret
        exact ⟨by first | rfl | (simp [errW_none, errW_some] <;> rfl) | (simp [*, errW_none, errW_some] <;> rfl), by repeat (first | (with_reducible first | exact HB.out | apply blA | apply blN | apply blD | refine blS ?_ GE176.out) | exact HB.out)⟩

       rw [if_pos c35] at H
       have c35b0 : decide (x5_3 < (l0_2.length : Int)) = true := decide_eq_true c35
       clear c35
       by_cases c36 : 0 ≤ x5_3
       rotate_left
       ·rw [if_neg c36] at H
        exact absurd H (by simp)
       rw [if_pos c36] at H
       have c36b0 : decide (0 ≤ x5_3) = true := decide_eq_true c36
       clear c36
       have HC37 := Aside0.mk H
       clear H
       have hcz38_0 : wr.cell? ⟨gb176, 0, none⟩ = some (.slice A0_0 l0_0.length c0_0) := (bkC BK176.out 0).trans rfl
       have hcz38_1 : wr.cell? ⟨gb176, 1, none⟩ = some (.slice A0_1 l0_1.length c0_1) := (bkC BK176.out 1).trans rfl
       have hcz38_2 : wr.cell? ⟨gb176, 2, none⟩ = some (.slice A0_2 l0_2.length c0_2) := (bkC BK176.out 2).trans rfl
       have hcz38_3 : wr.cell? ⟨gb176, 3, none⟩ = some (.int .i64 a0_3) := (bkC BK176.out 3).trans rfl
       have hcz38_4 : wr.cell? ⟨gb176, 4, none⟩ = some (.int .i64 a0_4) := (bkC BK176.out 4).trans rfl
       have hcz38_5 : wr.cell? ⟨gb176, 5, none⟩ = some (.int .i64 a0_5) := (bkC BK176.out 5).trans rfl
       have hfz38_0 := bkF BK176.out 0
       have hfz38_1 := bkF BK176.out 1
       have hfz38_2 := bkF BK176.out 2
       have hfz38_3 := bkF BK176.out 3
       have hfz38_4 := bkF BK176.out 4
       have hfz38_5 := bkF BK176.out 5
       have p183 : 0 ≤ (x5_3 : Int) := of_decide_eq_true (by first | (with_reducible assumption) | assumption)
       have q183 : x5_3 < (l0_2.length : Int) := of_decide_eq_true (by first | (with_reducible assumption) | assumption)
       obtain ⟨ad183, e183, hx183_0, hx183_1, hx183_2, hx183_3, hx183_4⟩ := at_T47 HR0_2.out x5_3 p183 q183
       cases e183
       replace hx183_0 := (HB.out.cell (World.block_lt_of_cell? w _ hx183_0)).trans hx183_0
       replace hx183_1 := (HB.out.cell (World.block_lt_of_cell? w _ hx183_1)).trans hx183_1
       replace hx183_2 := (HB.out.cell (World.block_lt_of_cell? w _ hx183_2)).trans hx183_2
       replace hx183_3 := (HB.out.cell (World.block_lt_of_cell? w _ hx183_3)).trans hx183_3
       replace hx183_4 := (HB.out.cell (World.block_lt_of_cell? w _ hx183_4)).trans hx183_4
       replace p183 := eq_true p183
       replace q183 := eq_true q183
       go_upto_region 13 with (first | ((with_reducible refine gate_dst (N := 6) rfl ?_); refine box_event ?hg (N := 6) ?hd (cs := #[.int .i64 0, .int .i64 0, .int .i64 0, .int .i64 0, .int .i64 0]) (t := 47) ?hr ?_; (case hd => rfl); (case hg => rfl); (case hr => first | (go_simp; done) | (go_simp; rfl)); intro gb184 hg w39 hbox hb; have n0_ := Aside0.mk (bkB (g := gb176) (o := .cells #[.slice A0_0 l0_0.length c0_0, .slice A0_1 l0_1.length c0_1, .slice (some ad183) l0_2.length c0_2, .int .i64 a0_3, .int .i64 a0_4, .int .i64 a0_5] 26 (0, 0)) (by (with_reducible repeat (first | refine bkN ?_ _ | refine bkD ?_ | refine bkA ?_ _)); exact BK176.out) hb); have n1_ := Aside0.mk (below_step (by repeat (first | (with_reducible first | exact HB.out | apply blA | apply blN | apply blD | refine blS ?_ GE176.out) | exact HB.out)) hb); have n2_ := Aside0.mk (hbox); have n3_ := Aside0.mk ((by rw [hg]; exact (below_size (by repeat (first | (with_reducible first | exact HB.out | apply blA | apply blN | apply blD | refine blS ?_ GE176.out) | exact HB.out))) : w.heap.size ≤ gb184)); have n4_ := Aside0.mk ((by rw [hg]; exact (below_size (by repeat (first | (with_reducible first | exact HB.out | apply blA | apply blN | apply blD | refine blS ?_ GE176.out) | exact HB.out))) : w.heap.size ≤ gb184)); have n5_ := Aside0.mk ((by rw [hg]; exact Nat.ne_of_lt (blk_lt (g := gb176) (o := .cells #[.slice A0_0 l0_0.length c0_0, .slice A0_1 l0_1.length c0_1, .slice (some ad183) l0_2.length c0_2, .int .i64 a0_3, .int .i64 a0_4, .int .i64 a0_5] 26 (0, 0)) (by (with_reducible repeat (first | refine bkN ?_ _ | refine bkD ?_ | refine bkA ?_ _)); exact BK176.out)) : gb176 ≠ gb184)); have n6_ := Aside0.mk ((by rw [hg]; exact Nat.ne_of_gt (blk_lt (g := gb176) (o := .cells #[.slice A0_0 l0_0.length c0_0, .slice A0_1 l0_1.length c0_1, .slice (some ad183) l0_2.length c0_2, .int .i64 a0_3, .int .i64 a0_4, .int .i64 a0_5] 26 (0, 0)) (by (with_reducible repeat (first | refine bkN ?_ _ | refine bkD ?_ | refine bkA ?_ _)); exact BK176.out)) : gb184 ≠ gb176)); clear BK176; clear HB; have BK176 := n0_; have HB := n1_; have BK184 := n2_; have GW184 := n3_; have GE184 := n4_; have NB176_184 := n5_; have NB184_176 := n6_; clear n0_ n1_ n2_ n3_ n4_ n5_ n6_; clear hb hbox hg; have hnb40 := NB184_176.out; have hnc40 := NB176_184.out; have hcz41_0 : w39.cell? ⟨gb184, 0, none⟩ = some (.int .i64 0) := (bkC BK184.out 0).trans rfl; have hcz41_1 : w39.cell? ⟨gb184, 1, none⟩ = some (.int .i64 0) := (bkC BK184.out 1).trans rfl; have hcz41_2 : w39.cell? ⟨gb184, 2, none⟩ = some (.int .i64 0) := (bkC BK184.out 2).trans rfl; have hcz41_3 : w39.cell? ⟨gb184, 3, none⟩ = some (.int .i64 0) := (bkC BK184.out 3).trans rfl; have hcz41_4 : w39.cell? ⟨gb184, 4, none⟩ = some (.int .i64 0) := (bkC BK184.out 4).trans rfl; have hfz41_0 := bkF BK184.out 0; have hfz41_1 := bkF BK184.out 1; have hfz41_2 := bkF BK184.out 2; have hfz41_3 := bkF BK184.out 3; have hfz41_4 := bkF BK184.out 4))
       (try simp only [Act.put, List.setIfInBounds_toArray, List.set_cons_zero, List.set_cons_succ])
       go_cut [99] (fun v99 wc => ∃ (kq : Nat) (x99_36 : Bool), v99 = .bool x99_36 ∧ Aside0 (hopmeshref05_Check.j3 kq x5_3 x99_36 l0_0 l0_1 l0_2 a0_3 a0_4 a0_5 = some r) ∧ Aside0 (kq ≤ k3) ∧ Aside0 (wc.heap[gb176]? = some (.cells #[(.slice A0_0 l0_0.length c0_0), (.slice A0_1 l0_1.length c0_1), (.slice (some ad183) l0_2.length c0_2), .int .i64 a0_3, .int .i64 a0_4, .int .i64 a0_5] 26 (0, 0))) ∧ Aside0 (wc.heap[gb184]? = some (.cells #[.int .i64 ((rd_T47 l0_2 x5_3).f0.f0), .int .i64 ((rd_T47 l0_2 x5_3).f0.f1), .int .i64 ((rd_T47 l0_2 x5_3).f1.f0), .int .i64 ((rd_T47 l0_2 x5_3).f1.f1), .int .i64 ((rd_T47 l0_2 x5_3).f2)] 47 (0, 0))) ∧ Aside0 (Below w.heap.size w wc))
       case first =>
        have H := HC37.out
        clear HC37
        replace H := Option.bind_eq_some_iff.mp H
        obtain ⟨t185, A420, H⟩ := H
        replace H : (if t185 = true then ((hopmeshref05_Point.f ((rd_T47 l0_2 x5_3).f1.f0) ((rd_T47 l0_2 x5_3).f1.f1)).bind fun t186 => (if t186 = true then (if ((rd_T47 l0_2 x5_3).f2) < 0 then (hopmeshref05_Check.j3 k3 x5_3 true l0_0 l0_1 l0_2 a0_3 a0_4 a0_5) else (hopmeshref05_Check.j3 k3 x5_3 (decide (((rd_T47 l0_2 x5_3).f2) > 1000)) l0_0 l0_1 l0_2 a0_3 a0_4 a0_5)) else (hopmeshref05_Check.j3 k3 x5_3 true l0_0 l0_1 l0_2 a0_3 a0_4 a0_5))) else (hopmeshref05_Check.j3 k3 x5_3 true l0_0 l0_1 l0_2 a0_3 a0_4 a0_5)) = some r := H
        have A42 := Aside0.mk A420
        clear A420
        by_cases c43 : t185 = true
        rotate_left
        ·replace c43 := Bool.eq_false_iff.mpr c43
         subst c43
         have H1 : (hopmeshref05_Check.j3 k3 x5_3 true l0_0 l0_1 l0_2 a0_3 a0_4 a0_5) = some r := by rw [if_neg (show ¬ (false = true) by decide)] at H; exact H
         clear H
         have H := H1
         clear H1
         have H' := Aside0.mk H
         clear H
         have hnb64 := NB184_176.out
         have hnc64 := NB176_184.out
         have hcz65_0 : w39.cell? ⟨gb184, 0, none⟩ = some (.int .i64 0) := (bkC BK184.out 0).trans rfl
         have hcz65_1 : w39.cell? ⟨gb184, 1, none⟩ = some (.int .i64 0) := (bkC BK184.out 1).trans rfl
         have hcz65_2 : w39.cell? ⟨gb184, 2, none⟩ = some (.int .i64 0) := (bkC BK184.out 2).trans rfl
         have hcz65_3 : w39.cell? ⟨gb184, 3, none⟩ = some (.int .i64 0) := (bkC BK184.out 3).trans rfl
         have hcz65_4 : w39.cell? ⟨gb184, 4, none⟩ = some (.int .i64 0) := (bkC BK184.out 4).trans rfl
         have hfz65_0 := bkF BK184.out 0
         have hfz65_1 := bkF BK184.out 1
         have hfz65_2 := bkF BK184.out 2
         have hfz65_3 := bkF BK184.out 3
         have hfz65_4 := bkF BK184.out 4
         go_wp2_with (first | ((with_reducible refine gate_callee (f := 39) rfl ?_); refine goesL_ (some 82) rfl rfl Try.func39 (by kernel_rfl) rfl #[.agg #[.int .i64 ((rd_T47 l0_2 x5_3).f0.f0), .int .i64 ((rd_T47 l0_2 x5_3).f0.f1)]] rfl (by (try simp only [List.map_toArray, List.map_cons, List.map_nil]); first | done | rfl | (simp only [List.length_drop, List.length_take]; rfl)) ?_; (with_reducible refine (hopmeshref05_Point.calls ((rd_T47 l0_2 x5_3).f0.f0) ((rd_T47 l0_2 x5_3).f0.f1) false _ A42.out).mono ?_); rintro e w66 ⟨rfl, hb⟩; refine ⟨_, rfl, ?_⟩; have n0_ := Aside0.mk (bkB (g := gb176) (o := .cells #[.slice A0_0 l0_0.length c0_0, .slice A0_1 l0_1.length c0_1, .slice (some ad183) l0_2.length c0_2, .int .i64 a0_3, .int .i64 a0_4, .int .i64 a0_5] 26 (0, 0)) (by (with_reducible repeat (first | refine bkN ?_ _ | refine bkD ?_ | refine bkA ?_ _)); refine blk_far ?_ NB176_184.out _; (with_reducible repeat (first | refine bkN ?_ _ | refine bkD ?_ | refine bkA ?_ _)); refine blk_far ?_ NB176_184.out _; (with_reducible repeat (first | refine bkN ?_ _ | refine bkD ?_ | refine bkA ?_ _)); refine blk_far ?_ NB176_184.out _; (with_reducible repeat (first | refine bkN ?_ _ | refine bkD ?_ | refine bkA ?_ _)); refine blk_far ?_ NB176_184.out _; (with_reducible repeat (first | refine bkN ?_ _ | refine bkD ?_ | refine bkA ?_ _)); refine blk_far ?_ NB176_184.out _; (with_reducible repeat (first | refine bkN ?_ _ | refine bkD ?_ | refine bkA ?_ _)); exact BK176.out) hb); have n1_ := Aside0.mk (bkB (g := gb184) (o := .cells #[.int .i64 ((rd_T47 l0_2 x5_3).f0.f0), .int .i64 ((rd_T47 l0_2 x5_3).f0.f1), .int .i64 ((rd_T47 l0_2 x5_3).f1.f0), .int .i64 ((rd_T47 l0_2 x5_3).f1.f1), .int .i64 ((rd_T47 l0_2 x5_3).f2)] 47 (0, 0)) (by (with_reducible repeat (first | refine bkN ?_ _ | refine bkD ?_ | refine bkA ?_ _)); refine blk_put (cs := #[.int .i64 ((rd_T47 l0_2 x5_3).f0.f0), .int .i64 ((rd_T47 l0_2 x5_3).f0.f1), .int .i64 ((rd_T47 l0_2 x5_3).f1.f0), .int .i64 ((rd_T47 l0_2 x5_3).f1.f1), .int .i64 0]) ?_ 4 _ rfl; (with_reducible repeat (first | refine bkN ?_ _ | refine bkD ?_ | refine bkA ?_ _)); refine blk_put (cs := #[.int .i64 ((rd_T47 l0_2 x5_3).f0.f0), .int .i64 ((rd_T47 l0_2 x5_3).f0.f1), .int .i64 ((rd_T47 l0_2 x5_3).f1.f0), .int .i64 0, .int .i64 0]) ?_ 3 _ rfl; (with_reducible repeat (first | refine bkN ?_ _ | refine bkD ?_ | refine bkA ?_ _)); refine blk_put (cs := #[.int .i64 ((rd_T47 l0_2 x5_3).f0.f0), .int .i64 ((rd_T47 l0_2 x5_3).f0.f1), .int .i64 0, .int .i64 0, .int .i64 0]) ?_ 2 _ rfl; (with_reducible repeat (first | refine bkN ?_ _ | refine bkD ?_ | refine bkA ?_ _)); refine blk_put (cs := #[.int .i64 ((rd_T47 l0_2 x5_3).f0.f0), .int .i64 0, .int .i64 0, .int .i64 0, .int .i64 0]) ?_ 1 _ rfl; (with_reducible repeat (first | refine bkN ?_ _ | refine bkD ?_ | refine bkA ?_ _)); refine blk_put (cs := #[.int .i64 0, .int .i64 0, .int .i64 0, .int .i64 0, .int .i64 0]) ?_ 0 _ rfl; (with_reducible repeat (first | refine bkN ?_ _ | refine bkD ?_ | refine bkA ?_ _)); exact BK184.out) hb); have n2_ := Aside0.mk (below_step (by repeat (first | (with_reducible first | exact HB.out | apply blA | apply blN | apply blD | refine blS ?_ GE176.out | refine blS ?_ GE184.out) | exact HB.out)) hb); clear BK176; clear BK184; clear HB; have BK176 := n0_; have BK184 := n1_; have HB := n2_; clear n0_ n1_ n2_; (try clear hb); (try clear hb2); (try clear hk); (try clear hi)))
         go_meet
         case rel => exact ⟨_, (true), (by first | rfl | (simp; done) | (simp [*]; done)), H', ⟨by have := HJ1.out; have := HK2.out; have := HK3.out; first | omega | exact Nat.le_refl _⟩, ⟨by (with_reducible repeat (first | refine bkN ?_ _ | refine bkD ?_ | refine bkA ?_ _)); exact BK176.out⟩, ⟨by (with_reducible repeat (first | refine bkN ?_ _ | refine bkD ?_ | refine bkA ?_ _)); exact BK184.out⟩, ⟨by repeat (first | (with_reducible first | exact HB.out | apply blA | apply blN | apply blD | refine blS ?_ GE176.out | refine blS ?_ GE184.out) | exact HB.out)⟩⟩
        subst c43
        have H1 : ((hopmeshref05_Point.f ((rd_T47 l0_2 x5_3).f1.f0) ((rd_T47 l0_2 x5_3).f1.f1)).bind fun t186 => (if t186 = true then (if ((rd_T47 l0_2 x5_3).f2) < 0 then (hopmeshref05_Check.j3 k3 x5_3 true l0_0 l0_1 l0_2 a0_3 a0_4 a0_5) else (hopmeshref05_Check.j3 k3 x5_3 (decide (((rd_T47 l0_2 x5_3).f2) > 1000)) l0_0 l0_1 l0_2 a0_3 a0_4 a0_5)) else (hopmeshref05_Check.j3 k3 x5_3 true l0_0 l0_1 l0_2 a0_3 a0_4 a0_5))) = some r := by rw [if_pos rfl] at H; exact H
        clear H
        have H := H1
        clear H1
        replace H := Option.bind_eq_some_iff.mp H
        obtain ⟨t186, A440, H⟩ := H
        replace H : (if t186 = true then (if ((rd_T47 l0_2 x5_3).f2) < 0 then (hopmeshref05_Check.j3 k3 x5_3 true l0_0 l0_1 l0_2 a0_3 a0_4 a0_5) else (hopmeshref05_Check.j3 k3 x5_3 (decide (((rd_T47 l0_2 x5_3).f2) > 1000)) l0_0 l0_1 l0_2 a0_3 a0_4 a0_5)) else (hopmeshref05_Check.j3 k3 x5_3 true l0_0 l0_1 l0_2 a0_3 a0_4 a0_5)) = some r := H
        have A44 := Aside0.mk A440
        clear A440
        by_cases c45 : t186 = true
        rotate_left
        ·replace c45 := Bool.eq_false_iff.mpr c45
         subst c45
         have H1 : (hopmeshref05_Check.j3 k3 x5_3 true l0_0 l0_1 l0_2 a0_3 a0_4 a0_5) = some r := by rw [if_neg (show ¬ (false = true) by decide)] at H; exact H
         clear H
         have H := H1
         clear H1
         have H' := Aside0.mk H
         clear H
         have hnb59 := NB184_176.out
         have hnc59 := NB176_184.out
         have hcz60_0 : w39.cell? ⟨gb184, 0, none⟩ = some (.int .i64 0) := (bkC BK184.out 0).trans rfl
         have hcz60_1 : w39.cell? ⟨gb184, 1, none⟩ = some (.int .i64 0) := (bkC BK184.out 1).trans rfl
         have hcz60_2 : w39.cell? ⟨gb184, 2, none⟩ = some (.int .i64 0) := (bkC BK184.out 2).trans rfl
         have hcz60_3 : w39.cell? ⟨gb184, 3, none⟩ = some (.int .i64 0) := (bkC BK184.out 3).trans rfl
         have hcz60_4 : w39.cell? ⟨gb184, 4, none⟩ = some (.int .i64 0) := (bkC BK184.out 4).trans rfl
         have hfz60_0 := bkF BK184.out 0
         have hfz60_1 := bkF BK184.out 1
         have hfz60_2 := bkF BK184.out 2
         have hfz60_3 := bkF BK184.out 3
         have hfz60_4 := bkF BK184.out 4
         go_wp2_with (first | ((with_reducible refine gate_callee (f := 39) rfl ?_); refine goesL_ (some 82) rfl rfl Try.func39 (by kernel_rfl) rfl #[.agg #[.int .i64 ((rd_T47 l0_2 x5_3).f0.f0), .int .i64 ((rd_T47 l0_2 x5_3).f0.f1)]] rfl (by (try simp only [List.map_toArray, List.map_cons, List.map_nil]); first | done | rfl | (simp only [List.length_drop, List.length_take]; rfl)) ?_; (with_reducible refine (hopmeshref05_Point.calls ((rd_T47 l0_2 x5_3).f0.f0) ((rd_T47 l0_2 x5_3).f0.f1) true _ A42.out).mono ?_); rintro e w61 ⟨rfl, hb⟩; refine ⟨_, rfl, ?_⟩; have n0_ := Aside0.mk (bkB (g := gb176) (o := .cells #[.slice A0_0 l0_0.length c0_0, .slice A0_1 l0_1.length c0_1, .slice (some ad183) l0_2.length c0_2, .int .i64 a0_3, .int .i64 a0_4, .int .i64 a0_5] 26 (0, 0)) (by (with_reducible repeat (first | refine bkN ?_ _ | refine bkD ?_ | refine bkA ?_ _)); refine blk_far ?_ NB176_184.out _; (with_reducible repeat (first | refine bkN ?_ _ | refine bkD ?_ | refine bkA ?_ _)); refine blk_far ?_ NB176_184.out _; (with_reducible repeat (first | refine bkN ?_ _ | refine bkD ?_ | refine bkA ?_ _)); refine blk_far ?_ NB176_184.out _; (with_reducible repeat (first | refine bkN ?_ _ | refine bkD ?_ | refine bkA ?_ _)); refine blk_far ?_ NB176_184.out _; (with_reducible repeat (first | refine bkN ?_ _ | refine bkD ?_ | refine bkA ?_ _)); refine blk_far ?_ NB176_184.out _; (with_reducible repeat (first | refine bkN ?_ _ | refine bkD ?_ | refine bkA ?_ _)); exact BK176.out) hb); have n1_ := Aside0.mk (bkB (g := gb184) (o := .cells #[.int .i64 ((rd_T47 l0_2 x5_3).f0.f0), .int .i64 ((rd_T47 l0_2 x5_3).f0.f1), .int .i64 ((rd_T47 l0_2 x5_3).f1.f0), .int .i64 ((rd_T47 l0_2 x5_3).f1.f1), .int .i64 ((rd_T47 l0_2 x5_3).f2)] 47 (0, 0)) (by (with_reducible repeat (first | refine bkN ?_ _ | refine bkD ?_ | refine bkA ?_ _)); refine blk_put (cs := #[.int .i64 ((rd_T47 l0_2 x5_3).f0.f0), .int .i64 ((rd_T47 l0_2 x5_3).f0.f1), .int .i64 ((rd_T47 l0_2 x5_3).f1.f0), .int .i64 ((rd_T47 l0_2 x5_3).f1.f1), .int .i64 0]) ?_ 4 _ rfl; (with_reducible repeat (first | refine bkN ?_ _ | refine bkD ?_ | refine bkA ?_ _)); refine blk_put (cs := #[.int .i64 ((rd_T47 l0_2 x5_3).f0.f0), .int .i64 ((rd_T47 l0_2 x5_3).f0.f1), .int .i64 ((rd_T47 l0_2 x5_3).f1.f0), .int .i64 0, .int .i64 0]) ?_ 3 _ rfl; (with_reducible repeat (first | refine bkN ?_ _ | refine bkD ?_ | refine bkA ?_ _)); refine blk_put (cs := #[.int .i64 ((rd_T47 l0_2 x5_3).f0.f0), .int .i64 ((rd_T47 l0_2 x5_3).f0.f1), .int .i64 0, .int .i64 0, .int .i64 0]) ?_ 2 _ rfl; (with_reducible repeat (first | refine bkN ?_ _ | refine bkD ?_ | refine bkA ?_ _)); refine blk_put (cs := #[.int .i64 ((rd_T47 l0_2 x5_3).f0.f0), .int .i64 0, .int .i64 0, .int .i64 0, .int .i64 0]) ?_ 1 _ rfl; (with_reducible repeat (first | refine bkN ?_ _ | refine bkD ?_ | refine bkA ?_ _)); refine blk_put (cs := #[.int .i64 0, .int .i64 0, .int .i64 0, .int .i64 0, .int .i64 0]) ?_ 0 _ rfl; (with_reducible repeat (first | refine bkN ?_ _ | refine bkD ?_ | refine bkA ?_ _)); exact BK184.out) hb); have n2_ := Aside0.mk (below_step (by repeat (first | (with_reducible first | exact HB.out | apply blA | apply blN | apply blD | refine blS ?_ GE176.out | refine blS ?_ GE184.out) | exact HB.out)) hb); clear BK176; clear BK184; clear HB; have BK176 := n0_; have BK184 := n1_; have HB := n2_; clear n0_ n1_ n2_; (try clear hb); (try clear hb2); (try clear hk); (try clear hi); have hcz62_0 : w61.cell? ⟨gb184, 0, none⟩ = some (.int .i64 ((rd_T47 l0_2 x5_3).f0.f0)) := (bkC BK184.out 0).trans rfl; have hcz62_1 : w61.cell? ⟨gb184, 1, none⟩ = some (.int .i64 ((rd_T47 l0_2 x5_3).f0.f1)) := (bkC BK184.out 1).trans rfl; have hcz62_2 : w61.cell? ⟨gb184, 2, none⟩ = some (.int .i64 ((rd_T47 l0_2 x5_3).f1.f0)) := (bkC BK184.out 2).trans rfl; have hcz62_3 : w61.cell? ⟨gb184, 3, none⟩ = some (.int .i64 ((rd_T47 l0_2 x5_3).f1.f1)) := (bkC BK184.out 3).trans rfl; have hcz62_4 : w61.cell? ⟨gb184, 4, none⟩ = some (.int .i64 ((rd_T47 l0_2 x5_3).f2)) := (bkC BK184.out 4).trans rfl; have hfz62_0 := bkF BK184.out 0; have hfz62_1 := bkF BK184.out 1; have hfz62_2 := bkF BK184.out 2; have hfz62_3 := bkF BK184.out 3; have hfz62_4 := bkF BK184.out 4) | (go_at_call 39; (with_reducible refine (hopmeshref05_Point.calls ((rd_T47 l0_2 x5_3).f1.f0) ((rd_T47 l0_2 x5_3).f1.f1) false _ A44.out).mono ?_); rintro e w63 ⟨rfl, hb⟩; have n0_ := Aside0.mk (bkB (g := gb176) (o := .cells #[.slice A0_0 l0_0.length c0_0, .slice A0_1 l0_1.length c0_1, .slice (some ad183) l0_2.length c0_2, .int .i64 a0_3, .int .i64 a0_4, .int .i64 a0_5] 26 (0, 0)) (by (with_reducible repeat (first | refine bkN ?_ _ | refine bkD ?_ | refine bkA ?_ _)); exact BK176.out) hb); have n1_ := Aside0.mk (bkB (g := gb184) (o := .cells #[.int .i64 ((rd_T47 l0_2 x5_3).f0.f0), .int .i64 ((rd_T47 l0_2 x5_3).f0.f1), .int .i64 ((rd_T47 l0_2 x5_3).f1.f0), .int .i64 ((rd_T47 l0_2 x5_3).f1.f1), .int .i64 ((rd_T47 l0_2 x5_3).f2)] 47 (0, 0)) (by (with_reducible repeat (first | refine bkN ?_ _ | refine bkD ?_ | refine bkA ?_ _)); exact BK184.out) hb); have n2_ := Aside0.mk (below_step (by repeat (first | (with_reducible first | exact HB.out | apply blA | apply blN | apply blD | refine blS ?_ GE176.out | refine blS ?_ GE184.out) | exact HB.out)) hb); clear BK176; clear BK184; clear HB; have BK176 := n0_; have BK184 := n1_; have HB := n2_; clear n0_ n1_ n2_; (try clear hb); (try clear hb2); (try clear hk); (try clear hi)))
         go_meet
         case rel => exact ⟨_, (true), (by first | rfl | (simp; done) | (simp [*]; done)), H', ⟨by have := HJ1.out; have := HK2.out; have := HK3.out; first | omega | exact Nat.le_refl _⟩, ⟨by (with_reducible repeat (first | refine bkN ?_ _ | refine bkD ?_ | refine bkA ?_ _)); exact BK176.out⟩, ⟨by (with_reducible repeat (first | refine bkN ?_ _ | refine bkD ?_ | refine bkA ?_ _)); exact BK184.out⟩, ⟨by repeat (first | (with_reducible first | exact HB.out | apply blA | apply blN | apply blD | refine blS ?_ GE176.out | refine blS ?_ GE184.out) | exact HB.out)⟩⟩
        subst c45
        have H1 : (if ((rd_T47 l0_2 x5_3).f2) < 0 then (hopmeshref05_Check.j3 k3 x5_3 true l0_0 l0_1 l0_2 a0_3 a0_4 a0_5) else (hopmeshref05_Check.j3 k3 x5_3 (decide (((rd_T47 l0_2 x5_3).f2) > 1000)) l0_0 l0_1 l0_2 a0_3 a0_4 a0_5)) = some r := by rw [if_pos rfl] at H; exact H
        clear H
        have H := H1
        clear H1
        by_cases c46 : ((rd_T47 l0_2 x5_3).f2) < 0
        ·rw [if_pos c46] at H
         have c46b0 : decide (((rd_T47 l0_2 x5_3).f2) < 0) = true := decide_eq_true c46
         clear c46
         (first | rw [c46b0] | (simp only [i64_w, i32_w]; rw [c46b0]) | skip)
         have H' := Aside0.mk H
         clear H
         have hnb47 := NB184_176.out
         have hnc47 := NB176_184.out
         have hcz48_0 : w39.cell? ⟨gb184, 0, none⟩ = some (.int .i64 0) := (bkC BK184.out 0).trans rfl
         have hcz48_1 : w39.cell? ⟨gb184, 1, none⟩ = some (.int .i64 0) := (bkC BK184.out 1).trans rfl
         have hcz48_2 : w39.cell? ⟨gb184, 2, none⟩ = some (.int .i64 0) := (bkC BK184.out 2).trans rfl
         have hcz48_3 : w39.cell? ⟨gb184, 3, none⟩ = some (.int .i64 0) := (bkC BK184.out 3).trans rfl
         have hcz48_4 : w39.cell? ⟨gb184, 4, none⟩ = some (.int .i64 0) := (bkC BK184.out 4).trans rfl
         have hfz48_0 := bkF BK184.out 0
         have hfz48_1 := bkF BK184.out 1
         have hfz48_2 := bkF BK184.out 2
         have hfz48_3 := bkF BK184.out 3
         have hfz48_4 := bkF BK184.out 4
         go_wp2_with (first | ((with_reducible refine gate_callee (f := 39) rfl ?_); refine goesL_ (some 82) rfl rfl Try.func39 (by kernel_rfl) rfl #[.agg #[.int .i64 ((rd_T47 l0_2 x5_3).f0.f0), .int .i64 ((rd_T47 l0_2 x5_3).f0.f1)]] rfl (by (try simp only [List.map_toArray, List.map_cons, List.map_nil]); first | done | rfl | (simp only [List.length_drop, List.length_take]; rfl)) ?_; (with_reducible refine (hopmeshref05_Point.calls ((rd_T47 l0_2 x5_3).f0.f0) ((rd_T47 l0_2 x5_3).f0.f1) true _ A42.out).mono ?_); rintro e w49 ⟨rfl, hb⟩; refine ⟨_, rfl, ?_⟩; have n0_ := Aside0.mk (bkB (g := gb176) (o := .cells #[.slice A0_0 l0_0.length c0_0, .slice A0_1 l0_1.length c0_1, .slice (some ad183) l0_2.length c0_2, .int .i64 a0_3, .int .i64 a0_4, .int .i64 a0_5] 26 (0, 0)) (by (with_reducible repeat (first | refine bkN ?_ _ | refine bkD ?_ | refine bkA ?_ _)); refine blk_far ?_ NB176_184.out _; (with_reducible repeat (first | refine bkN ?_ _ | refine bkD ?_ | refine bkA ?_ _)); refine blk_far ?_ NB176_184.out _; (with_reducible repeat (first | refine bkN ?_ _ | refine bkD ?_ | refine bkA ?_ _)); refine blk_far ?_ NB176_184.out _; (with_reducible repeat (first | refine bkN ?_ _ | refine bkD ?_ | refine bkA ?_ _)); refine blk_far ?_ NB176_184.out _; (with_reducible repeat (first | refine bkN ?_ _ | refine bkD ?_ | refine bkA ?_ _)); refine blk_far ?_ NB176_184.out _; (with_reducible repeat (first | refine bkN ?_ _ | refine bkD ?_ | refine bkA ?_ _)); exact BK176.out) hb); have n1_ := Aside0.mk (bkB (g := gb184) (o := .cells #[.int .i64 ((rd_T47 l0_2 x5_3).f0.f0), .int .i64 ((rd_T47 l0_2 x5_3).f0.f1), .int .i64 ((rd_T47 l0_2 x5_3).f1.f0), .int .i64 ((rd_T47 l0_2 x5_3).f1.f1), .int .i64 ((rd_T47 l0_2 x5_3).f2)] 47 (0, 0)) (by (with_reducible repeat (first | refine bkN ?_ _ | refine bkD ?_ | refine bkA ?_ _)); refine blk_put (cs := #[.int .i64 ((rd_T47 l0_2 x5_3).f0.f0), .int .i64 ((rd_T47 l0_2 x5_3).f0.f1), .int .i64 ((rd_T47 l0_2 x5_3).f1.f0), .int .i64 ((rd_T47 l0_2 x5_3).f1.f1), .int .i64 0]) ?_ 4 _ rfl; (with_reducible repeat (first | refine bkN ?_ _ | refine bkD ?_ | refine bkA ?_ _)); refine blk_put (cs := #[.int .i64 ((rd_T47 l0_2 x5_3).f0.f0), .int .i64 ((rd_T47 l0_2 x5_3).f0.f1), .int .i64 ((rd_T47 l0_2 x5_3).f1.f0), .int .i64 0, .int .i64 0]) ?_ 3 _ rfl; (with_reducible repeat (first | refine bkN ?_ _ | refine bkD ?_ | refine bkA ?_ _)); refine blk_put (cs := #[.int .i64 ((rd_T47 l0_2 x5_3).f0.f0), .int .i64 ((rd_T47 l0_2 x5_3).f0.f1), .int .i64 0, .int .i64 0, .int .i64 0]) ?_ 2 _ rfl; (with_reducible repeat (first | refine bkN ?_ _ | refine bkD ?_ | refine bkA ?_ _)); refine blk_put (cs := #[.int .i64 ((rd_T47 l0_2 x5_3).f0.f0), .int .i64 0, .int .i64 0, .int .i64 0, .int .i64 0]) ?_ 1 _ rfl; (with_reducible repeat (first | refine bkN ?_ _ | refine bkD ?_ | refine bkA ?_ _)); refine blk_put (cs := #[.int .i64 0, .int .i64 0, .int .i64 0, .int .i64 0, .int .i64 0]) ?_ 0 _ rfl; (with_reducible repeat (first | refine bkN ?_ _ | refine bkD ?_ | refine bkA ?_ _)); exact BK184.out) hb); have n2_ := Aside0.mk (below_step (by repeat (first | (with_reducible first | exact HB.out | apply blA | apply blN | apply blD | refine blS ?_ GE176.out | refine blS ?_ GE184.out) | exact HB.out)) hb); clear BK176; clear BK184; clear HB; have BK176 := n0_; have BK184 := n1_; have HB := n2_; clear n0_ n1_ n2_; (try clear hb); (try clear hb2); (try clear hk); (try clear hi); have hcz50_0 : w49.cell? ⟨gb184, 0, none⟩ = some (.int .i64 ((rd_T47 l0_2 x5_3).f0.f0)) := (bkC BK184.out 0).trans rfl; have hcz50_1 : w49.cell? ⟨gb184, 1, none⟩ = some (.int .i64 ((rd_T47 l0_2 x5_3).f0.f1)) := (bkC BK184.out 1).trans rfl; have hcz50_2 : w49.cell? ⟨gb184, 2, none⟩ = some (.int .i64 ((rd_T47 l0_2 x5_3).f1.f0)) := (bkC BK184.out 2).trans rfl; have hcz50_3 : w49.cell? ⟨gb184, 3, none⟩ = some (.int .i64 ((rd_T47 l0_2 x5_3).f1.f1)) := (bkC BK184.out 3).trans rfl; have hcz50_4 : w49.cell? ⟨gb184, 4, none⟩ = some (.int .i64 ((rd_T47 l0_2 x5_3).f2)) := (bkC BK184.out 4).trans rfl; have hfz50_0 := bkF BK184.out 0; have hfz50_1 := bkF BK184.out 1; have hfz50_2 := bkF BK184.out 2; have hfz50_3 := bkF BK184.out 3; have hfz50_4 := bkF BK184.out 4) | (go_at_call 39; (with_reducible refine (hopmeshref05_Point.calls ((rd_T47 l0_2 x5_3).f1.f0) ((rd_T47 l0_2 x5_3).f1.f1) true _ A44.out).mono ?_); rintro e w51 ⟨rfl, hb⟩; have n0_ := Aside0.mk (bkB (g := gb176) (o := .cells #[.slice A0_0 l0_0.length c0_0, .slice A0_1 l0_1.length c0_1, .slice (some ad183) l0_2.length c0_2, .int .i64 a0_3, .int .i64 a0_4, .int .i64 a0_5] 26 (0, 0)) (by (with_reducible repeat (first | refine bkN ?_ _ | refine bkD ?_ | refine bkA ?_ _)); exact BK176.out) hb); have n1_ := Aside0.mk (bkB (g := gb184) (o := .cells #[.int .i64 ((rd_T47 l0_2 x5_3).f0.f0), .int .i64 ((rd_T47 l0_2 x5_3).f0.f1), .int .i64 ((rd_T47 l0_2 x5_3).f1.f0), .int .i64 ((rd_T47 l0_2 x5_3).f1.f1), .int .i64 ((rd_T47 l0_2 x5_3).f2)] 47 (0, 0)) (by (with_reducible repeat (first | refine bkN ?_ _ | refine bkD ?_ | refine bkA ?_ _)); exact BK184.out) hb); have n2_ := Aside0.mk (below_step (by repeat (first | (with_reducible first | exact HB.out | apply blA | apply blN | apply blD | refine blS ?_ GE176.out | refine blS ?_ GE184.out) | exact HB.out)) hb); clear BK176; clear BK184; clear HB; have BK176 := n0_; have BK184 := n1_; have HB := n2_; clear n0_ n1_ n2_; (try clear hb); (try clear hb2); (try clear hk); (try clear hi); have hcz52_0 : w51.cell? ⟨gb184, 0, none⟩ = some (.int .i64 ((rd_T47 l0_2 x5_3).f0.f0)) := (bkC BK184.out 0).trans rfl; have hcz52_1 : w51.cell? ⟨gb184, 1, none⟩ = some (.int .i64 ((rd_T47 l0_2 x5_3).f0.f1)) := (bkC BK184.out 1).trans rfl; have hcz52_2 : w51.cell? ⟨gb184, 2, none⟩ = some (.int .i64 ((rd_T47 l0_2 x5_3).f1.f0)) := (bkC BK184.out 2).trans rfl; have hcz52_3 : w51.cell? ⟨gb184, 3, none⟩ = some (.int .i64 ((rd_T47 l0_2 x5_3).f1.f1)) := (bkC BK184.out 3).trans rfl; have hcz52_4 : w51.cell? ⟨gb184, 4, none⟩ = some (.int .i64 ((rd_T47 l0_2 x5_3).f2)) := (bkC BK184.out 4).trans rfl; have hfz52_0 := bkF BK184.out 0; have hfz52_1 := bkF BK184.out 1; have hfz52_2 := bkF BK184.out 2; have hfz52_3 := bkF BK184.out 3; have hfz52_4 := bkF BK184.out 4))
         go_meet
         case rel => exact ⟨_, (true), (by first | rfl | (simp; done) | (simp [*]; done)), H', ⟨by have := HJ1.out; have := HK2.out; have := HK3.out; first | omega | exact Nat.le_refl _⟩, ⟨by (with_reducible repeat (first | refine bkN ?_ _ | refine bkD ?_ | refine bkA ?_ _)); exact BK176.out⟩, ⟨by (with_reducible repeat (first | refine bkN ?_ _ | refine bkD ?_ | refine bkA ?_ _)); exact BK184.out⟩, ⟨by repeat (first | (with_reducible first | exact HB.out | apply blA | apply blN | apply blD | refine blS ?_ GE176.out | refine blS ?_ GE184.out) | exact HB.out)⟩⟩
        rw [if_neg c46] at H
        have c46b0 : decide (((rd_T47 l0_2 x5_3).f2) < 0) = false := decide_eq_false c46
        clear c46
        (first | rw [c46b0] | (simp only [i64_w, i32_w]; rw [c46b0]) | skip)
        have H' := Aside0.mk H
        clear H
        have hnb53 := NB184_176.out
        have hnc53 := NB176_184.out
        have hcz54_0 : w39.cell? ⟨gb184, 0, none⟩ = some (.int .i64 0) := (bkC BK184.out 0).trans rfl
        have hcz54_1 : w39.cell? ⟨gb184, 1, none⟩ = some (.int .i64 0) := (bkC BK184.out 1).trans rfl
        have hcz54_2 : w39.cell? ⟨gb184, 2, none⟩ = some (.int .i64 0) := (bkC BK184.out 2).trans rfl
        have hcz54_3 : w39.cell? ⟨gb184, 3, none⟩ = some (.int .i64 0) := (bkC BK184.out 3).trans rfl
        have hcz54_4 : w39.cell? ⟨gb184, 4, none⟩ = some (.int .i64 0) := (bkC BK184.out 4).trans rfl
        have hfz54_0 := bkF BK184.out 0
        have hfz54_1 := bkF BK184.out 1
        have hfz54_2 := bkF BK184.out 2
        have hfz54_3 := bkF BK184.out 3
        have hfz54_4 := bkF BK184.out 4
        go_wp2_with (first | ((with_reducible refine gate_callee (f := 39) rfl ?_); refine goesL_ (some 82) rfl rfl Try.func39 (by kernel_rfl) rfl #[.agg #[.int .i64 ((rd_T47 l0_2 x5_3).f0.f0), .int .i64 ((rd_T47 l0_2 x5_3).f0.f1)]] rfl (by (try simp only [List.map_toArray, List.map_cons, List.map_nil]); first | done | rfl | (simp only [List.length_drop, List.length_take]; rfl)) ?_; (with_reducible refine (hopmeshref05_Point.calls ((rd_T47 l0_2 x5_3).f0.f0) ((rd_T47 l0_2 x5_3).f0.f1) true _ A42.out).mono ?_); rintro e w55 ⟨rfl, hb⟩; refine ⟨_, rfl, ?_⟩; have n0_ := Aside0.mk (bkB (g := gb176) (o := .cells #[.slice A0_0 l0_0.length c0_0, .slice A0_1 l0_1.length c0_1, .slice (some ad183) l0_2.length c0_2, .int .i64 a0_3, .int .i64 a0_4, .int .i64 a0_5] 26 (0, 0)) (by (with_reducible repeat (first | refine bkN ?_ _ | refine bkD ?_ | refine bkA ?_ _)); refine blk_far ?_ NB176_184.out _; (with_reducible repeat (first | refine bkN ?_ _ | refine bkD ?_ | refine bkA ?_ _)); refine blk_far ?_ NB176_184.out _; (with_reducible repeat (first | refine bkN ?_ _ | refine bkD ?_ | refine bkA ?_ _)); refine blk_far ?_ NB176_184.out _; (with_reducible repeat (first | refine bkN ?_ _ | refine bkD ?_ | refine bkA ?_ _)); refine blk_far ?_ NB176_184.out _; (with_reducible repeat (first | refine bkN ?_ _ | refine bkD ?_ | refine bkA ?_ _)); refine blk_far ?_ NB176_184.out _; (with_reducible repeat (first | refine bkN ?_ _ | refine bkD ?_ | refine bkA ?_ _)); exact BK176.out) hb); have n1_ := Aside0.mk (bkB (g := gb184) (o := .cells #[.int .i64 ((rd_T47 l0_2 x5_3).f0.f0), .int .i64 ((rd_T47 l0_2 x5_3).f0.f1), .int .i64 ((rd_T47 l0_2 x5_3).f1.f0), .int .i64 ((rd_T47 l0_2 x5_3).f1.f1), .int .i64 ((rd_T47 l0_2 x5_3).f2)] 47 (0, 0)) (by (with_reducible repeat (first | refine bkN ?_ _ | refine bkD ?_ | refine bkA ?_ _)); refine blk_put (cs := #[.int .i64 ((rd_T47 l0_2 x5_3).f0.f0), .int .i64 ((rd_T47 l0_2 x5_3).f0.f1), .int .i64 ((rd_T47 l0_2 x5_3).f1.f0), .int .i64 ((rd_T47 l0_2 x5_3).f1.f1), .int .i64 0]) ?_ 4 _ rfl; (with_reducible repeat (first | refine bkN ?_ _ | refine bkD ?_ | refine bkA ?_ _)); refine blk_put (cs := #[.int .i64 ((rd_T47 l0_2 x5_3).f0.f0), .int .i64 ((rd_T47 l0_2 x5_3).f0.f1), .int .i64 ((rd_T47 l0_2 x5_3).f1.f0), .int .i64 0, .int .i64 0]) ?_ 3 _ rfl; (with_reducible repeat (first | refine bkN ?_ _ | refine bkD ?_ | refine bkA ?_ _)); refine blk_put (cs := #[.int .i64 ((rd_T47 l0_2 x5_3).f0.f0), .int .i64 ((rd_T47 l0_2 x5_3).f0.f1), .int .i64 0, .int .i64 0, .int .i64 0]) ?_ 2 _ rfl; (with_reducible repeat (first | refine bkN ?_ _ | refine bkD ?_ | refine bkA ?_ _)); refine blk_put (cs := #[.int .i64 ((rd_T47 l0_2 x5_3).f0.f0), .int .i64 0, .int .i64 0, .int .i64 0, .int .i64 0]) ?_ 1 _ rfl; (with_reducible repeat (first | refine bkN ?_ _ | refine bkD ?_ | refine bkA ?_ _)); refine blk_put (cs := #[.int .i64 0, .int .i64 0, .int .i64 0, .int .i64 0, .int .i64 0]) ?_ 0 _ rfl; (with_reducible repeat (first | refine bkN ?_ _ | refine bkD ?_ | refine bkA ?_ _)); exact BK184.out) hb); have n2_ := Aside0.mk (below_step (by repeat (first | (with_reducible first | exact HB.out | apply blA | apply blN | apply blD | refine blS ?_ GE176.out | refine blS ?_ GE184.out) | exact HB.out)) hb); clear BK176; clear BK184; clear HB; have BK176 := n0_; have BK184 := n1_; have HB := n2_; clear n0_ n1_ n2_; (try clear hb); (try clear hb2); (try clear hk); (try clear hi); have hcz56_0 : w55.cell? ⟨gb184, 0, none⟩ = some (.int .i64 ((rd_T47 l0_2 x5_3).f0.f0)) := (bkC BK184.out 0).trans rfl; have hcz56_1 : w55.cell? ⟨gb184, 1, none⟩ = some (.int .i64 ((rd_T47 l0_2 x5_3).f0.f1)) := (bkC BK184.out 1).trans rfl; have hcz56_2 : w55.cell? ⟨gb184, 2, none⟩ = some (.int .i64 ((rd_T47 l0_2 x5_3).f1.f0)) := (bkC BK184.out 2).trans rfl; have hcz56_3 : w55.cell? ⟨gb184, 3, none⟩ = some (.int .i64 ((rd_T47 l0_2 x5_3).f1.f1)) := (bkC BK184.out 3).trans rfl; have hcz56_4 : w55.cell? ⟨gb184, 4, none⟩ = some (.int .i64 ((rd_T47 l0_2 x5_3).f2)) := (bkC BK184.out 4).trans rfl; have hfz56_0 := bkF BK184.out 0; have hfz56_1 := bkF BK184.out 1; have hfz56_2 := bkF BK184.out 2; have hfz56_3 := bkF BK184.out 3; have hfz56_4 := bkF BK184.out 4) | (go_at_call 39; (with_reducible refine (hopmeshref05_Point.calls ((rd_T47 l0_2 x5_3).f1.f0) ((rd_T47 l0_2 x5_3).f1.f1) true _ A44.out).mono ?_); rintro e w57 ⟨rfl, hb⟩; have n0_ := Aside0.mk (bkB (g := gb176) (o := .cells #[.slice A0_0 l0_0.length c0_0, .slice A0_1 l0_1.length c0_1, .slice (some ad183) l0_2.length c0_2, .int .i64 a0_3, .int .i64 a0_4, .int .i64 a0_5] 26 (0, 0)) (by (with_reducible repeat (first | refine bkN ?_ _ | refine bkD ?_ | refine bkA ?_ _)); exact BK176.out) hb); have n1_ := Aside0.mk (bkB (g := gb184) (o := .cells #[.int .i64 ((rd_T47 l0_2 x5_3).f0.f0), .int .i64 ((rd_T47 l0_2 x5_3).f0.f1), .int .i64 ((rd_T47 l0_2 x5_3).f1.f0), .int .i64 ((rd_T47 l0_2 x5_3).f1.f1), .int .i64 ((rd_T47 l0_2 x5_3).f2)] 47 (0, 0)) (by (with_reducible repeat (first | refine bkN ?_ _ | refine bkD ?_ | refine bkA ?_ _)); exact BK184.out) hb); have n2_ := Aside0.mk (below_step (by repeat (first | (with_reducible first | exact HB.out | apply blA | apply blN | apply blD | refine blS ?_ GE176.out | refine blS ?_ GE184.out) | exact HB.out)) hb); clear BK176; clear BK184; clear HB; have BK176 := n0_; have BK184 := n1_; have HB := n2_; clear n0_ n1_ n2_; (try clear hb); (try clear hb2); (try clear hk); (try clear hi); have hcz58_0 : w57.cell? ⟨gb184, 0, none⟩ = some (.int .i64 ((rd_T47 l0_2 x5_3).f0.f0)) := (bkC BK184.out 0).trans rfl; have hcz58_1 : w57.cell? ⟨gb184, 1, none⟩ = some (.int .i64 ((rd_T47 l0_2 x5_3).f0.f1)) := (bkC BK184.out 1).trans rfl; have hcz58_2 : w57.cell? ⟨gb184, 2, none⟩ = some (.int .i64 ((rd_T47 l0_2 x5_3).f1.f0)) := (bkC BK184.out 2).trans rfl; have hcz58_3 : w57.cell? ⟨gb184, 3, none⟩ = some (.int .i64 ((rd_T47 l0_2 x5_3).f1.f1)) := (bkC BK184.out 3).trans rfl; have hcz58_4 : w57.cell? ⟨gb184, 4, none⟩ = some (.int .i64 ((rd_T47 l0_2 x5_3).f2)) := (bkC BK184.out 4).trans rfl; have hfz58_0 := bkF BK184.out 0; have hfz58_1 := bkF BK184.out 1; have hfz58_2 := bkF BK184.out 2; have hfz58_3 := bkF BK184.out 3; have hfz58_4 := bkF BK184.out 4))
        go_meet
        case rel => exact ⟨_, (decide (((rd_T47 l0_2 x5_3).f2) > 1000)), (by first | rfl | (simp; done) | (simp [*]; done)), H', ⟨by have := HJ1.out; have := HK2.out; have := HK3.out; first | omega | exact Nat.le_refl _⟩, ⟨by (with_reducible repeat (first | refine bkN ?_ _ | refine bkD ?_ | refine bkA ?_ _)); exact BK176.out⟩, ⟨by (with_reducible repeat (first | refine bkN ?_ _ | refine bkD ?_ | refine bkA ?_ _)); exact BK184.out⟩, ⟨by repeat (first | (with_reducible first | exact HB.out | apply blA | apply blN | apply blD | refine blS ?_ GE176.out | refine blS ?_ GE184.out) | exact HB.out)⟩⟩
       case rest =>
        clear HC37
        try clear c1
        try clear p1
        try clear q1
        try clear hx1
        try clear c2
        try clear p2
        try clear c3
        try clear c4
        try clear c5
        try clear c5b0
        try clear c5b1
        try clear c6
        try clear c6b0
        try clear c6b1
        try clear p6
        try clear c7
        try clear c7b0
        try clear c7b1
        try clear c7b2
        try clear c8
        try clear c8b0
        try clear c8b1
        try clear c10
        try clear c10b0
        try clear c10b1
        try clear c13
        try clear c13b0
        try clear c13b1
        try clear p17
        try clear q17
        try clear hx17
        try clear c18
        try clear p18
        try clear q18
        try clear hx18
        try clear c19
        try clear c19b0
        try clear c20
        try clear c20b0
        try clear c21
        try clear c21b0
        try clear c23
        try clear c24
        try clear c24b0
        try clear c26
        try clear c35
        try clear c35b0
        try clear c36
        try clear c36b0
        try clear c39
        try clear c40
        try clear c43
        try clear c45
        try clear c46
        try clear c46b0
        try clear c47
        try clear c53
        try clear c59
        try clear c64
        try clear p64
        try clear hcz12_0
        try clear hcz12_1
        try clear hcz12_2
        try clear hcz12_3
        try clear hcz12_4
        try clear hcz12_5
        try clear hcz15_0
        try clear hcz15_1
        try clear hcz15_2
        try clear hcz15_3
        try clear hcz15_4
        try clear hcz15_5
        try clear hcz16_0
        try clear hcz16_1
        try clear hcz16_2
        try clear hcz16_3
        try clear hcz16_4
        try clear hcz16_5
        try clear hcz17_0
        try clear hcz17_1
        try clear hcz17_2
        try clear hcz17_3
        try clear hcz17_4
        try clear hcz17_5
        try clear hcz27_0
        try clear hcz27_1
        try clear hcz27_2
        try clear hcz27_3
        try clear hcz27_4
        try clear hcz27_5
        try clear hcz29_0
        try clear hcz29_1
        try clear hcz29_2
        try clear hcz29_3
        try clear hcz29_4
        try clear hcz29_5
        try clear hcz30_0
        try clear hcz30_1
        try clear hcz30_2
        try clear hcz30_3
        try clear hcz30_4
        try clear hcz30_5
        try clear hcz32_0
        try clear hcz32_1
        try clear hcz32_2
        try clear hcz32_3
        try clear hcz32_4
        try clear hcz32_5
        try clear hcz33_0
        try clear hcz33_1
        try clear hcz33_2
        try clear hcz33_3
        try clear hcz33_4
        try clear hcz33_5
        try clear hcz38_0
        try clear hcz38_1
        try clear hcz38_2
        try clear hcz38_3
        try clear hcz38_4
        try clear hcz38_5
        try clear hcz41_0
        try clear hcz41_1
        try clear hcz41_2
        try clear hcz41_3
        try clear hcz41_4
        try clear hcz48_0
        try clear hcz48_1
        try clear hcz48_2
        try clear hcz48_3
        try clear hcz48_4
        try clear hcz4_0
        try clear hcz4_1
        try clear hcz4_2
        try clear hcz4_3
        try clear hcz4_4
        try clear hcz4_5
        try clear hcz50_0
        try clear hcz50_1
        try clear hcz50_2
        try clear hcz50_3
        try clear hcz50_4
        try clear hcz52_0
        try clear hcz52_1
        try clear hcz52_2
        try clear hcz52_3
        try clear hcz52_4
        try clear hcz54_0
        try clear hcz54_1
        try clear hcz54_2
        try clear hcz54_3
        try clear hcz54_4
        try clear hcz56_0
        try clear hcz56_1
        try clear hcz56_2
        try clear hcz56_3
        try clear hcz56_4
        try clear hcz58_0
        try clear hcz58_1
        try clear hcz58_2
        try clear hcz58_3
        try clear hcz58_4
        try clear hcz60_0
        try clear hcz60_1
        try clear hcz60_2
        try clear hcz60_3
        try clear hcz60_4
        try clear hcz62_0
        try clear hcz62_1
        try clear hcz62_2
        try clear hcz62_3
        try clear hcz62_4
        try clear hcz65_0
        try clear hcz65_1
        try clear hcz65_2
        try clear hcz65_3
        try clear hcz65_4
        try clear hcz9_0
        try clear hcz9_1
        try clear hcz9_2
        try clear hcz9_3
        try clear hcz9_4
        try clear hcz9_5
        try clear hfz12_0
        try clear hfz12_1
        try clear hfz12_2
        try clear hfz12_3
        try clear hfz12_4
        try clear hfz12_5
        try clear hfz15_0
        try clear hfz15_1
        try clear hfz15_2
        try clear hfz15_3
        try clear hfz15_4
        try clear hfz15_5
        try clear hfz16_0
        try clear hfz16_1
        try clear hfz16_2
        try clear hfz16_3
        try clear hfz16_4
        try clear hfz16_5
        try clear hfz17_0
        try clear hfz17_1
        try clear hfz17_2
        try clear hfz17_3
        try clear hfz17_4
        try clear hfz17_5
        try clear hfz27_0
        try clear hfz27_1
        try clear hfz27_2
        try clear hfz27_3
        try clear hfz27_4
        try clear hfz27_5
        try clear hfz29_0
        try clear hfz29_1
        try clear hfz29_2
        try clear hfz29_3
        try clear hfz29_4
        try clear hfz29_5
        try clear hfz30_0
        try clear hfz30_1
        try clear hfz30_2
        try clear hfz30_3
        try clear hfz30_4
        try clear hfz30_5
        try clear hfz32_0
        try clear hfz32_1
        try clear hfz32_2
        try clear hfz32_3
        try clear hfz32_4
        try clear hfz32_5
        try clear hfz33_0
        try clear hfz33_1
        try clear hfz33_2
        try clear hfz33_3
        try clear hfz33_4
        try clear hfz33_5
        try clear hfz38_0
        try clear hfz38_1
        try clear hfz38_2
        try clear hfz38_3
        try clear hfz38_4
        try clear hfz38_5
        try clear hfz41_0
        try clear hfz41_1
        try clear hfz41_2
        try clear hfz41_3
        try clear hfz41_4
        try clear hfz48_0
        try clear hfz48_1
        try clear hfz48_2
        try clear hfz48_3
        try clear hfz48_4
        try clear hfz4_0
        try clear hfz4_1
        try clear hfz4_2
        try clear hfz4_3
        try clear hfz4_4
        try clear hfz4_5
        try clear hfz50_0
        try clear hfz50_1
        try clear hfz50_2
        try clear hfz50_3
        try clear hfz50_4
        try clear hfz52_0
        try clear hfz52_1
        try clear hfz52_2
        try clear hfz52_3
        try clear hfz52_4
        try clear hfz54_0
        try clear hfz54_1
        try clear hfz54_2
        try clear hfz54_3
        try clear hfz54_4
        try clear hfz56_0
        try clear hfz56_1
        try clear hfz56_2
        try clear hfz56_3
        try clear hfz56_4
        try clear hfz58_0
        try clear hfz58_1
        try clear hfz58_2
        try clear hfz58_3
        try clear hfz58_4
        try clear hfz60_0
        try clear hfz60_1
        try clear hfz60_2
        try clear hfz60_3
        try clear hfz60_4
        try clear hfz62_0
        try clear hfz62_1
        try clear hfz62_2
        try clear hfz62_3
        try clear hfz62_4
        try clear hfz65_0
        try clear hfz65_1
        try clear hfz65_2
        try clear hfz65_3
        try clear hfz65_4
        try clear hfz9_0
        try clear hfz9_1
        try clear hfz9_2
        try clear hfz9_3
        try clear hfz9_4
        try clear hfz9_5
        try clear hx179_0
        try clear hx179_1
        try clear hx181_0
        try clear hx183_0
        try clear hx183_1
        try clear hx183_2
        try clear hx183_3
        try clear hx183_4
        try clear p1
        try clear p17
        try clear p179
        try clear p18
        try clear p181
        try clear p183
        try clear p2
        try clear p6
        try clear q1
        try clear q17
        try clear q179
        try clear q18
        try clear q181
        try clear q183
        obtain ⟨kq, x99_36, rfl, HA, HJ36, BK176, BK184, HB⟩ := hcut
        cases kq with
        | zero => exact absurd HA.out (by simp [hopmeshref05_Check.j3])
        | succ kj36 =>
         have H := HA.out
         clear HA
         simp only [hopmeshref05_Check.j3] at H
         by_cases c67 : x99_36 = true
         ·subst c67
          have H1 : (some 1) = some r := by rw [if_pos rfl] at H; exact H
          clear H
          have H := H1
          clear H1
          obtain rfl := Option.some.inj H
          go_wp2
          go_ret
          exact ⟨by first | rfl | (simp [errW_none, errW_some] <;> rfl) | (simp [*, errW_none, errW_some] <;> rfl), by repeat (first | (with_reducible first | exact HB.out | apply blA | apply blN | apply blD | refine blS ?_ GE176.out | refine blS ?_ GE184.out) | exact HB.out)⟩
         replace c67 := Bool.eq_false_iff.mpr c67
         subst c67
         have H1 : (hopmeshref05_Check.l1 kj36 (wrap64 (x5_3 + 1)) l0_0 l0_1 l0_2 a0_3 a0_4 a0_5) = some r := by rw [if_neg (show ¬ (false = true) by decide)] at H; exact H
         clear H
         have H := H1
         clear H1
         have H' := Aside0.mk H
         clear H
         go_wp2
         go_roundg kj36
         case measure => have := HJ1.out; have := HK2.out; have := HK3.out; have := HJ36.out; omega
         case rel => exact ⟨(wrap64 (x5_3 + 1)), (by first | rfl | (simp; done) | (simp [*]; done)), H', ⟨by have := HJ1.out; have := HK2.out; have := HK3.out; have := HJ36.out; omega⟩, ⟨by (with_reducible repeat (first | refine bkN ?_ _ | refine bkD ?_ | refine bkA ?_ _)); exact BK176.out⟩, ⟨by repeat (first | (with_reducible first | exact HB.out | apply blA | apply blN | apply blD | refine blS ?_ GE176.out | refine blS ?_ GE184.out) | exact HB.out)⟩⟩
end Go.Proofs.Ytcdgpnjlaicbcaa.PA
