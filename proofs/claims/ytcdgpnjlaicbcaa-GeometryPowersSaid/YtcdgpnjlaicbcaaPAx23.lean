-- Written by a program of this session (mkprint.py: the kit's print, changed) for this claim. Not trusted: Lean checks it.
import Derived.Test.YtcdgpnjlaicbcaaPAx0
import Derived.Test.YtcdgpnjlaicbcaaPAx14
import Derived.Test.YtcdgpnjlaicbcaaPAx22
namespace Go.Proofs.Ytcdgpnjlaicbcaa.PA
open Go.RowKit Go.Proofs.YtcdgpnjlaicbcaaW.PrintWords Go.Proofs.YtcdgpnjlaicbcaaW.PrintLast Go.Proofs.YtcdgpnjlaicbcaaW.PrintMore
attribute [local go_sem] max2_int min2_int max_two min_two max_three min_three max_four min_four   -- for this text's walks alone
-- thin
set_option linter.unusedVariables false
set_option linter.unusedSimpArgs false

/-! ### hopmeshref05_Between: function 34 -/
def hopmeshref05_Between.j0 : Nat → Int → Int → Bool → List (S28) → List Int → List (S47) → Int → Int → Int → Option (Int × Int)
 | 0, _, _, _, _, _, _, _, _, _ => none
 | k + 1, x1, x2, x30, x247000, x247001, x247002, x247003, x247004, x247005 => if x30 = true then (some (0, 7)) else (if x1 = x2 then (some (0, 0)) else (if 0 ≤ x1 then (if x1 < (x247000.length : Int) then (if x1 < (x247001.length : Int) then (if 0 ≤ x2 then (if x2 < (x247000.length : Int) then ((hopmeshref05_at.f k x247000 x247001 x247002 x247003 x247004 x247005 ((rd_T28 x247000 x1).f0) ((rd_T28 x247000 x1).f1) (rd x247001 x1) ((rd_T28 x247000 x2).f0) ((rd_T28 x247000 x2).f1)).bind fun t251 => (some (t251, 0))) else (none)) else (none)) else (none)) else (none)) else (none)))
def hopmeshref05_Between.f (k : Nat) (l0_0 : List (S28)) (l0_1 : List Int) (l0_2 : List (S47)) (a0_3 : Int) (a0_4 : Int) (a0_5 : Int) (a1 : Int) (a2 : Int) : Option (Int × Int) := (hopmeshref05_Check.f k l0_0 l0_1 l0_2 a0_3 a0_4 a0_5).bind fun t247 => (if t247 = 0 then (if a1 < 0 then (hopmeshref05_Between.j0 k a1 a2 true l0_0 l0_1 l0_2 a0_3 a0_4 a0_5) else (if a1 ≥ (l0_0.length : Int) then (hopmeshref05_Between.j0 k a1 a2 true l0_0 l0_1 l0_2 a0_3 a0_4 a0_5) else (if a2 < 0 then (hopmeshref05_Between.j0 k a1 a2 true l0_0 l0_1 l0_2 a0_3 a0_4 a0_5) else (hopmeshref05_Between.j0 k a1 a2 (decide (a2 ≥ (l0_0.length : Int))) l0_0 l0_1 l0_2 a0_3 a0_4 a0_5)))) else (some (0, 1)))
theorem hopmeshref05_Between.mono_l : ∀ k, (∀ y0 y1 y2 y3 y4 y5 y6 y7 y8, LeO (hopmeshref05_Between.j0 k y0 y1 y2 y3 y4 y5 y6 y7 y8) (hopmeshref05_Between.j0 (k + 1) y0 y1 y2 y3 y4 y5 y6 y7 y8))
 | 0 => fun _ _ _ _ _ _ _ _ _ r h => by simp [hopmeshref05_Between.j0] at h
 | k + 1 => by
  have ih0 := hopmeshref05_Between.mono_l k
  ·intro y0 y1 y2 y3 y4 y5 y6 y7 y8
   unfold hopmeshref05_Between.j0
   repeat' first
   | (with_reducible exact ih0 _ _ _ _ _ _ _ _ _)
   | (with_reducible exact hopmeshref05_Check.mono _ _ _ _ _ _ _)
   | (with_reducible exact hopmeshref05_at.mono _ _ _ _ _ _ _ _ _ _ _ _)
   | (with_reducible exact LeO.refl _)
   | (with_reducible exact LeO.none _)
   | (with_reducible refine LeO.ite ?_ ?_)
   | (with_reducible refine LeO.bind ?_ (fun _ => ?_))
   | exact ih0 _ _ _ _ _ _ _ _ _
   | exact hopmeshref05_Check.mono _ _ _ _ _ _ _
   | exact hopmeshref05_at.mono _ _ _ _ _ _ _ _ _ _ _ _
   | exact LeO.none _
   | refine LeO.ite ?_ ?_
   | refine LeO.bind ?_ (fun _ => ?_)
theorem hopmeshref05_Between.mono : ∀ a0 a1 a2 a3 a4 a5 a6 a7 k, LeO (hopmeshref05_Between.f k a0 a1 a2 a3 a4 a5 a6 a7) (hopmeshref05_Between.f (k + 1) a0 a1 a2 a3 a4 a5 a6 a7) := by
 intro a0 a1 a2 a3 a4 a5 a6 a7 k
 have ih0 := hopmeshref05_Between.mono_l k
 unfold hopmeshref05_Between.f
 repeat' first
  | (with_reducible exact ih0 _ _ _ _ _ _ _ _ _)
  | (with_reducible exact hopmeshref05_Check.mono _ _ _ _ _ _ _)
  | (with_reducible exact hopmeshref05_at.mono _ _ _ _ _ _ _ _ _ _ _ _)
  | (with_reducible exact LeO.refl _)
  | (with_reducible exact LeO.none _)
  | (with_reducible refine LeO.ite ?_ ?_)
  | (with_reducible refine LeO.bind ?_ (fun _ => ?_))
  | exact ih0 _ _ _ _ _ _ _ _ _
  | exact hopmeshref05_Check.mono _ _ _ _ _ _ _
  | exact hopmeshref05_at.mono _ _ _ _ _ _ _ _ _ _ _ _
  | exact LeO.none _
  | refine LeO.ite ?_ ?_
  | refine LeO.bind ?_ (fun _ => ?_)
def hopmeshref05_Between.T7 : Bool × List (List Nat × List Nat) := (true, [([], []), ([], []), ([1], [1]), ([], []), ([2, 3], [2, 3]), ([4], [4]), ([], []), ([6], [6]), ([], []), ([7, 8], [7, 8]), ([9], [9]), ([], []), ([11], [11]), ([], []), ([12, 13], [12, 13]), ([14], [14]), ([0, 5, 10, 15], [0, 5, 10, 15]), ([16, 16, 0, 1, 2, 3, 4, 5, 6, 7, 8, 9, 10, 11, 12, 13, 14, 15, 16], [16]), ([17, 0, 1, 2, 3, 4, 5, 6, 7, 8, 9, 10, 11, 12, 13, 14, 15, 16, 17], [])])
def hopmeshref05_Between.B7 : List Nat := [0, 0, 2, 0, 14, 30, 0, 64, 0, 448, 960, 0, 2048, 0, 14336, 30720, 65535, 131071, 262143]
theorem hopmeshref05_Between.tab7 : rtab .any (opsOf Try.f34 7) = hopmeshref05_Between.T7 := by kernel_rfl
theorem hopmeshref05_Between.bits7 : waitsOk hopmeshref05_Between.T7.2 hopmeshref05_Between.B7 = true := by kernel_rfl
set_option maxHeartbeats 8000000 in
set_option maxRecDepth 100000 in
theorem hopmeshref05_Between.calls (k : Nat) (A0_0 : Option Addr) (c0_0 : Nat) (l0_0 : List (S28)) (A0_1 : Option Addr) (c0_1 : Nat) (l0_1 : List Int) (A0_2 : Option Addr) (c0_2 : Nat) (l0_2 : List (S47)) (a0_3 : Int) (a0_4 : Int) (a0_5 : Int) (a1 : Int) (a2 : Int) (r1 : Int) (r2 : Int) (w : World) (hr0_0 : Kd.C k28 w A0_0 l0_0.length l0_0) (hc0_0 : l0_0.length ≤ c0_0) (hr0_1 : Kd.C (Kd.int .i64) w A0_1 l0_1.length l0_1) (hc0_1 : l0_1.length ≤ c0_1) (hr0_2 : Kd.C k47 w A0_2 l0_2.length l0_2) (hc0_2 : l0_2.length ≤ c0_2) (h : hopmeshref05_Between.f k l0_0 l0_1 l0_2 a0_3 a0_4 a0_5 a1 a2 = some (r1, r2)) :
 Calls Try.prog 34 #[.agg #[.slice A0_0 l0_0.length c0_0, .slice A0_1 l0_1.length c0_1, .slice A0_2 l0_2.length c0_2, .int .i64 a0_3, .int .i64 a0_4, .int .i64 a0_5], .int .i64 a1, .int .i64 a2] w fun e w' => e = .returned (.tuple #[.int .i64 r1, .int .i64 r2]) ∧ Below w.heap.size w w' := by
 have hu26 := Try.underlying26
 have hu28 := Try.underlying28
 have HR0_0 := Aside0.mk hr0_0
 have HC0_0 := Aside0.mk hc0_0
 clear hr0_0 hc0_0
 have HR0_1 := Aside0.mk hr0_1
 have HC0_1 := Aside0.mk hc0_1
 clear hr0_1 hc0_1
 have HR0_2 := Aside0.mk hr0_2
 have HC0_2 := Aside0.mk hc0_2
 clear hr0_2 hc0_2
 have HB := Aside0.mk (Below.refl w.heap.size w)
 have H : ((hopmeshref05_Check.f k l0_0 l0_1 l0_2 a0_3 a0_4 a0_5).bind fun t247 => (if t247 = 0 then (if a1 < 0 then (hopmeshref05_Between.j0 k a1 a2 true l0_0 l0_1 l0_2 a0_3 a0_4 a0_5) else (if a1 ≥ (l0_0.length : Int) then (hopmeshref05_Between.j0 k a1 a2 true l0_0 l0_1 l0_2 a0_3 a0_4 a0_5) else (if a2 < 0 then (hopmeshref05_Between.j0 k a1 a2 true l0_0 l0_1 l0_2 a0_3 a0_4 a0_5) else (hopmeshref05_Between.j0 k a1 a2 (decide (a2 ≥ (l0_0.length : Int))) l0_0 l0_1 l0_2 a0_3 a0_4 a0_5)))) else (some (0, 1)))) = some (r1, r2) := h
 clear h
 replace H := Option.bind_eq_some_iff.mp H
 obtain ⟨t247, A40, H⟩ := H
 replace H : (if t247 = 0 then (if a1 < 0 then (hopmeshref05_Between.j0 k a1 a2 true l0_0 l0_1 l0_2 a0_3 a0_4 a0_5) else (if a1 ≥ (l0_0.length : Int) then (hopmeshref05_Between.j0 k a1 a2 true l0_0 l0_1 l0_2 a0_3 a0_4 a0_5) else (if a2 < 0 then (hopmeshref05_Between.j0 k a1 a2 true l0_0 l0_1 l0_2 a0_3 a0_4 a0_5) else (hopmeshref05_Between.j0 k a1 a2 (decide (a2 ≥ (l0_0.length : Int))) l0_0 l0_1 l0_2 a0_3 a0_4 a0_5)))) else (some (0, 1))) = some (r1, r2) := H
 have A4 := Aside0.mk A40
 clear A40
 by_cases c5 : t247 = 0
 rotate_left
 ·rw [if_neg c5] at H
  have c5b0 : (t247 == 0) = false := beq_eq_false_iff_ne.mpr c5
  have c5b1 : (t247 != 0) = true := bne_iff_ne.mpr c5
  simp only [Option.some.injEq, Prod.mk.injEq] at H
  obtain ⟨rfl, rfl⟩ := H
  go_enter Try.func34, Try.ntmps34
  go_wp2_with (first | ((with_reducible refine gate_dst (N := 3) rfl ?_); refine box_event ?hg (N := 3) ?hd (cs := #[.slice A0_0 l0_0.length c0_0, .slice A0_1 l0_1.length c0_1, .slice A0_2 l0_2.length c0_2, .int .i64 a0_3, .int .i64 a0_4, .int .i64 a0_5]) (t := 26) ?hr ?_; (case hd => rfl); (case hg => rfl); (case hr => first | (go_simp; done) | (go_simp; rfl)); intro gb246 hg w26 hbox hb; have n0_ := Aside0.mk (below_step (by repeat (first | (with_reducible first | exact HB.out | apply blA | apply blN | apply blD) | exact HB.out)) hb); have n1_ := Aside0.mk (hbox); have n2_ := Aside0.mk ((by rw [hg]; exact (below_size (by repeat (first | (with_reducible first | exact HB.out | apply blA | apply blN | apply blD) | exact HB.out))) : w.heap.size ≤ gb246)); have n3_ := Aside0.mk ((by rw [hg]; exact (below_size (by repeat (first | (with_reducible first | exact HB.out | apply blA | apply blN | apply blD) | exact HB.out))) : w.heap.size ≤ gb246)); clear HB; have HB := n0_; have BK246 := n1_; have GW246 := n2_; have GE246 := n3_; clear n0_ n1_ n2_ n3_; clear hb hbox hg; have hcz27_0 : w26.cell? ⟨gb246, 0, none⟩ = some (.slice A0_0 l0_0.length c0_0) := (bkC BK246.out 0).trans rfl; have hcz27_1 : w26.cell? ⟨gb246, 1, none⟩ = some (.slice A0_1 l0_1.length c0_1) := (bkC BK246.out 1).trans rfl; have hcz27_2 : w26.cell? ⟨gb246, 2, none⟩ = some (.slice A0_2 l0_2.length c0_2) := (bkC BK246.out 2).trans rfl; have hcz27_3 : w26.cell? ⟨gb246, 3, none⟩ = some (.int .i64 a0_3) := (bkC BK246.out 3).trans rfl; have hcz27_4 : w26.cell? ⟨gb246, 4, none⟩ = some (.int .i64 a0_4) := (bkC BK246.out 4).trans rfl; have hcz27_5 : w26.cell? ⟨gb246, 5, none⟩ = some (.int .i64 a0_5) := (bkC BK246.out 5).trans rfl; have hfz27_0 := bkF BK246.out 0; have hfz27_1 := bkF BK246.out 1; have hfz27_2 := bkF BK246.out 2; have hfz27_3 := bkF BK246.out 3; have hfz27_4 := bkF BK246.out 4; have hfz27_5 := bkF BK246.out 5) | ((with_reducible refine gate_callee (f := 36) rfl ?_); refine goesL_ (some 9) rfl rfl Try.func36 (by kernel_rfl) rfl #[.agg #[.slice A0_0 l0_0.length c0_0, .slice A0_1 l0_1.length c0_1, .slice A0_2 l0_2.length c0_2, .int .i64 a0_3, .int .i64 a0_4, .int .i64 a0_5]] rfl (by (try simp only [List.map_toArray, List.map_cons, List.map_nil]); first | done | rfl | (simp only [List.length_drop, List.length_take]; rfl)) ?_; (with_reducible refine (hopmeshref05_Check.calls k _ _ l0_0 _ _ l0_1 _ _ l0_2 a0_3 a0_4 a0_5 t247 _ ?side1 ?side2 ?side3 ?side4 ?side5 ?side6 A4.out).mono ?_); (case side1 => repeat (first | exact (Kd.C_below HR0_0.out HB.out) | (with_reducible refine Kd.C_alloc ?_ _) | (with_reducible refine Kd.C_drewN ?_ _) | (with_reducible refine Kd.C_drew ?_))); (case side2 => exact HC0_0.out); (case side3 => repeat (first | exact (Kd.C_below HR0_1.out HB.out) | (with_reducible refine Kd.C_alloc ?_ _) | (with_reducible refine Kd.C_drewN ?_ _) | (with_reducible refine Kd.C_drew ?_))); (case side4 => exact HC0_1.out); (case side5 => repeat (first | exact (Kd.C_below HR0_2.out HB.out) | (with_reducible refine Kd.C_alloc ?_ _) | (with_reducible refine Kd.C_drewN ?_ _) | (with_reducible refine Kd.C_drew ?_))); (case side6 => exact HC0_2.out); rintro e w28 ⟨rfl, hb⟩; refine ⟨_, rfl, ?_⟩; have n0_ := Aside0.mk (bkB (g := gb246) (o := .cells #[.slice A0_0 l0_0.length c0_0, .slice A0_1 l0_1.length c0_1, .slice A0_2 l0_2.length c0_2, .int .i64 a0_3, .int .i64 a0_4, .int .i64 a0_5] 26 (0, 0)) (by (with_reducible repeat (first | refine bkN ?_ _ | refine bkD ?_ | refine bkA ?_ _)); exact BK246.out) hb); have n1_ := Aside0.mk (below_step (by repeat (first | (with_reducible first | exact HB.out | apply blA | apply blN | apply blD | refine blS ?_ GE246.out) | exact HB.out)) hb); clear BK246; clear HB; have BK246 := n0_; have HB := n1_; clear n0_ n1_; (try clear hb); (try clear hb2); (try clear hk); (try clear hi)))
  go_ret2
  exact ⟨by first | rfl | (simp [errW_none, errW_some] <;> rfl) | (simp [*, errW_none, errW_some] <;> rfl), by repeat (first | (with_reducible first | exact HB.out | apply blA | apply blN | apply blD | refine blS ?_ GE246.out) | exact HB.out)⟩

 rw [if_pos c5] at H
 have c5b0 : (t247 == 0) = true := beq_iff_eq.mpr c5
 have c5b1 : (t247 != 0) = false := bne_eq_false_iff_eq.mpr c5
 clear c5
 have HC6 := Aside0.mk H
 clear H
 go_enter Try.func34, Try.ntmps34
 go_upto_region 3 with (first | ((with_reducible refine gate_dst (N := 3) rfl ?_); refine box_event ?hg (N := 3) ?hd (cs := #[.slice A0_0 l0_0.length c0_0, .slice A0_1 l0_1.length c0_1, .slice A0_2 l0_2.length c0_2, .int .i64 a0_3, .int .i64 a0_4, .int .i64 a0_5]) (t := 26) ?hr ?_; (case hd => rfl); (case hg => rfl); (case hr => first | (go_simp; done) | (go_simp; rfl)); intro gb246 hg w7 hbox hb; have n0_ := Aside0.mk (below_step (by repeat (first | (with_reducible first | exact HB.out | apply blA | apply blN | apply blD) | exact HB.out)) hb); have n1_ := Aside0.mk (hbox); have n2_ := Aside0.mk ((by rw [hg]; exact (below_size (by repeat (first | (with_reducible first | exact HB.out | apply blA | apply blN | apply blD) | exact HB.out))) : w.heap.size ≤ gb246)); have n3_ := Aside0.mk ((by rw [hg]; exact (below_size (by repeat (first | (with_reducible first | exact HB.out | apply blA | apply blN | apply blD) | exact HB.out))) : w.heap.size ≤ gb246)); clear HB; have HB := n0_; have BK246 := n1_; have GW246 := n2_; have GE246 := n3_; clear n0_ n1_ n2_ n3_; clear hb hbox hg; have hcz8_0 : w7.cell? ⟨gb246, 0, none⟩ = some (.slice A0_0 l0_0.length c0_0) := (bkC BK246.out 0).trans rfl; have hcz8_1 : w7.cell? ⟨gb246, 1, none⟩ = some (.slice A0_1 l0_1.length c0_1) := (bkC BK246.out 1).trans rfl; have hcz8_2 : w7.cell? ⟨gb246, 2, none⟩ = some (.slice A0_2 l0_2.length c0_2) := (bkC BK246.out 2).trans rfl; have hcz8_3 : w7.cell? ⟨gb246, 3, none⟩ = some (.int .i64 a0_3) := (bkC BK246.out 3).trans rfl; have hcz8_4 : w7.cell? ⟨gb246, 4, none⟩ = some (.int .i64 a0_4) := (bkC BK246.out 4).trans rfl; have hcz8_5 : w7.cell? ⟨gb246, 5, none⟩ = some (.int .i64 a0_5) := (bkC BK246.out 5).trans rfl; have hfz8_0 := bkF BK246.out 0; have hfz8_1 := bkF BK246.out 1; have hfz8_2 := bkF BK246.out 2; have hfz8_3 := bkF BK246.out 3; have hfz8_4 := bkF BK246.out 4; have hfz8_5 := bkF BK246.out 5) | ((with_reducible refine gate_callee (f := 36) rfl ?_); refine goesL_ (some 9) rfl rfl Try.func36 (by kernel_rfl) rfl #[.agg #[.slice A0_0 l0_0.length c0_0, .slice A0_1 l0_1.length c0_1, .slice A0_2 l0_2.length c0_2, .int .i64 a0_3, .int .i64 a0_4, .int .i64 a0_5]] rfl (by (try simp only [List.map_toArray, List.map_cons, List.map_nil]); first | done | rfl | (simp only [List.length_drop, List.length_take]; rfl)) ?_; (with_reducible refine (hopmeshref05_Check.calls k _ _ l0_0 _ _ l0_1 _ _ l0_2 a0_3 a0_4 a0_5 t247 _ ?side1 ?side2 ?side3 ?side4 ?side5 ?side6 A4.out).mono ?_); (case side1 => repeat (first | exact (Kd.C_below HR0_0.out HB.out) | (with_reducible refine Kd.C_alloc ?_ _) | (with_reducible refine Kd.C_drewN ?_ _) | (with_reducible refine Kd.C_drew ?_))); (case side2 => exact HC0_0.out); (case side3 => repeat (first | exact (Kd.C_below HR0_1.out HB.out) | (with_reducible refine Kd.C_alloc ?_ _) | (with_reducible refine Kd.C_drewN ?_ _) | (with_reducible refine Kd.C_drew ?_))); (case side4 => exact HC0_1.out); (case side5 => repeat (first | exact (Kd.C_below HR0_2.out HB.out) | (with_reducible refine Kd.C_alloc ?_ _) | (with_reducible refine Kd.C_drewN ?_ _) | (with_reducible refine Kd.C_drew ?_))); (case side6 => exact HC0_2.out); rintro e w9 ⟨rfl, hb⟩; refine ⟨_, rfl, ?_⟩; have n0_ := Aside0.mk (bkB (g := gb246) (o := .cells #[.slice A0_0 l0_0.length c0_0, .slice A0_1 l0_1.length c0_1, .slice A0_2 l0_2.length c0_2, .int .i64 a0_3, .int .i64 a0_4, .int .i64 a0_5] 26 (0, 0)) (by (with_reducible repeat (first | refine bkN ?_ _ | refine bkD ?_ | refine bkA ?_ _)); exact BK246.out) hb); have n1_ := Aside0.mk (below_step (by repeat (first | (with_reducible first | exact HB.out | apply blA | apply blN | apply blD | refine blS ?_ GE246.out) | exact HB.out)) hb); clear BK246; clear HB; have BK246 := n0_; have HB := n1_; clear n0_ n1_; (try clear hb); (try clear hb2); (try clear hk); (try clear hi)))
 (try simp only [Act.put, List.setIfInBounds_toArray, List.set_cons_zero, List.set_cons_succ])
 go_cut [30] (fun v30 wc => ∃ (kq : Nat) (x30_5 : Bool), v30 = .bool x30_5 ∧ Aside0 (hopmeshref05_Between.j0 kq a1 a2 x30_5 l0_0 l0_1 l0_2 a0_3 a0_4 a0_5 = some (r1, r2)) ∧ Aside0 (kq ≤ k) ∧ Aside0 (wc.heap[gb246]? = some (.cells #[(.slice A0_0 l0_0.length c0_0), (.slice A0_1 l0_1.length c0_1), (.slice A0_2 l0_2.length c0_2), .int .i64 a0_3, .int .i64 a0_4, .int .i64 a0_5] 26 (0, 0))) ∧ Aside0 (Below w.heap.size w wc))
 case first =>
  have H := HC6.out
  clear HC6
  by_cases c10 : a1 < 0
  ·rw [if_pos c10] at H
   have c10b0 : decide (a1 < 0) = true := decide_eq_true c10
   clear c10
   (first | rw [c10b0] | (simp only [i64_w, i32_w]; rw [c10b0]) | skip)
   have H' := Aside0.mk H
   clear H
   go_wp2
   go_meet
   case rel => exact ⟨_, (true), (by first | rfl | (simp; done) | (simp [*]; done)), H', ⟨by first | omega | exact Nat.le_refl _⟩, ⟨by (with_reducible repeat (first | refine bkN ?_ _ | refine bkD ?_ | refine bkA ?_ _)); exact BK246.out⟩, ⟨by repeat (first | (with_reducible first | exact HB.out | apply blA | apply blN | apply blD | refine blS ?_ GE246.out) | exact HB.out)⟩⟩
  rw [if_neg c10] at H
  have c10b0 : decide (a1 < 0) = false := decide_eq_false c10
  clear c10
  (first | rw [c10b0] | (simp only [i64_w, i32_w]; rw [c10b0]) | skip)
  by_cases c11 : a1 ≥ (l0_0.length : Int)
  ·rw [if_pos c11] at H
   have c11b0 : decide ((l0_0.length : Int) ≤ a1) = true := decide_eq_true c11
   clear c11
   have H' := Aside0.mk H
   clear H
   have hcz12_0 : w9.cell? ⟨gb246, 0, none⟩ = some (.slice A0_0 l0_0.length c0_0) := (bkC BK246.out 0).trans rfl
   have hcz12_1 : w9.cell? ⟨gb246, 1, none⟩ = some (.slice A0_1 l0_1.length c0_1) := (bkC BK246.out 1).trans rfl
   have hcz12_2 : w9.cell? ⟨gb246, 2, none⟩ = some (.slice A0_2 l0_2.length c0_2) := (bkC BK246.out 2).trans rfl
   have hcz12_3 : w9.cell? ⟨gb246, 3, none⟩ = some (.int .i64 a0_3) := (bkC BK246.out 3).trans rfl
   have hcz12_4 : w9.cell? ⟨gb246, 4, none⟩ = some (.int .i64 a0_4) := (bkC BK246.out 4).trans rfl
   have hcz12_5 : w9.cell? ⟨gb246, 5, none⟩ = some (.int .i64 a0_5) := (bkC BK246.out 5).trans rfl
   have hfz12_0 := bkF BK246.out 0
   have hfz12_1 := bkF BK246.out 1
   have hfz12_2 := bkF BK246.out 2
   have hfz12_3 := bkF BK246.out 3
   have hfz12_4 := bkF BK246.out 4
   have hfz12_5 := bkF BK246.out 5
   go_wp2
   go_meet
   case rel => exact ⟨_, (true), (by first | rfl | (simp; done) | (simp [*]; done)), H', ⟨by first | omega | exact Nat.le_refl _⟩, ⟨by (with_reducible repeat (first | refine bkN ?_ _ | refine bkD ?_ | refine bkA ?_ _)); exact BK246.out⟩, ⟨by repeat (first | (with_reducible first | exact HB.out | apply blA | apply blN | apply blD | refine blS ?_ GE246.out) | exact HB.out)⟩⟩
  rw [if_neg c11] at H
  have c11b0 : decide ((l0_0.length : Int) ≤ a1) = false := decide_eq_false c11
  clear c11
  by_cases c13 : a2 < 0
  ·rw [if_pos c13] at H
   have c13b0 : decide (a2 < 0) = true := decide_eq_true c13
   clear c13
   have H' := Aside0.mk H
   clear H
   have hcz14_0 : w9.cell? ⟨gb246, 0, none⟩ = some (.slice A0_0 l0_0.length c0_0) := (bkC BK246.out 0).trans rfl
   have hcz14_1 : w9.cell? ⟨gb246, 1, none⟩ = some (.slice A0_1 l0_1.length c0_1) := (bkC BK246.out 1).trans rfl
   have hcz14_2 : w9.cell? ⟨gb246, 2, none⟩ = some (.slice A0_2 l0_2.length c0_2) := (bkC BK246.out 2).trans rfl
   have hcz14_3 : w9.cell? ⟨gb246, 3, none⟩ = some (.int .i64 a0_3) := (bkC BK246.out 3).trans rfl
   have hcz14_4 : w9.cell? ⟨gb246, 4, none⟩ = some (.int .i64 a0_4) := (bkC BK246.out 4).trans rfl
   have hcz14_5 : w9.cell? ⟨gb246, 5, none⟩ = some (.int .i64 a0_5) := (bkC BK246.out 5).trans rfl
   have hfz14_0 := bkF BK246.out 0
   have hfz14_1 := bkF BK246.out 1
   have hfz14_2 := bkF BK246.out 2
   have hfz14_3 := bkF BK246.out 3
   have hfz14_4 := bkF BK246.out 4
   have hfz14_5 := bkF BK246.out 5
   go_wp2
   go_meet
   case rel => exact ⟨_, (true), (by first | rfl | (simp; done) | (simp [*]; done)), H', ⟨by first | omega | exact Nat.le_refl _⟩, ⟨by (with_reducible repeat (first | refine bkN ?_ _ | refine bkD ?_ | refine bkA ?_ _)); exact BK246.out⟩, ⟨by repeat (first | (with_reducible first | exact HB.out | apply blA | apply blN | apply blD | refine blS ?_ GE246.out) | exact HB.out)⟩⟩
  rw [if_neg c13] at H
  have c13b0 : decide (a2 < 0) = false := decide_eq_false c13
  clear c13
  have H' := Aside0.mk H
  clear H
  have hcz15_0 : w9.cell? ⟨gb246, 0, none⟩ = some (.slice A0_0 l0_0.length c0_0) := (bkC BK246.out 0).trans rfl
  have hcz15_1 : w9.cell? ⟨gb246, 1, none⟩ = some (.slice A0_1 l0_1.length c0_1) := (bkC BK246.out 1).trans rfl
  have hcz15_2 : w9.cell? ⟨gb246, 2, none⟩ = some (.slice A0_2 l0_2.length c0_2) := (bkC BK246.out 2).trans rfl
  have hcz15_3 : w9.cell? ⟨gb246, 3, none⟩ = some (.int .i64 a0_3) := (bkC BK246.out 3).trans rfl
  have hcz15_4 : w9.cell? ⟨gb246, 4, none⟩ = some (.int .i64 a0_4) := (bkC BK246.out 4).trans rfl
  have hcz15_5 : w9.cell? ⟨gb246, 5, none⟩ = some (.int .i64 a0_5) := (bkC BK246.out 5).trans rfl
  have hfz15_0 := bkF BK246.out 0
  have hfz15_1 := bkF BK246.out 1
  have hfz15_2 := bkF BK246.out 2
  have hfz15_3 := bkF BK246.out 3
  have hfz15_4 := bkF BK246.out 4
  have hfz15_5 := bkF BK246.out 5
  go_wp2
  go_meet
  case rel => exact ⟨_, (decide (a2 ≥ (l0_0.length : Int))), (by first | rfl | (simp; done) | (simp [*]; done)), H', ⟨by first | omega | exact Nat.le_refl _⟩, ⟨by (with_reducible repeat (first | refine bkN ?_ _ | refine bkD ?_ | refine bkA ?_ _)); exact BK246.out⟩, ⟨by repeat (first | (with_reducible first | exact HB.out | apply blA | apply blN | apply blD | refine blS ?_ GE246.out) | exact HB.out)⟩⟩
 case rest =>
  clear HC6
  try clear c1
  try clear p2
  try clear c3
  try clear c5
  try clear c5b0
  try clear c5b1
  try clear c10
  try clear c10b0
  try clear c11
  try clear c11b0
  try clear c13
  try clear c13b0
  try clear hcz12_0
  try clear hcz12_1
  try clear hcz12_2
  try clear hcz12_3
  try clear hcz12_4
  try clear hcz12_5
  try clear hcz14_0
  try clear hcz14_1
  try clear hcz14_2
  try clear hcz14_3
  try clear hcz14_4
  try clear hcz14_5
  try clear hcz15_0
  try clear hcz15_1
  try clear hcz15_2
  try clear hcz15_3
  try clear hcz15_4
  try clear hcz15_5
  try clear hcz8_0
  try clear hcz8_1
  try clear hcz8_2
  try clear hcz8_3
  try clear hcz8_4
  try clear hcz8_5
  try clear hfz12_0
  try clear hfz12_1
  try clear hfz12_2
  try clear hfz12_3
  try clear hfz12_4
  try clear hfz12_5
  try clear hfz14_0
  try clear hfz14_1
  try clear hfz14_2
  try clear hfz14_3
  try clear hfz14_4
  try clear hfz14_5
  try clear hfz15_0
  try clear hfz15_1
  try clear hfz15_2
  try clear hfz15_3
  try clear hfz15_4
  try clear hfz15_5
  try clear hfz8_0
  try clear hfz8_1
  try clear hfz8_2
  try clear hfz8_3
  try clear hfz8_4
  try clear hfz8_5
  obtain ⟨kq, x30_5, rfl, HA, HJ5, BK246, HB⟩ := hcut
  cases kq with
  | zero => exact absurd HA.out (by simp [hopmeshref05_Between.j0])
  | succ kj5 =>
   have H := HA.out
   clear HA
   simp only [hopmeshref05_Between.j0] at H
   by_cases c16 : x30_5 = true
   ·subst c16
    have H1 : (some (0, 7)) = some (r1, r2) := by rw [if_pos rfl] at H; exact H
    clear H
    have H := H1
    clear H1
    simp only [Option.some.injEq, Prod.mk.injEq] at H
    obtain ⟨rfl, rfl⟩ := H
    go_wp2
    go_ret2
    exact ⟨by first | rfl | (simp [errW_none, errW_some] <;> rfl) | (simp [*, errW_none, errW_some] <;> rfl), by repeat (first | (with_reducible first | exact HB.out | apply blA | apply blN | apply blD | refine blS ?_ GE246.out) | exact HB.out)⟩
   replace c16 := Bool.eq_false_iff.mpr c16
   subst c16
   have H1 : (if a1 = a2 then (some (0, 0)) else (if 0 ≤ a1 then (if a1 < (l0_0.length : Int) then (if a1 < (l0_1.length : Int) then (if 0 ≤ a2 then (if a2 < (l0_0.length : Int) then ((hopmeshref05_at.f kj5 l0_0 l0_1 l0_2 a0_3 a0_4 a0_5 ((rd_T28 l0_0 a1).f0) ((rd_T28 l0_0 a1).f1) (rd l0_1 a1) ((rd_T28 l0_0 a2).f0) ((rd_T28 l0_0 a2).f1)).bind fun t251 => (some (t251, 0))) else (none)) else (none)) else (none)) else (none)) else (none))) = some (r1, r2) := by rw [if_neg (show ¬ (false = true) by decide)] at H; exact H
   clear H
   have H := H1
   clear H1
   by_cases c17 : a1 = a2
   ·rw [if_pos c17] at H
    have c17b0 : (a1 == a2) = true := beq_iff_eq.mpr c17
    have c17b1 : (a1 != a2) = false := bne_eq_false_iff_eq.mpr c17
    clear c17
    simp only [Option.some.injEq, Prod.mk.injEq] at H
    obtain ⟨rfl, rfl⟩ := H
    go_wp2
    go_ret2
    exact ⟨by first | rfl | (simp [errW_none, errW_some] <;> rfl) | (simp [*, errW_none, errW_some] <;> rfl), by repeat (first | (with_reducible first | exact HB.out | apply blA | apply blN | apply blD | refine blS ?_ GE246.out) | exact HB.out)⟩
   rw [if_neg c17] at H
   have c17b0 : (a1 == a2) = false := beq_eq_false_iff_ne.mpr c17
   have c17b1 : (a1 != a2) = true := bne_iff_ne.mpr c17
   by_cases c18 : 0 ≤ a1
   rotate_left
   ·rw [if_neg c18] at H
    exact absurd H (by simp)
   rw [if_pos c18] at H
   have c18b0 : decide (0 ≤ a1) = true := decide_eq_true c18
   clear c18
   by_cases c19 : a1 < (l0_0.length : Int)
   rotate_left
   ·rw [if_neg c19] at H
    exact absurd H (by simp)
   rw [if_pos c19] at H
   have c19b0 : decide (a1 < (l0_0.length : Int)) = true := decide_eq_true c19
   clear c19
   by_cases c20 : a1 < (l0_1.length : Int)
   rotate_left
   ·rw [if_neg c20] at H
    exact absurd H (by simp)
   rw [if_pos c20] at H
   have c20b0 : decide (a1 < (l0_1.length : Int)) = true := decide_eq_true c20
   clear c20
   by_cases c21 : 0 ≤ a2
   rotate_left
   ·rw [if_neg c21] at H
    exact absurd H (by simp)
   rw [if_pos c21] at H
   have c21b0 : decide (0 ≤ a2) = true := decide_eq_true c21
   clear c21
   by_cases c22 : a2 < (l0_0.length : Int)
   rotate_left
   ·rw [if_neg c22] at H
    exact absurd H (by simp)
   rw [if_pos c22] at H
   have c22b0 : decide (a2 < (l0_0.length : Int)) = true := decide_eq_true c22
   clear c22
   replace H := Option.bind_eq_some_iff.mp H
   obtain ⟨t251, A230, H⟩ := H
   replace H : (some (t251, 0)) = some (r1, r2) := H
   have A23 := Aside0.mk A230
   clear A230
   simp only [Option.some.injEq, Prod.mk.injEq] at H
   obtain ⟨rfl, rfl⟩ := H
   try go_wp2
   have n0_ := Aside0.mk (bkD BK246.out)
   have n1_ := Aside0.mk (blD HB.out)
   clear BK246
   clear HB
   have BK246 := n0_
   have HB := n1_
   clear n0_ n1_
   have p248 : 0 ≤ (a1 : Int) := of_decide_eq_true (by first | (with_reducible assumption) | assumption)
   have q248 : a1 < (l0_0.length : Int) := of_decide_eq_true (by first | (with_reducible assumption) | assumption)
   obtain ⟨ad248, e248, hx248_0, hx248_1⟩ := at_T28 HR0_0.out a1 p248 q248
   have hw248_1 := hx248_1
   have hw248_0 := hx248_0
   cases e248
   replace hx248_0 := (HB.out.cell (World.block_lt_of_cell? w _ hx248_0)).trans hx248_0
   replace hx248_1 := (HB.out.cell (World.block_lt_of_cell? w _ hx248_1)).trans hx248_1
   replace p248 := eq_true p248
   replace q248 := eq_true q248
   have p249 : 0 ≤ (a1 : Int) := of_decide_eq_true (by first | (with_reducible assumption) | assumption)
   have q249 : a1 < (l0_1.length : Int) := of_decide_eq_true (by first | (with_reducible assumption) | assumption)
   obtain ⟨ad249, e249, hx249_0⟩ := Kd.at_int HR0_1.out a1 p249 q249
   have hw249_0 := hx249_0
   cases e249
   replace hx249_0 := (HB.out.cell (World.block_lt_of_cell? w _ hx249_0)).trans hx249_0
   replace p249 := eq_true p249
   replace q249 := eq_true q249
   have p250 : 0 ≤ (a2 : Int) := of_decide_eq_true (by first | (with_reducible assumption) | assumption)
   have q250 : a2 < (l0_0.length : Int) := of_decide_eq_true (by first | (with_reducible assumption) | assumption)
   obtain ⟨ad250, e250, hx250_0, hx250_1⟩ := at_T28 HR0_0.out a2 p250 q250
   have hw250_1 := hx250_1
   have hw250_0 := hx250_0
   obtain rfl : ad248 = ad250 := (by injection e250)
   replace hx250_0 := (HB.out.cell (World.block_lt_of_cell? w _ hx250_0)).trans hx250_0
   replace hx250_1 := (HB.out.cell (World.block_lt_of_cell? w _ hx250_1)).trans hx250_1
   replace p250 := eq_true p250
   replace q250 := eq_true q250
   refine start_ (n := 19) (S := fun w' => w'.cell? ⟨gb246, 0, none⟩ = some (.slice (some ad248) l0_0.length c0_0) ∧ w'.cell? ⟨gb246, 1, none⟩ = some (.slice (some ad249) l0_1.length c0_1) ∧ w'.cell? ⟨gb246, 2, none⟩ = some (.slice A0_2 l0_2.length c0_2) ∧ w'.cell? ⟨gb246, 3, none⟩ = some (.int .i64 a0_3) ∧ w'.cell? ⟨gb246, 4, none⟩ = some (.int .i64 a0_4) ∧ w'.cell? ⟨gb246, 5, none⟩ = some (.int .i64 a0_5) ∧ w'.cell? (ad248.add ((a1).toNat * 2)) = some (.int .i64 ((rd_T28 l0_0 a1).f0)) ∧ w'.cell? ⟨(ad248.add ((a1).toNat * 2)).block, (ad248.add ((a1).toNat * 2)).off + 1, none⟩ = some (.int .i64 ((rd_T28 l0_0 a1).f1)) ∧ w'.cell? (ad249.add (a1).toNat) = some (.int .i64 (rd l0_1 a1)) ∧ w'.cell? (ad248.add ((a2).toNat * 2)) = some (.int .i64 ((rd_T28 l0_0 a2).f0)) ∧ w'.cell? ⟨(ad248.add ((a2).toNat * 2)).block, (ad248.add ((a2).toNat * 2)).off + 1, none⟩ = some (.int .i64 ((rd_T28 l0_0 a2).f1))) (ds := []) #[false, false, false, false, false, false, false, false, false, false, false, false, false, false, false, false, false, false, false] (by kernel_rfl) rfl rfl ⟨(bkC BK246.out 0).trans rfl, (bkC BK246.out 1).trans rfl, (bkC BK246.out 2).trans rfl, (bkC BK246.out 3).trans rfl, (bkC BK246.out 4).trans rfl, (bkC BK246.out 5).trans rfl, ((HB.out.cell (World.block_lt_of_cell? w _ hw248_0)).trans hw248_0), ((HB.out.cell (World.block_lt_of_cell? w _ hw248_1)).trans hw248_1), ((HB.out.cell (World.block_lt_of_cell? w _ hw249_0)).trans hw249_0), ((HB.out.cell (World.block_lt_of_cell? w _ hw250_0)).trans hw250_0), ((HB.out.cell (World.block_lt_of_cell? w _ hw250_1)).trans hw250_1)⟩ (fun hHeld => ?_); refine with_tabW hopmeshref05_Between.tab7 hopmeshref05_Between.bits7 (fun HT_ HW_ => ?_)
   generalize wc.drew = w24 at BK246 HB hx248_0 hx248_1 hx249_0 hx250_0 hx250_1 hHeld ⊢
   refine pure_ (i := 1) (N := some 35) (v := ?_) (a' := ?_) #[false, true, false, false, false, false, false, false, false, false, false, false, false, false, false, false, false, false, false] rfl rfl (any_of HT_.out (by kernel_rfl)) (fun _ _ _ h => h) (Or.inl ⟨by rfl, ?_⟩) ?_ ?_
   rotate_left
   ·intro w'
    go_simp
    with_reducible rfl
   rotate_left
   ·simp only [Act.put, List.setIfInBounds_toArray, List.set_cons_zero, List.set_cons_succ, i64_w, i32_w]
    rfl
   refine pure_ (i := 3) (N := some 37) (v := ?_) (a' := ?_) #[false, true, false, true, false, false, false, false, false, false, false, false, false, false, false, false, false, false, false] rfl rfl (any_of HT_.out (by kernel_rfl)) (fun _ _ _ h => h) (Or.inl ⟨by rfl, ?_⟩) ?_ ?_
   rotate_left
   ·intro w'
    go_simp
    with_reducible rfl
   rotate_left
   ·simp only [Act.put, List.setIfInBounds_toArray, List.set_cons_zero, List.set_cons_succ, i64_w, i32_w]
    rfl
   refine pure_ (i := 6) (N := some 40) (v := ?_) (a' := ?_) #[false, true, false, true, false, false, true, false, false, false, false, false, false, false, false, false, false, false, false] rfl rfl (any_of HT_.out (by kernel_rfl)) (fun _ _ _ h => h) (Or.inl ⟨by rfl, ?_⟩) ?_ ?_
   rotate_left
   ·intro w'
    go_simp
    with_reducible rfl
   rotate_left
   ·simp only [Act.put, List.setIfInBounds_toArray, List.set_cons_zero, List.set_cons_succ, i64_w, i32_w]
    rfl
   refine pure_ (i := 8) (N := some 42) (v := ?_) (a' := ?_) #[false, true, false, true, false, false, true, false, true, false, false, false, false, false, false, false, false, false, false] rfl rfl (any_of HT_.out (by kernel_rfl)) (fun _ _ _ h => h) (Or.inl ⟨by rfl, ?_⟩) ?_ ?_
   rotate_left
   ·intro w'
    go_simp
    with_reducible rfl
   rotate_left
   ·simp only [Act.put, List.setIfInBounds_toArray, List.set_cons_zero, List.set_cons_succ, i64_w, i32_w]
    rfl
   refine pure_ (i := 11) (N := some 45) (v := ?_) (a' := ?_) #[false, true, false, true, false, false, true, false, true, false, false, true, false, false, false, false, false, false, false] rfl rfl (any_of HT_.out (by kernel_rfl)) (fun _ _ _ h => h) (Or.inl ⟨by rfl, ?_⟩) ?_ ?_
   rotate_left
   ·intro w'
    go_simp
    with_reducible rfl
   rotate_left
   ·simp only [Act.put, List.setIfInBounds_toArray, List.set_cons_zero, List.set_cons_succ, i64_w, i32_w]
    rfl
   refine pure_ (i := 13) (N := some 47) (v := ?_) (a' := ?_) #[false, true, false, true, false, false, true, false, true, false, false, true, false, true, false, false, false, false, false] rfl rfl (any_of HT_.out (by kernel_rfl)) (fun _ _ _ h => h) (Or.inl ⟨by rfl, ?_⟩) ?_ ?_
   rotate_left
   ·intro w'
    go_simp
    with_reducible rfl
   rotate_left
   ·simp only [Act.put, List.setIfInBounds_toArray, List.set_cons_zero, List.set_cons_succ, i64_w, i32_w]
    rfl
   refine take_ (i := 0) (N := some 34) (v := ?_) (a' := ?_) #[true, true, false, true, false, false, true, false, true, false, false, true, false, true, false, false, false, false, false] rfl rfl (take_ofW HT_.out HW_.out (by kernel_rfl)) (fun _ _ _ h => h) (Or.inl ⟨by rfl, ?_⟩) hHeld ?_ ?_
   rotate_left
   ·rintro w' ⟨s0, s1, s2, s3, s4, s5, s6, s7, s8, s9, s10⟩
    go_simp
    with_reducible rfl
   rotate_left
   ·simp only [Act.put, List.setIfInBounds_toArray, List.set_cons_zero, List.set_cons_succ, i64_w, i32_w]
    rfl
   refine take_ (i := 2) (N := some 36) (v := ?_) (a' := ?_) #[true, true, true, true, false, false, true, false, true, false, false, true, false, true, false, false, false, false, false] rfl rfl (take_ofW HT_.out HW_.out (by kernel_rfl)) (fun _ _ _ h => h) (Or.inl ⟨by rfl, ?_⟩) hHeld ?_ ?_
   rotate_left
   ·rintro w' ⟨s0, s1, s2, s3, s4, s5, s6, s7, s8, s9, s10⟩
    go_simp
    with_reducible rfl
   rotate_left
   ·simp only [Act.put, List.setIfInBounds_toArray, List.set_cons_zero, List.set_cons_succ, i64_w, i32_w]
    rfl
   refine pure_ (i := 4) (N := some 38) (v := ?_) (a' := ?_) #[true, true, true, true, true, false, true, false, true, false, false, true, false, true, false, false, false, false, false] rfl rfl (any_of HT_.out (by kernel_rfl)) (fun _ _ _ h => h) (Or.inl ⟨by rfl, ?_⟩) ?_ ?_
   rotate_left
   ·intro w'
    go_simp
    with_reducible rfl
   rotate_left
   ·simp only [Act.put, List.setIfInBounds_toArray, List.set_cons_zero, List.set_cons_succ, i64_w, i32_w]
    rfl
   refine take_ (i := 5) (N := some 39) (v := ?_) (a' := ?_) #[true, true, true, true, true, true, true, false, true, false, false, true, false, true, false, false, false, false, false] rfl rfl (take_ofW HT_.out HW_.out (by kernel_rfl)) (fun _ _ _ h => h) (Or.inl ⟨by rfl, ?_⟩) hHeld ?_ ?_
   rotate_left
   ·rintro w' ⟨s0, s1, s2, s3, s4, s5, s6, s7, s8, s9, s10⟩
    go_simp
    with_reducible rfl
   rotate_left
   ·simp only [Act.put, List.setIfInBounds_toArray, List.set_cons_zero, List.set_cons_succ, i64_w, i32_w]
    rfl
   refine take_ (i := 7) (N := some 41) (v := ?_) (a' := ?_) #[true, true, true, true, true, true, true, true, true, false, false, true, false, true, false, false, false, false, false] rfl rfl (take_ofW HT_.out HW_.out (by kernel_rfl)) (fun _ _ _ h => h) (Or.inl ⟨by rfl, ?_⟩) hHeld ?_ ?_
   rotate_left
   ·rintro w' ⟨s0, s1, s2, s3, s4, s5, s6, s7, s8, s9, s10⟩
    go_simp
    with_reducible rfl
   rotate_left
   ·simp only [Act.put, List.setIfInBounds_toArray, List.set_cons_zero, List.set_cons_succ, i64_w, i32_w]
    rfl
   refine pure_ (i := 9) (N := some 43) (v := ?_) (a' := ?_) #[true, true, true, true, true, true, true, true, true, true, false, true, false, true, false, false, false, false, false] rfl rfl (any_of HT_.out (by kernel_rfl)) (fun _ _ _ h => h) (Or.inl ⟨by rfl, ?_⟩) ?_ ?_
   rotate_left
   ·intro w'
    go_simp
    with_reducible rfl
   rotate_left
   ·simp only [Act.put, List.setIfInBounds_toArray, List.set_cons_zero, List.set_cons_succ, i64_w, i32_w]
    rfl
   refine take_ (i := 10) (N := some 44) (v := ?_) (a' := ?_) #[true, true, true, true, true, true, true, true, true, true, true, true, false, true, false, false, false, false, false] rfl rfl (take_ofW HT_.out HW_.out (by kernel_rfl)) (fun _ _ _ h => h) (Or.inl ⟨by rfl, ?_⟩) hHeld ?_ ?_
   rotate_left
   ·rintro w' ⟨s0, s1, s2, s3, s4, s5, s6, s7, s8, s9, s10⟩
    go_simp
    with_reducible rfl
   rotate_left
   ·simp only [Act.put, List.setIfInBounds_toArray, List.set_cons_zero, List.set_cons_succ, i64_w, i32_w]
    rfl
   refine take_ (i := 12) (N := some 46) (v := ?_) (a' := ?_) #[true, true, true, true, true, true, true, true, true, true, true, true, true, true, false, false, false, false, false] rfl rfl (take_ofW HT_.out HW_.out (by kernel_rfl)) (fun _ _ _ h => h) (Or.inl ⟨by rfl, ?_⟩) hHeld ?_ ?_
   rotate_left
   ·rintro w' ⟨s0, s1, s2, s3, s4, s5, s6, s7, s8, s9, s10⟩
    go_simp
    with_reducible rfl
   rotate_left
   ·simp only [Act.put, List.setIfInBounds_toArray, List.set_cons_zero, List.set_cons_succ, i64_w, i32_w]
    rfl
   refine pure_ (i := 14) (N := some 48) (v := ?_) (a' := ?_) #[true, true, true, true, true, true, true, true, true, true, true, true, true, true, true, false, false, false, false] rfl rfl (any_of HT_.out (by kernel_rfl)) (fun _ _ _ h => h) (Or.inl ⟨by rfl, ?_⟩) ?_ ?_
   rotate_left
   ·intro w'
    go_simp
    with_reducible rfl
   rotate_left
   ·simp only [Act.put, List.setIfInBounds_toArray, List.set_cons_zero, List.set_cons_succ, i64_w, i32_w]
    rfl
   refine take_ (i := 15) (N := some 49) (v := ?_) (a' := ?_) #[true, true, true, true, true, true, true, true, true, true, true, true, true, true, true, true, false, false, false] rfl rfl (take_ofW HT_.out HW_.out (by kernel_rfl)) (fun _ _ _ h => h) (Or.inl ⟨by rfl, ?_⟩) hHeld ?_ ?_
   rotate_left
   ·rintro w' ⟨s0, s1, s2, s3, s4, s5, s6, s7, s8, s9, s10⟩
    go_simp
    with_reducible rfl
   rotate_left
   ·simp only [Act.put, List.setIfInBounds_toArray, List.set_cons_zero, List.set_cons_succ, i64_w, i32_w]
    rfl
   refine one_ (i := 16) (N := some 50) #[true, true, true, true, true, true, true, true, true, true, true, true, true, true, true, true, true, false, false] rfl rfl (one_of HT_.out (by kernel_rfl)) (by decide) (fun K hK => ?_)
   refine goes_ Try.func59 (by kernel_rfl) rfl #[.agg #[.slice (some ad248) l0_0.length c0_0, .slice (some ad249) l0_1.length c0_1, .slice A0_2 l0_2.length c0_2, .int .i64 a0_3, .int .i64 a0_4, .int .i64 a0_5], .agg #[.int .i64 ((rd_T28 l0_0 a1).f0), .int .i64 ((rd_T28 l0_0 a1).f1)], .int .i64 (rd l0_1 a1), .agg #[.int .i64 ((rd_T28 l0_0 a2).f0), .int .i64 ((rd_T28 l0_0 a2).f1)]] (by rfl) rfl rfl (by (try simp only [List.map_toArray, List.map_cons, List.map_nil]); first | done | rfl | (simp only [List.length_drop, List.length_take]; rfl)) ?_
   with_reducible refine (hopmeshref05_at.calls kj5 _ _ l0_0 _ _ l0_1 _ _ l0_2 a0_3 a0_4 a0_5 ((rd_T28 l0_0 a1).f0) ((rd_T28 l0_0 a1).f1) (rd l0_1 a1) ((rd_T28 l0_0 a2).f0) ((rd_T28 l0_0 a2).f1) t251 _ ?side1 ?side2 ?side3 ?side4 ?side5 ?side6 A23.out).mono ?_
   (case side1 => repeat (first | exact (Kd.C_below HR0_0.out HB.out) | (with_reducible refine Kd.C_alloc ?_ _) | (with_reducible refine Kd.C_drewN ?_ _) | (with_reducible refine Kd.C_drew ?_)))
   (case side2 => exact HC0_0.out)
   (case side3 => repeat (first | exact (Kd.C_below HR0_1.out HB.out) | (with_reducible refine Kd.C_alloc ?_ _) | (with_reducible refine Kd.C_drewN ?_ _) | (with_reducible refine Kd.C_drew ?_)))
   (case side4 => exact HC0_1.out)
   (case side5 => repeat (first | exact (Kd.C_below HR0_2.out HB.out) | (with_reducible refine Kd.C_alloc ?_ _) | (with_reducible refine Kd.C_drewN ?_ _) | (with_reducible refine Kd.C_drew ?_)))
   (case side6 => exact HC0_2.out)
   rintro e w25 ⟨rfl, hb⟩
   refine ⟨_, rfl, ?_⟩
   have n0_ := Aside0.mk (bkB (g := gb246) (o := .cells #[.slice (some ad248) l0_0.length c0_0, .slice (some ad249) l0_1.length c0_1, .slice A0_2 l0_2.length c0_2, .int .i64 a0_3, .int .i64 a0_4, .int .i64 a0_5] 26 (0, 0)) (by (with_reducible repeat (first | refine bkN ?_ _ | refine bkD ?_ | refine bkA ?_ _)); exact BK246.out) hb)
   have n1_ := Aside0.mk (below_step (by repeat (first | (with_reducible first | exact HB.out | apply blA | apply blN | apply blD | refine blS ?_ GE246.out) | exact HB.out)) hb)
   clear BK246
   clear HB
   have BK246 := n0_
   have HB := n1_
   clear n0_ n1_
   (try clear hb)
   (try clear hb2)
   (try clear hk)
   (try clear hi)
   refine hK.out _ _ ⟨(bkC BK246.out 0).trans rfl, (bkC BK246.out 1).trans rfl, (bkC BK246.out 2).trans rfl, (bkC BK246.out 3).trans rfl, (bkC BK246.out 4).trans rfl, (bkC BK246.out 5).trans rfl, ((HB.out.cell (World.block_lt_of_cell? w _ hw248_0)).trans hw248_0), ((HB.out.cell (World.block_lt_of_cell? w _ hw248_1)).trans hw248_1), ((HB.out.cell (World.block_lt_of_cell? w _ hw249_0)).trans hw249_0), ((HB.out.cell (World.block_lt_of_cell? w _ hw250_0)).trans hw250_0), ((HB.out.cell (World.block_lt_of_cell? w _ hw250_1)).trans hw250_1)⟩ (fun hHeld => ?_)
   clear hK K
   refine norm_ (a' := ?_) ?_ ?_
   rotate_left
   ·show Act.put _ (some 50) _ = _
    simp only [Act.put, List.setIfInBounds_toArray, List.set_cons_zero, List.set_cons_succ, i64_w, i32_w]
    rfl
   refine pure_ (i := 17) (N := some 6) (v := ?_) (a' := ?_) #[true, true, true, true, true, true, true, true, true, true, true, true, true, true, true, true, true, true, false] rfl rfl (any_of HT_.out (by kernel_rfl)) (fun _ _ _ h => h) (Or.inl ⟨by rfl, ?_⟩) ?_ ?_
   rotate_left
   ·intro w'
    go_simp
    with_reducible rfl
   rotate_left
   ·simp only [Act.put, List.setIfInBounds_toArray, List.set_cons_zero, List.set_cons_succ, i64_w, i32_w]
    rfl
   refine pure_ (i := 18) (N := some 7) (v := ?_) (a' := ?_) #[true, true, true, true, true, true, true, true, true, true, true, true, true, true, true, true, true, true, true] rfl rfl (any_of HT_.out (by kernel_rfl)) (fun _ _ _ h => h) (Or.inl ⟨by rfl, ?_⟩) ?_ ?_
   rotate_left
   ·intro w'
    go_simp
    with_reducible rfl
   rotate_left
   ·simp only [Act.put, List.setIfInBounds_toArray, List.set_cons_zero, List.set_cons_succ, i64_w, i32_w]
    rfl
   refine done_ (done_of HT_.out (by kernel_rfl)) ?_
   try go_wp2
   go_ret2
   exact ⟨by first | rfl | (simp [errW_none, errW_some] <;> rfl) | (simp [*, errW_none, errW_some] <;> rfl), by repeat (first | (with_reducible first | exact HB.out | apply blA | apply blN | apply blD | refine blS ?_ GE246.out) | exact HB.out)⟩
end Go.Proofs.Ytcdgpnjlaicbcaa.PA
