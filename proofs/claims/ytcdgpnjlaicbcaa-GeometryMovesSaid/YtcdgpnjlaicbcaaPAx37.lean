-- Written by a program of this session (mkprint.py: the kit's print, changed) for this claim. Not trusted: Lean checks it.
import Derived.Test.YtcdgpnjlaicbcaaPAx0
import Derived.Test.YtcdgpnjlaicbcaaPAx1
import Derived.Test.YtcdgpnjlaicbcaaPAx3
import Derived.Test.YtcdgpnjlaicbcaaPAx6
import Derived.Test.YtcdgpnjlaicbcaaPAx11
import Derived.Test.YtcdgpnjlaicbcaaPAx35
import Derived.Test.YtcdgpnjlaicbcaaPAx36
import Derived.Test.YtcdgpnjlaicbcaaPAx50
import Derived.Test.YtcdgpnjlaicbcaaPAx51
namespace Go.Proofs.Ytcdgpnjlaicbcaa.PA
open Go.RowKit Go.Proofs.YtcdgpnjlaicbcaaW.PrintWords Go.Proofs.YtcdgpnjlaicbcaaW.PrintLast Go.Proofs.YtcdgpnjlaicbcaaW.PrintMore
attribute [local go_sem] max2_int min2_int max_two min_two max_three min_three max_four min_four   -- for this text's walks alone
-- thin
set_option linter.unusedVariables false
set_option linter.unusedSimpArgs false

attribute [local go_sem high] eqA28
/-! ### hopmeshlaw05_GeometryMoves: function 6 -/
set_option maxHeartbeats 80000000 in
set_option maxRecDepth 100000 in
theorem hopmeshlaw05_GeometryMoves.calls (k : Nat) (a0_0 : Int) (a0_1 : Int) (a0_2 : Int) (a0_3 : Int) (a1_0 : Int) (a1_1 : Int) (a1_2 : Int) (a1_3 : Int) (a1_4 : Int) (a2_0 : Int) (a2_1 : Int) (r : Bool) (w : World) (h : hopmeshlaw05_GeometryMoves.f k a0_0 a0_1 a0_2 a0_3 a1_0 a1_1 a1_2 a1_3 a1_4 a2_0 a2_1 = some r) (hr_ : r = true) :
 Calls Try.prog 6 #[.agg #[.int .i64 a0_0, .int .i64 a0_1, .int .i64 a0_2, .int .i64 a0_3], .agg #[.int .i64 a1_0, .int .i64 a1_1, .int .i64 a1_2, .int .i64 a1_3, .int .i64 a1_4], .agg #[.int .i64 a2_0, .int .i64 a2_1]] w fun e w' => e = .returned (.bool r) ∧ Below w.heap.size w w' := by
 have hu51 := Try.underlying51
 have hu47 := Try.underlying47
 have hu28 := Try.underlying28
 have HRT := Aside0.mk hr_
 clear hr_
 have HB := Aside0.mk (Below.refl w.heap.size w)
 have H : ((hopmeshlaw05_awake.f).bind fun t353 => (if t353 = true then ((some (([(⟨a0_0, a0_1⟩ : S28), (⟨a0_2, a0_3⟩ : S28), (⟨a1_0, a1_1⟩ : S28), (⟨a1_2, a1_3⟩ : S28), (⟨a2_0, a2_1⟩ : S28)] : List (S28)) : List (S28))).bind fun y356 => (hopmeshlaw05_GeometryMoves.l0 k y356 (y356.length : Int) 0 a1_0 a1_1 a1_2 a1_3 a1_4 a2_0 a2_1 a0_0 a0_1 a0_2 a0_3)) else (some false))) = some r := h
 clear h
 replace H := Option.bind_eq_some_iff.mp H
 obtain ⟨t353, A40, H⟩ := H
 replace H : (if t353 = true then ((some (([(⟨a0_0, a0_1⟩ : S28), (⟨a0_2, a0_3⟩ : S28), (⟨a1_0, a1_1⟩ : S28), (⟨a1_2, a1_3⟩ : S28), (⟨a2_0, a2_1⟩ : S28)] : List (S28)) : List (S28))).bind fun y356 => (hopmeshlaw05_GeometryMoves.l0 k y356 (y356.length : Int) 0 a1_0 a1_1 a1_2 a1_3 a1_4 a2_0 a2_1 a0_0 a0_1 a0_2 a0_3)) else (some false)) = some r := H
 have A4 := Aside0.mk A40
 clear A40
 by_cases c5 : t353 = true
 rotate_left
 ·replace c5 := Bool.eq_false_iff.mpr c5
  subst c5
  have H1 : (some false) = some r := by rw [if_neg (show ¬ (false = true) by decide)] at H; exact H
  clear H
  have H := H1
  clear H1
  exact absurd (H.trans (congrArg some HRT.out)) (by simp)

 ·skip
  subst c5
  have H1 : ((some (([(⟨a0_0, a0_1⟩ : S28), (⟨a0_2, a0_3⟩ : S28), (⟨a1_0, a1_1⟩ : S28), (⟨a1_2, a1_3⟩ : S28), (⟨a2_0, a2_1⟩ : S28)] : List (S28)) : List (S28))).bind fun y356 => (hopmeshlaw05_GeometryMoves.l0 k y356 (y356.length : Int) 0 a1_0 a1_1 a1_2 a1_3 a1_4 a2_0 a2_1 a0_0 a0_1 a0_2 a0_3)) = some r := by rw [if_pos rfl] at H; exact H
  clear H
  have H := H1
  clear H1
  obtain ⟨y356, hy356⟩ : ∃ y_ : List (S28), y_ = (([(⟨a0_0, a0_1⟩ : S28), (⟨a0_2, a0_3⟩ : S28), (⟨a1_0, a1_1⟩ : S28), (⟨a1_2, a1_3⟩ : S28), (⟨a2_0, a2_1⟩ : S28)] : List (S28))) := ⟨_, rfl⟩
  replace H : (hopmeshlaw05_GeometryMoves.l0 k y356 (y356.length : Int) 0 a1_0 a1_1 a1_2 a1_3 a1_4 a2_0 a2_1 a0_0 a0_1 a0_2 a0_3) = some r := by first | (rw [hy356]; with_reducible exact H) | (have H2_ := (Option.bind_some _ _).symm.trans H; rw [hy356]; with_reducible exact H2_) | (have H2_ := (Option.bind_some _ _).symm.trans H; with_reducible exact H2_) | with_reducible exact H | (rw [hy356]; exact H) | exact H
  have Ny356 := Aside0.mk hy356
  clear hy356
  have H' := Aside0.mk H
  clear H
  go_enter Try.func6, Try.ntmps6
  try go_wp2_with (first | ((with_reducible refine gate_dst (N := 3) rfl ?_); refine box_event ?hg (N := 3) ?hd (cs := #[.int .i64 a0_0, .int .i64 a0_1, .int .i64 a0_2, .int .i64 a0_3]) (t := 51) ?hr ?_; (case hd => rfl); (case hg => rfl); (case hr => first | (go_simp; done) | (go_simp; rfl)); intro gb350 hg w6 hbox hb; have n0_ := Aside0.mk (below_step (by repeat (first | (with_reducible first | exact HB.out | apply blA | apply blN | apply blD) | exact HB.out)) hb); have n1_ := Aside0.mk (hbox); have n2_ := Aside0.mk ((by rw [hg]; exact (below_size (by repeat (first | (with_reducible first | exact HB.out | apply blA | apply blN | apply blD) | exact HB.out))) : w.heap.size ≤ gb350)); have n3_ := Aside0.mk ((by rw [hg]; exact (below_size (by repeat (first | (with_reducible first | exact HB.out | apply blA | apply blN | apply blD) | exact HB.out))) : w.heap.size ≤ gb350)); clear HB; have HB := n0_; have BK350 := n1_; have GW350 := n2_; have GE350 := n3_; clear n0_ n1_ n2_ n3_; clear hb hbox hg) | ((with_reducible refine gate_dst (N := 4) rfl ?_); refine box_event ?hg (N := 4) ?hd (cs := #[.int .i64 a1_0, .int .i64 a1_1, .int .i64 a1_2, .int .i64 a1_3, .int .i64 a1_4]) (t := 47) ?hr ?_; (case hd => rfl); (case hg => rfl); (case hr => first | (go_simp; done) | (go_simp; rfl)); intro gb351 hg w7 hbox hb; have n0_ := Aside0.mk (bkB (g := gb350) (o := .cells #[.int .i64 a0_0, .int .i64 a0_1, .int .i64 a0_2, .int .i64 a0_3] 51 (0, 0)) (by (with_reducible repeat (first | refine bkN ?_ _ | refine bkD ?_ | refine bkA ?_ _)); exact BK350.out) hb); have n1_ := Aside0.mk (below_step (by repeat (first | (with_reducible first | exact HB.out | apply blA | apply blN | apply blD | refine blS ?_ GE350.out) | exact HB.out)) hb); have n2_ := Aside0.mk (hbox); have n3_ := Aside0.mk ((by rw [hg]; exact (below_size (by repeat (first | (with_reducible first | exact HB.out | apply blA | apply blN | apply blD | refine blS ?_ GE350.out) | exact HB.out))) : w.heap.size ≤ gb351)); have n4_ := Aside0.mk ((by rw [hg]; exact (below_size (by repeat (first | (with_reducible first | exact HB.out | apply blA | apply blN | apply blD | refine blS ?_ GE350.out) | exact HB.out))) : w.heap.size ≤ gb351)); have n5_ := Aside0.mk ((by rw [hg]; exact Nat.ne_of_lt (blk_lt (g := gb350) (o := .cells #[.int .i64 a0_0, .int .i64 a0_1, .int .i64 a0_2, .int .i64 a0_3] 51 (0, 0)) (by (with_reducible repeat (first | refine bkN ?_ _ | refine bkD ?_ | refine bkA ?_ _)); exact BK350.out)) : gb350 ≠ gb351)); have n6_ := Aside0.mk ((by rw [hg]; exact Nat.ne_of_gt (blk_lt (g := gb350) (o := .cells #[.int .i64 a0_0, .int .i64 a0_1, .int .i64 a0_2, .int .i64 a0_3] 51 (0, 0)) (by (with_reducible repeat (first | refine bkN ?_ _ | refine bkD ?_ | refine bkA ?_ _)); exact BK350.out)) : gb351 ≠ gb350)); clear BK350; clear HB; have BK350 := n0_; have HB := n1_; have BK351 := n2_; have GW351 := n3_; have GE351 := n4_; have NB350_351 := n5_; have NB351_350 := n6_; clear n0_ n1_ n2_ n3_ n4_ n5_ n6_; clear hb hbox hg) | ((with_reducible refine gate_dst (N := 5) rfl ?_); refine box_event ?hg (N := 5) ?hd (cs := #[.int .i64 a2_0, .int .i64 a2_1]) (t := 28) ?hr ?_; (case hd => rfl); (case hg => rfl); (case hr => first | (go_simp; done) | (go_simp; rfl)); intro gb352 hg w8 hbox hb; have n0_ := Aside0.mk (bkB (g := gb350) (o := .cells #[.int .i64 a0_0, .int .i64 a0_1, .int .i64 a0_2, .int .i64 a0_3] 51 (0, 0)) (by (with_reducible repeat (first | refine bkN ?_ _ | refine bkD ?_ | refine bkA ?_ _)); exact BK350.out) hb); have n1_ := Aside0.mk (bkB (g := gb351) (o := .cells #[.int .i64 a1_0, .int .i64 a1_1, .int .i64 a1_2, .int .i64 a1_3, .int .i64 a1_4] 47 (0, 0)) (by (with_reducible repeat (first | refine bkN ?_ _ | refine bkD ?_ | refine bkA ?_ _)); exact BK351.out) hb); have n2_ := Aside0.mk (below_step (by repeat (first | (with_reducible first | exact HB.out | apply blA | apply blN | apply blD | refine blS ?_ GE350.out | refine blS ?_ GE351.out) | exact HB.out)) hb); have n3_ := Aside0.mk (hbox); have n4_ := Aside0.mk ((by rw [hg]; exact (below_size (by repeat (first | (with_reducible first | exact HB.out | apply blA | apply blN | apply blD | refine blS ?_ GE350.out | refine blS ?_ GE351.out) | exact HB.out))) : w.heap.size ≤ gb352)); have n5_ := Aside0.mk ((by rw [hg]; exact (below_size (by repeat (first | (with_reducible first | exact HB.out | apply blA | apply blN | apply blD | refine blS ?_ GE350.out | refine blS ?_ GE351.out) | exact HB.out))) : w.heap.size ≤ gb352)); have n6_ := Aside0.mk ((by rw [hg]; exact Nat.ne_of_lt (blk_lt (g := gb350) (o := .cells #[.int .i64 a0_0, .int .i64 a0_1, .int .i64 a0_2, .int .i64 a0_3] 51 (0, 0)) (by (with_reducible repeat (first | refine bkN ?_ _ | refine bkD ?_ | refine bkA ?_ _)); exact BK350.out)) : gb350 ≠ gb352)); have n7_ := Aside0.mk ((by rw [hg]; exact Nat.ne_of_gt (blk_lt (g := gb350) (o := .cells #[.int .i64 a0_0, .int .i64 a0_1, .int .i64 a0_2, .int .i64 a0_3] 51 (0, 0)) (by (with_reducible repeat (first | refine bkN ?_ _ | refine bkD ?_ | refine bkA ?_ _)); exact BK350.out)) : gb352 ≠ gb350)); have n8_ := Aside0.mk ((by rw [hg]; exact Nat.ne_of_lt (blk_lt (g := gb351) (o := .cells #[.int .i64 a1_0, .int .i64 a1_1, .int .i64 a1_2, .int .i64 a1_3, .int .i64 a1_4] 47 (0, 0)) (by (with_reducible repeat (first | refine bkN ?_ _ | refine bkD ?_ | refine bkA ?_ _)); exact BK351.out)) : gb351 ≠ gb352)); have n9_ := Aside0.mk ((by rw [hg]; exact Nat.ne_of_gt (blk_lt (g := gb351) (o := .cells #[.int .i64 a1_0, .int .i64 a1_1, .int .i64 a1_2, .int .i64 a1_3, .int .i64 a1_4] 47 (0, 0)) (by (with_reducible repeat (first | refine bkN ?_ _ | refine bkD ?_ | refine bkA ?_ _)); exact BK351.out)) : gb352 ≠ gb351)); clear BK350; clear BK351; clear HB; have BK350 := n0_; have BK351 := n1_; have HB := n2_; have BK352 := n3_; have GW352 := n4_; have GE352 := n5_; have NB350_352 := n6_; have NB352_350 := n7_; have NB351_352 := n8_; have NB352_351 := n9_; clear n0_ n1_ n2_ n3_ n4_ n5_ n6_ n7_ n8_ n9_; clear hb hbox hg) | ((with_reducible refine gate_callee (f := 11) rfl ?_); refine goesL_ (some 16) rfl rfl Try.func11 (by kernel_rfl) rfl #[] rfl (by (try simp only [List.map_toArray, List.map_cons, List.map_nil]); first | done | rfl | (simp only [List.length_drop, List.length_take]; rfl)) ?_; (with_reducible refine (hopmeshlaw05_awake.calls  true _ A4.out).mono ?_); rintro e w9 ⟨rfl, hb⟩; refine ⟨_, rfl, ?_⟩; have n0_ := Aside0.mk (bkB (g := gb350) (o := .cells #[.int .i64 a0_0, .int .i64 a0_1, .int .i64 a0_2, .int .i64 a0_3] 51 (0, 0)) (by (with_reducible repeat (first | refine bkN ?_ _ | refine bkD ?_ | refine bkA ?_ _)); exact BK350.out) hb); have n1_ := Aside0.mk (bkB (g := gb351) (o := .cells #[.int .i64 a1_0, .int .i64 a1_1, .int .i64 a1_2, .int .i64 a1_3, .int .i64 a1_4] 47 (0, 0)) (by (with_reducible repeat (first | refine bkN ?_ _ | refine bkD ?_ | refine bkA ?_ _)); exact BK351.out) hb); have n2_ := Aside0.mk (bkB (g := gb352) (o := .cells #[.int .i64 a2_0, .int .i64 a2_1] 28 (0, 0)) (by (with_reducible repeat (first | refine bkN ?_ _ | refine bkD ?_ | refine bkA ?_ _)); exact BK352.out) hb); have n3_ := Aside0.mk (below_step (by repeat (first | (with_reducible first | exact HB.out | apply blA | apply blN | apply blD | refine blS ?_ GE350.out | refine blS ?_ GE351.out | refine blS ?_ GE352.out) | exact HB.out)) hb); clear BK350; clear BK351; clear BK352; clear HB; have BK350 := n0_; have BK351 := n1_; have BK352 := n2_; have HB := n3_; clear n0_ n1_ n2_ n3_; (try clear hb); (try clear hb2); (try clear hk); (try clear hi)))
  replace BK350 := Aside0.mk (bkD BK350.out)
  replace BK351 := Aside0.mk (bkD BK351.out)
  replace BK352 := Aside0.mk (bkD BK352.out)
  replace HB := Aside0.mk (blD HB.out)
  refine start_ (n := 8) (S := fun w' => w'.cell? ⟨gb350, 0, none⟩ = some (.int .i64 a0_0) ∧ w'.cell? ⟨gb350, 1, none⟩ = some (.int .i64 a0_1) ∧ w'.cell? ⟨gb350, 2, none⟩ = some (.int .i64 a0_2) ∧ w'.cell? ⟨gb350, 3, none⟩ = some (.int .i64 a0_3)) (ds := []) #[false,false,false,false,false,false,false,false] (by kernel_rfl) rfl rfl ⟨(bkC BK350.out 0).trans rfl, (bkC BK350.out 1).trans rfl, (bkC BK350.out 2).trans rfl, (bkC BK350.out 3).trans rfl⟩ (fun hHeld => ?_); refine with_tabW hopmeshlaw05_GeometryMoves.tab3 hopmeshlaw05_GeometryMoves.bits3 (fun HT_ HW_ => ?_)
  generalize w9.drew = w10 at BK350 BK351 BK352 HB hHeld ⊢
  refine pure_ (i := 0) (N := some 18) (v := ?_) (a' := ?_) #[true,false,false,false,false,false,false,false] rfl rfl (any_of HT_.out (by kernel_rfl)) (fun _ _ _ h => h) (Or.inl ⟨by rfl, ?_⟩) ?_ ?_
  rotate_left
  ·intro w'
   go_simp
   with_reducible rfl
  rotate_left
  ·simp only [Act.put, List.setIfInBounds_toArray, List.set_cons_zero, List.set_cons_succ, i64_w, i32_w]
   rfl
  refine pure_ (i := 2) (N := some 20) (v := ?_) (a' := ?_) #[true,false,true,false,false,false,false,false] rfl rfl (any_of HT_.out (by kernel_rfl)) (fun _ _ _ h => h) (Or.inl ⟨by rfl, ?_⟩) ?_ ?_
  rotate_left
  ·intro w'
   go_simp
   with_reducible rfl
  rotate_left
  ·simp only [Act.put, List.setIfInBounds_toArray, List.set_cons_zero, List.set_cons_succ, i64_w, i32_w]
   rfl
  refine take_ (i := 1) (N := some 19) (v := ?_) (a' := ?_) #[true,true,true,false,false,false,false,false] rfl rfl (take_ofW HT_.out HW_.out (by kernel_rfl)) (fun _ _ _ h => h) (Or.inl ⟨by rfl, ?_⟩) hHeld ?_ ?_
  rotate_left
  ·rintro w' ⟨s0, s1, s2, s3⟩
   go_simp
   with_reducible rfl
  rotate_left
  ·simp only [Act.put, List.setIfInBounds_toArray, List.set_cons_zero, List.set_cons_succ, i64_w, i32_w]
   rfl
  refine take_ (i := 3) (N := some 21) (v := ?_) (a' := ?_) #[true,true,true,true,false,false,false,false] rfl rfl (take_ofW HT_.out HW_.out (by kernel_rfl)) (fun _ _ _ h => h) (Or.inl ⟨by rfl, ?_⟩) hHeld ?_ ?_
  rotate_left
  ·rintro w' ⟨s0, s1, s2, s3⟩
   go_simp
   with_reducible rfl
  rotate_left
  ·simp only [Act.put, List.setIfInBounds_toArray, List.set_cons_zero, List.set_cons_succ, i64_w, i32_w]
   rfl
  refine join_ (σ := Nat × Nat) 2 #[true,true,true,true,true,true,false,false] (fun s_ => [(7, .pointer (some ⟨s_.1, 0, none⟩)), (8, .pointer (some ⟨s_.2, 0, none⟩))]) (fun s_ w' => (w'.cell? ⟨gb350, 0, none⟩ = some (.int .i64 a0_0) ∧ w'.cell? ⟨gb350, 1, none⟩ = some (.int .i64 a0_1) ∧ w'.cell? ⟨gb350, 2, none⟩ = some (.int .i64 a0_2) ∧ w'.cell? ⟨gb350, 3, none⟩ = some (.int .i64 a0_3)) ∧ (w'.heap[gb350]? = some (.cells #[.int .i64 a0_0, .int .i64 a0_1, .int .i64 a0_2, .int .i64 a0_3] 51 (0, 0))) ∧ (w'.heap[gb351]? = some (.cells #[.int .i64 a1_0, .int .i64 a1_1, .int .i64 a1_2, .int .i64 a1_3, .int .i64 a1_4] 47 (0, 0))) ∧ (w'.heap[gb352]? = some (.cells #[.int .i64 a2_0, .int .i64 a2_1] 28 (0, 0))) ∧ (w'.heap[s_.1]? = some (.cells #[.int .i64 0, .int .i64 0] 28 (0, 0))) ∧ (w'.heap[s_.2]? = some (.cells #[.int .i64 0, .int .i64 0] 28 (0, 0))) ∧ (w.heap.size ≤ s_.1) ∧ (w.heap.size ≤ s_.1) ∧ (gb350 ≠ s_.1) ∧ (s_.1 ≠ gb350) ∧ (gb351 ≠ s_.1) ∧ (s_.1 ≠ gb351) ∧ (gb352 ≠ s_.1) ∧ (s_.1 ≠ gb352) ∧ (s_.2 ≠ s_.1) ∧ (s_.1 ≠ s_.2) ∧ (w.heap.size ≤ s_.2) ∧ (w.heap.size ≤ s_.2) ∧ (gb350 ≠ s_.2) ∧ (s_.2 ≠ gb350) ∧ (gb351 ≠ s_.2) ∧ (s_.2 ≠ gb351) ∧ (gb352 ≠ s_.2) ∧ (s_.2 ≠ gb352) ∧ (Below w.heap.size w w')) ?_ ?_
  rotate_left
  ·intro hCont
   refine two_ (i := 4) (j := 5) (Ni := some 7) (Nj := some 8) #[true,true,true,true,true,false,false,false] #[true,true,true,true,false,true,false,false] rfl rfl rfl rfl (two_of HT_.out (by kernel_rfl)) (by decide) (by decide) (fun K hK => ?_) (fun K hK => ?_)
   ·skip
    refine box_step ?hg (N := 7) ?hd (cs := #[.int .i64 0, .int .i64 0]) (t := 28) ?hr ?_; (case hd => rfl); (case hg => rfl); (case hr => first | (go_simp; done) | (go_simp; rfl))
    intro gb354 hg w11 hbox hb
    have n0_ := Aside0.mk (bkB (g := gb350) (o := .cells #[.int .i64 a0_0, .int .i64 a0_1, .int .i64 a0_2, .int .i64 a0_3] 51 (0, 0)) (by (with_reducible repeat (first | refine bkN ?_ _ | refine bkD ?_ | refine bkA ?_ _)); exact BK350.out) hb)
    have n1_ := Aside0.mk (bkB (g := gb351) (o := .cells #[.int .i64 a1_0, .int .i64 a1_1, .int .i64 a1_2, .int .i64 a1_3, .int .i64 a1_4] 47 (0, 0)) (by (with_reducible repeat (first | refine bkN ?_ _ | refine bkD ?_ | refine bkA ?_ _)); exact BK351.out) hb)
    have n2_ := Aside0.mk (bkB (g := gb352) (o := .cells #[.int .i64 a2_0, .int .i64 a2_1] 28 (0, 0)) (by (with_reducible repeat (first | refine bkN ?_ _ | refine bkD ?_ | refine bkA ?_ _)); exact BK352.out) hb)
    have n3_ := Aside0.mk (below_step (by repeat (first | (with_reducible first | exact HB.out | apply blA | apply blN | apply blD | refine blS ?_ GE350.out | refine blS ?_ GE351.out | refine blS ?_ GE352.out) | exact HB.out)) hb)
    have n4_ := Aside0.mk (hbox)
    have n5_ := Aside0.mk ((by rw [hg]; exact (below_size (by repeat (first | (with_reducible first | exact HB.out | apply blA | apply blN | apply blD | refine blS ?_ GE350.out | refine blS ?_ GE351.out | refine blS ?_ GE352.out) | exact HB.out))) : w.heap.size ≤ gb354))
    have n6_ := Aside0.mk ((by rw [hg]; exact (below_size (by repeat (first | (with_reducible first | exact HB.out | apply blA | apply blN | apply blD | refine blS ?_ GE350.out | refine blS ?_ GE351.out | refine blS ?_ GE352.out) | exact HB.out))) : w.heap.size ≤ gb354))
    have n7_ := Aside0.mk ((by rw [hg]; exact Nat.ne_of_lt (blk_lt (g := gb350) (o := .cells #[.int .i64 a0_0, .int .i64 a0_1, .int .i64 a0_2, .int .i64 a0_3] 51 (0, 0)) (by (with_reducible repeat (first | refine bkN ?_ _ | refine bkD ?_ | refine bkA ?_ _)); exact BK350.out)) : gb350 ≠ gb354))
    have n8_ := Aside0.mk ((by rw [hg]; exact Nat.ne_of_gt (blk_lt (g := gb350) (o := .cells #[.int .i64 a0_0, .int .i64 a0_1, .int .i64 a0_2, .int .i64 a0_3] 51 (0, 0)) (by (with_reducible repeat (first | refine bkN ?_ _ | refine bkD ?_ | refine bkA ?_ _)); exact BK350.out)) : gb354 ≠ gb350))
    have n9_ := Aside0.mk ((by rw [hg]; exact Nat.ne_of_lt (blk_lt (g := gb351) (o := .cells #[.int .i64 a1_0, .int .i64 a1_1, .int .i64 a1_2, .int .i64 a1_3, .int .i64 a1_4] 47 (0, 0)) (by (with_reducible repeat (first | refine bkN ?_ _ | refine bkD ?_ | refine bkA ?_ _)); exact BK351.out)) : gb351 ≠ gb354))
    have n10_ := Aside0.mk ((by rw [hg]; exact Nat.ne_of_gt (blk_lt (g := gb351) (o := .cells #[.int .i64 a1_0, .int .i64 a1_1, .int .i64 a1_2, .int .i64 a1_3, .int .i64 a1_4] 47 (0, 0)) (by (with_reducible repeat (first | refine bkN ?_ _ | refine bkD ?_ | refine bkA ?_ _)); exact BK351.out)) : gb354 ≠ gb351))
    have n11_ := Aside0.mk ((by rw [hg]; exact Nat.ne_of_lt (blk_lt (g := gb352) (o := .cells #[.int .i64 a2_0, .int .i64 a2_1] 28 (0, 0)) (by (with_reducible repeat (first | refine bkN ?_ _ | refine bkD ?_ | refine bkA ?_ _)); exact BK352.out)) : gb352 ≠ gb354))
    have n12_ := Aside0.mk ((by rw [hg]; exact Nat.ne_of_gt (blk_lt (g := gb352) (o := .cells #[.int .i64 a2_0, .int .i64 a2_1] 28 (0, 0)) (by (with_reducible repeat (first | refine bkN ?_ _ | refine bkD ?_ | refine bkA ?_ _)); exact BK352.out)) : gb354 ≠ gb352))
    clear BK350 BK351 BK352 HB
    have BK350 := n0_; have BK351 := n1_; have BK352 := n2_; have HB := n3_; have BK354 := n4_; have GW354 := n5_; have GE354 := n6_; have NB350_354 := n7_; have NB354_350 := n8_; have NB351_354 := n9_; have NB354_351 := n10_; have NB352_354 := n11_; have NB354_352 := n12_
    clear n0_ n1_ n2_ n3_ n4_ n5_ n6_ n7_ n8_ n9_ n10_ n11_ n12_ hb hbox hg
    refine hK.out _ _ ⟨(bkC BK350.out 0).trans rfl, (bkC BK350.out 1).trans rfl, (bkC BK350.out 2).trans rfl, (bkC BK350.out 3).trans rfl⟩ (fun hHeld => ?_)
    clear hK K
    refine norm_ (a' := ?_) ?_ ?_
    rotate_left
    ·show Act.put _ (some 7) _ = _
     simp only [Act.put, List.setIfInBounds_toArray, List.set_cons_zero, List.set_cons_succ, i64_w, i32_w]
     rfl
    refine one_ (i := 5) (N := some 8) #[true,true,true,true,true,true,false,false] rfl rfl (one_of HT_.out (by kernel_rfl)) (by decide) (fun K hK => ?_)
    refine box_step ?hg (N := 8) ?hd (cs := #[.int .i64 0, .int .i64 0]) (t := 28) ?hr ?_; (case hd => rfl); (case hg => rfl); (case hr => first | (go_simp; done) | (go_simp; rfl))
    intro gb355 hg w12 hbox hb
    have n0_ := Aside0.mk (bkB (g := gb350) (o := .cells #[.int .i64 a0_0, .int .i64 a0_1, .int .i64 a0_2, .int .i64 a0_3] 51 (0, 0)) (by (with_reducible repeat (first | refine bkN ?_ _ | refine bkD ?_ | refine bkA ?_ _)); exact BK350.out) hb)
    have n1_ := Aside0.mk (bkB (g := gb351) (o := .cells #[.int .i64 a1_0, .int .i64 a1_1, .int .i64 a1_2, .int .i64 a1_3, .int .i64 a1_4] 47 (0, 0)) (by (with_reducible repeat (first | refine bkN ?_ _ | refine bkD ?_ | refine bkA ?_ _)); exact BK351.out) hb)
    have n2_ := Aside0.mk (bkB (g := gb352) (o := .cells #[.int .i64 a2_0, .int .i64 a2_1] 28 (0, 0)) (by (with_reducible repeat (first | refine bkN ?_ _ | refine bkD ?_ | refine bkA ?_ _)); exact BK352.out) hb)
    have n3_ := Aside0.mk (bkB (g := gb354) (o := .cells #[.int .i64 0, .int .i64 0] 28 (0, 0)) (by (with_reducible repeat (first | refine bkN ?_ _ | refine bkD ?_ | refine bkA ?_ _)); exact BK354.out) hb)
    have n4_ := Aside0.mk (below_step (by repeat (first | (with_reducible first | exact HB.out | apply blA | apply blN | apply blD | refine blS ?_ GE350.out | refine blS ?_ GE351.out | refine blS ?_ GE352.out | refine blS ?_ GE354.out) | exact HB.out)) hb)
    have n5_ := Aside0.mk (hbox)
    have n6_ := Aside0.mk ((by rw [hg]; exact (below_size (by repeat (first | (with_reducible first | exact HB.out | apply blA | apply blN | apply blD | refine blS ?_ GE350.out | refine blS ?_ GE351.out | refine blS ?_ GE352.out | refine blS ?_ GE354.out) | exact HB.out))) : w.heap.size ≤ gb355))
    have n7_ := Aside0.mk ((by rw [hg]; exact (below_size (by repeat (first | (with_reducible first | exact HB.out | apply blA | apply blN | apply blD | refine blS ?_ GE350.out | refine blS ?_ GE351.out | refine blS ?_ GE352.out | refine blS ?_ GE354.out) | exact HB.out))) : w.heap.size ≤ gb355))
    have n8_ := Aside0.mk ((by rw [hg]; exact Nat.ne_of_lt (blk_lt (g := gb350) (o := .cells #[.int .i64 a0_0, .int .i64 a0_1, .int .i64 a0_2, .int .i64 a0_3] 51 (0, 0)) (by (with_reducible repeat (first | refine bkN ?_ _ | refine bkD ?_ | refine bkA ?_ _)); exact BK350.out)) : gb350 ≠ gb355))
    have n9_ := Aside0.mk ((by rw [hg]; exact Nat.ne_of_gt (blk_lt (g := gb350) (o := .cells #[.int .i64 a0_0, .int .i64 a0_1, .int .i64 a0_2, .int .i64 a0_3] 51 (0, 0)) (by (with_reducible repeat (first | refine bkN ?_ _ | refine bkD ?_ | refine bkA ?_ _)); exact BK350.out)) : gb355 ≠ gb350))
    have n10_ := Aside0.mk ((by rw [hg]; exact Nat.ne_of_lt (blk_lt (g := gb351) (o := .cells #[.int .i64 a1_0, .int .i64 a1_1, .int .i64 a1_2, .int .i64 a1_3, .int .i64 a1_4] 47 (0, 0)) (by (with_reducible repeat (first | refine bkN ?_ _ | refine bkD ?_ | refine bkA ?_ _)); exact BK351.out)) : gb351 ≠ gb355))
    have n11_ := Aside0.mk ((by rw [hg]; exact Nat.ne_of_gt (blk_lt (g := gb351) (o := .cells #[.int .i64 a1_0, .int .i64 a1_1, .int .i64 a1_2, .int .i64 a1_3, .int .i64 a1_4] 47 (0, 0)) (by (with_reducible repeat (first | refine bkN ?_ _ | refine bkD ?_ | refine bkA ?_ _)); exact BK351.out)) : gb355 ≠ gb351))
    have n12_ := Aside0.mk ((by rw [hg]; exact Nat.ne_of_lt (blk_lt (g := gb352) (o := .cells #[.int .i64 a2_0, .int .i64 a2_1] 28 (0, 0)) (by (with_reducible repeat (first | refine bkN ?_ _ | refine bkD ?_ | refine bkA ?_ _)); exact BK352.out)) : gb352 ≠ gb355))
    have n13_ := Aside0.mk ((by rw [hg]; exact Nat.ne_of_gt (blk_lt (g := gb352) (o := .cells #[.int .i64 a2_0, .int .i64 a2_1] 28 (0, 0)) (by (with_reducible repeat (first | refine bkN ?_ _ | refine bkD ?_ | refine bkA ?_ _)); exact BK352.out)) : gb355 ≠ gb352))
    have n14_ := Aside0.mk ((by rw [hg]; exact Nat.ne_of_lt (blk_lt (g := gb354) (o := .cells #[.int .i64 0, .int .i64 0] 28 (0, 0)) (by (with_reducible repeat (first | refine bkN ?_ _ | refine bkD ?_ | refine bkA ?_ _)); exact BK354.out)) : gb354 ≠ gb355))
    have n15_ := Aside0.mk ((by rw [hg]; exact Nat.ne_of_gt (blk_lt (g := gb354) (o := .cells #[.int .i64 0, .int .i64 0] 28 (0, 0)) (by (with_reducible repeat (first | refine bkN ?_ _ | refine bkD ?_ | refine bkA ?_ _)); exact BK354.out)) : gb355 ≠ gb354))
    clear BK350 BK351 BK352 BK354 HB
    have BK350 := n0_; have BK351 := n1_; have BK352 := n2_; have BK354 := n3_; have HB := n4_; have BK355 := n5_; have GW355 := n6_; have GE355 := n7_; have NB350_355 := n8_; have NB355_350 := n9_; have NB351_355 := n10_; have NB355_351 := n11_; have NB352_355 := n12_; have NB355_352 := n13_; have NB354_355 := n14_; have NB355_354 := n15_
    clear n0_ n1_ n2_ n3_ n4_ n5_ n6_ n7_ n8_ n9_ n10_ n11_ n12_ n13_ n14_ n15_ hb hbox hg
    refine hK.out _ _ ⟨(bkC BK350.out 0).trans rfl, (bkC BK350.out 1).trans rfl, (bkC BK350.out 2).trans rfl, (bkC BK350.out 3).trans rfl⟩ (fun hHeld => ?_)
    clear hK K
    refine norm_ (a' := ?_) ?_ ?_
    rotate_left
    ·show Act.put _ (some 8) _ = _
     simp only [Act.put, List.setIfInBounds_toArray, List.set_cons_zero, List.set_cons_succ, i64_w, i32_w]
     rfl
    exact norm_ (by simp only [putAll, Act.put, List.setIfInBounds_toArray, List.set_cons_zero, List.set_cons_succ]) (hCont (gb354, gb355) _ ⟨hHeld, (by (with_reducible repeat (first | refine bkN ?_ _ | refine bkD ?_ | refine bkA ?_ _)); exact BK350.out), (by (with_reducible repeat (first | refine bkN ?_ _ | refine bkD ?_ | refine bkA ?_ _)); exact BK351.out), (by (with_reducible repeat (first | refine bkN ?_ _ | refine bkD ?_ | refine bkA ?_ _)); exact BK352.out), (by (with_reducible repeat (first | refine bkN ?_ _ | refine bkD ?_ | refine bkA ?_ _)); exact BK354.out), (by (with_reducible repeat (first | refine bkN ?_ _ | refine bkD ?_ | refine bkA ?_ _)); exact BK355.out), GW354.out, GE354.out, NB350_354.out, NB354_350.out, NB351_354.out, NB354_351.out, NB352_354.out, NB354_352.out, NB355_354.out, NB354_355.out, GW355.out, GE355.out, NB350_355.out, NB355_350.out, NB351_355.out, NB355_351.out, NB352_355.out, NB355_352.out, (by repeat (first | (with_reducible first | exact HB.out | apply blA | apply blN | apply blD | refine blS ?_ GE350.out | refine blS ?_ GE351.out | refine blS ?_ GE352.out | refine blS ?_ GE354.out | refine blS ?_ GE355.out) | exact HB.out))⟩)
   as_aux_lemma =>
    skip
    refine box_step ?hg (N := 8) ?hd (cs := #[.int .i64 0, .int .i64 0]) (t := 28) ?hr ?_; (case hd => rfl); (case hg => rfl); (case hr => first | (go_simp; done) | (go_simp; rfl))
    intro gb355 hg w11 hbox hb
    have n0_ := Aside0.mk (bkB (g := gb350) (o := .cells #[.int .i64 a0_0, .int .i64 a0_1, .int .i64 a0_2, .int .i64 a0_3] 51 (0, 0)) (by (with_reducible repeat (first | refine bkN ?_ _ | refine bkD ?_ | refine bkA ?_ _)); exact BK350.out) hb)
    have n1_ := Aside0.mk (bkB (g := gb351) (o := .cells #[.int .i64 a1_0, .int .i64 a1_1, .int .i64 a1_2, .int .i64 a1_3, .int .i64 a1_4] 47 (0, 0)) (by (with_reducible repeat (first | refine bkN ?_ _ | refine bkD ?_ | refine bkA ?_ _)); exact BK351.out) hb)
    have n2_ := Aside0.mk (bkB (g := gb352) (o := .cells #[.int .i64 a2_0, .int .i64 a2_1] 28 (0, 0)) (by (with_reducible repeat (first | refine bkN ?_ _ | refine bkD ?_ | refine bkA ?_ _)); exact BK352.out) hb)
    have n3_ := Aside0.mk (below_step (by repeat (first | (with_reducible first | exact HB.out | apply blA | apply blN | apply blD | refine blS ?_ GE350.out | refine blS ?_ GE351.out | refine blS ?_ GE352.out) | exact HB.out)) hb)
    have n4_ := Aside0.mk (hbox)
    have n5_ := Aside0.mk ((by rw [hg]; exact (below_size (by repeat (first | (with_reducible first | exact HB.out | apply blA | apply blN | apply blD | refine blS ?_ GE350.out | refine blS ?_ GE351.out | refine blS ?_ GE352.out) | exact HB.out))) : w.heap.size ≤ gb355))
    have n6_ := Aside0.mk ((by rw [hg]; exact (below_size (by repeat (first | (with_reducible first | exact HB.out | apply blA | apply blN | apply blD | refine blS ?_ GE350.out | refine blS ?_ GE351.out | refine blS ?_ GE352.out) | exact HB.out))) : w.heap.size ≤ gb355))
    have n7_ := Aside0.mk ((by rw [hg]; exact Nat.ne_of_lt (blk_lt (g := gb350) (o := .cells #[.int .i64 a0_0, .int .i64 a0_1, .int .i64 a0_2, .int .i64 a0_3] 51 (0, 0)) (by (with_reducible repeat (first | refine bkN ?_ _ | refine bkD ?_ | refine bkA ?_ _)); exact BK350.out)) : gb350 ≠ gb355))
    have n8_ := Aside0.mk ((by rw [hg]; exact Nat.ne_of_gt (blk_lt (g := gb350) (o := .cells #[.int .i64 a0_0, .int .i64 a0_1, .int .i64 a0_2, .int .i64 a0_3] 51 (0, 0)) (by (with_reducible repeat (first | refine bkN ?_ _ | refine bkD ?_ | refine bkA ?_ _)); exact BK350.out)) : gb355 ≠ gb350))
    have n9_ := Aside0.mk ((by rw [hg]; exact Nat.ne_of_lt (blk_lt (g := gb351) (o := .cells #[.int .i64 a1_0, .int .i64 a1_1, .int .i64 a1_2, .int .i64 a1_3, .int .i64 a1_4] 47 (0, 0)) (by (with_reducible repeat (first | refine bkN ?_ _ | refine bkD ?_ | refine bkA ?_ _)); exact BK351.out)) : gb351 ≠ gb355))
    have n10_ := Aside0.mk ((by rw [hg]; exact Nat.ne_of_gt (blk_lt (g := gb351) (o := .cells #[.int .i64 a1_0, .int .i64 a1_1, .int .i64 a1_2, .int .i64 a1_3, .int .i64 a1_4] 47 (0, 0)) (by (with_reducible repeat (first | refine bkN ?_ _ | refine bkD ?_ | refine bkA ?_ _)); exact BK351.out)) : gb355 ≠ gb351))
    have n11_ := Aside0.mk ((by rw [hg]; exact Nat.ne_of_lt (blk_lt (g := gb352) (o := .cells #[.int .i64 a2_0, .int .i64 a2_1] 28 (0, 0)) (by (with_reducible repeat (first | refine bkN ?_ _ | refine bkD ?_ | refine bkA ?_ _)); exact BK352.out)) : gb352 ≠ gb355))
    have n12_ := Aside0.mk ((by rw [hg]; exact Nat.ne_of_gt (blk_lt (g := gb352) (o := .cells #[.int .i64 a2_0, .int .i64 a2_1] 28 (0, 0)) (by (with_reducible repeat (first | refine bkN ?_ _ | refine bkD ?_ | refine bkA ?_ _)); exact BK352.out)) : gb355 ≠ gb352))
    clear BK350 BK351 BK352 HB
    have BK350 := n0_; have BK351 := n1_; have BK352 := n2_; have HB := n3_; have BK355 := n4_; have GW355 := n5_; have GE355 := n6_; have NB350_355 := n7_; have NB355_350 := n8_; have NB351_355 := n9_; have NB355_351 := n10_; have NB352_355 := n11_; have NB355_352 := n12_
    clear n0_ n1_ n2_ n3_ n4_ n5_ n6_ n7_ n8_ n9_ n10_ n11_ n12_ hb hbox hg
    refine hK.out _ _ ⟨(bkC BK350.out 0).trans rfl, (bkC BK350.out 1).trans rfl, (bkC BK350.out 2).trans rfl, (bkC BK350.out 3).trans rfl⟩ (fun hHeld => ?_)
    clear hK K
    refine norm_ (a' := ?_) ?_ ?_
    rotate_left
    ·show Act.put _ (some 8) _ = _
     simp only [Act.put, List.setIfInBounds_toArray, List.set_cons_zero, List.set_cons_succ, i64_w, i32_w]
     rfl
    refine one_ (i := 4) (N := some 7) #[true,true,true,true,true,true,false,false] rfl rfl (one_of HT_.out (by kernel_rfl)) (by decide) (fun K hK => ?_)
    refine box_step ?hg (N := 7) ?hd (cs := #[.int .i64 0, .int .i64 0]) (t := 28) ?hr ?_; (case hd => rfl); (case hg => rfl); (case hr => first | (go_simp; done) | (go_simp; rfl))
    intro gb354 hg w12 hbox hb
    have n0_ := Aside0.mk (bkB (g := gb350) (o := .cells #[.int .i64 a0_0, .int .i64 a0_1, .int .i64 a0_2, .int .i64 a0_3] 51 (0, 0)) (by (with_reducible repeat (first | refine bkN ?_ _ | refine bkD ?_ | refine bkA ?_ _)); exact BK350.out) hb)
    have n1_ := Aside0.mk (bkB (g := gb351) (o := .cells #[.int .i64 a1_0, .int .i64 a1_1, .int .i64 a1_2, .int .i64 a1_3, .int .i64 a1_4] 47 (0, 0)) (by (with_reducible repeat (first | refine bkN ?_ _ | refine bkD ?_ | refine bkA ?_ _)); exact BK351.out) hb)
    have n2_ := Aside0.mk (bkB (g := gb352) (o := .cells #[.int .i64 a2_0, .int .i64 a2_1] 28 (0, 0)) (by (with_reducible repeat (first | refine bkN ?_ _ | refine bkD ?_ | refine bkA ?_ _)); exact BK352.out) hb)
    have n3_ := Aside0.mk (bkB (g := gb355) (o := .cells #[.int .i64 0, .int .i64 0] 28 (0, 0)) (by (with_reducible repeat (first | refine bkN ?_ _ | refine bkD ?_ | refine bkA ?_ _)); exact BK355.out) hb)
    have n4_ := Aside0.mk (below_step (by repeat (first | (with_reducible first | exact HB.out | apply blA | apply blN | apply blD | refine blS ?_ GE350.out | refine blS ?_ GE351.out | refine blS ?_ GE352.out | refine blS ?_ GE355.out) | exact HB.out)) hb)
    have n5_ := Aside0.mk (hbox)
    have n6_ := Aside0.mk ((by rw [hg]; exact (below_size (by repeat (first | (with_reducible first | exact HB.out | apply blA | apply blN | apply blD | refine blS ?_ GE350.out | refine blS ?_ GE351.out | refine blS ?_ GE352.out | refine blS ?_ GE355.out) | exact HB.out))) : w.heap.size ≤ gb354))
    have n7_ := Aside0.mk ((by rw [hg]; exact (below_size (by repeat (first | (with_reducible first | exact HB.out | apply blA | apply blN | apply blD | refine blS ?_ GE350.out | refine blS ?_ GE351.out | refine blS ?_ GE352.out | refine blS ?_ GE355.out) | exact HB.out))) : w.heap.size ≤ gb354))
    have n8_ := Aside0.mk ((by rw [hg]; exact Nat.ne_of_lt (blk_lt (g := gb350) (o := .cells #[.int .i64 a0_0, .int .i64 a0_1, .int .i64 a0_2, .int .i64 a0_3] 51 (0, 0)) (by (with_reducible repeat (first | refine bkN ?_ _ | refine bkD ?_ | refine bkA ?_ _)); exact BK350.out)) : gb350 ≠ gb354))
    have n9_ := Aside0.mk ((by rw [hg]; exact Nat.ne_of_gt (blk_lt (g := gb350) (o := .cells #[.int .i64 a0_0, .int .i64 a0_1, .int .i64 a0_2, .int .i64 a0_3] 51 (0, 0)) (by (with_reducible repeat (first | refine bkN ?_ _ | refine bkD ?_ | refine bkA ?_ _)); exact BK350.out)) : gb354 ≠ gb350))
    have n10_ := Aside0.mk ((by rw [hg]; exact Nat.ne_of_lt (blk_lt (g := gb351) (o := .cells #[.int .i64 a1_0, .int .i64 a1_1, .int .i64 a1_2, .int .i64 a1_3, .int .i64 a1_4] 47 (0, 0)) (by (with_reducible repeat (first | refine bkN ?_ _ | refine bkD ?_ | refine bkA ?_ _)); exact BK351.out)) : gb351 ≠ gb354))
    have n11_ := Aside0.mk ((by rw [hg]; exact Nat.ne_of_gt (blk_lt (g := gb351) (o := .cells #[.int .i64 a1_0, .int .i64 a1_1, .int .i64 a1_2, .int .i64 a1_3, .int .i64 a1_4] 47 (0, 0)) (by (with_reducible repeat (first | refine bkN ?_ _ | refine bkD ?_ | refine bkA ?_ _)); exact BK351.out)) : gb354 ≠ gb351))
    have n12_ := Aside0.mk ((by rw [hg]; exact Nat.ne_of_lt (blk_lt (g := gb352) (o := .cells #[.int .i64 a2_0, .int .i64 a2_1] 28 (0, 0)) (by (with_reducible repeat (first | refine bkN ?_ _ | refine bkD ?_ | refine bkA ?_ _)); exact BK352.out)) : gb352 ≠ gb354))
    have n13_ := Aside0.mk ((by rw [hg]; exact Nat.ne_of_gt (blk_lt (g := gb352) (o := .cells #[.int .i64 a2_0, .int .i64 a2_1] 28 (0, 0)) (by (with_reducible repeat (first | refine bkN ?_ _ | refine bkD ?_ | refine bkA ?_ _)); exact BK352.out)) : gb354 ≠ gb352))
    have n14_ := Aside0.mk ((by rw [hg]; exact Nat.ne_of_lt (blk_lt (g := gb355) (o := .cells #[.int .i64 0, .int .i64 0] 28 (0, 0)) (by (with_reducible repeat (first | refine bkN ?_ _ | refine bkD ?_ | refine bkA ?_ _)); exact BK355.out)) : gb355 ≠ gb354))
    have n15_ := Aside0.mk ((by rw [hg]; exact Nat.ne_of_gt (blk_lt (g := gb355) (o := .cells #[.int .i64 0, .int .i64 0] 28 (0, 0)) (by (with_reducible repeat (first | refine bkN ?_ _ | refine bkD ?_ | refine bkA ?_ _)); exact BK355.out)) : gb354 ≠ gb355))
    clear BK350 BK351 BK352 BK355 HB
    have BK350 := n0_; have BK351 := n1_; have BK352 := n2_; have BK355 := n3_; have HB := n4_; have BK354 := n5_; have GW354 := n6_; have GE354 := n7_; have NB350_354 := n8_; have NB354_350 := n9_; have NB351_354 := n10_; have NB354_351 := n11_; have NB352_354 := n12_; have NB354_352 := n13_; have NB355_354 := n14_; have NB354_355 := n15_
    clear n0_ n1_ n2_ n3_ n4_ n5_ n6_ n7_ n8_ n9_ n10_ n11_ n12_ n13_ n14_ n15_ hb hbox hg
    refine hK.out _ _ ⟨(bkC BK350.out 0).trans rfl, (bkC BK350.out 1).trans rfl, (bkC BK350.out 2).trans rfl, (bkC BK350.out 3).trans rfl⟩ (fun hHeld => ?_)
    clear hK K
    refine norm_ (a' := ?_) ?_ ?_
    rotate_left
    ·show Act.put _ (some 7) _ = _
     simp only [Act.put, List.setIfInBounds_toArray, List.set_cons_zero, List.set_cons_succ, i64_w, i32_w]
     rfl
    exact norm_ (by simp only [putAll, Act.put, List.setIfInBounds_toArray, List.set_cons_zero, List.set_cons_succ]) (hCont (gb354, gb355) _ ⟨hHeld, (by (with_reducible repeat (first | refine bkN ?_ _ | refine bkD ?_ | refine bkA ?_ _)); exact BK350.out), (by (with_reducible repeat (first | refine bkN ?_ _ | refine bkD ?_ | refine bkA ?_ _)); exact BK351.out), (by (with_reducible repeat (first | refine bkN ?_ _ | refine bkD ?_ | refine bkA ?_ _)); exact BK352.out), (by (with_reducible repeat (first | refine bkN ?_ _ | refine bkD ?_ | refine bkA ?_ _)); exact BK354.out), (by (with_reducible repeat (first | refine bkN ?_ _ | refine bkD ?_ | refine bkA ?_ _)); exact BK355.out), GW354.out, GE354.out, NB350_354.out, NB354_350.out, NB351_354.out, NB354_351.out, NB352_354.out, NB354_352.out, NB355_354.out, NB354_355.out, GW355.out, GE355.out, NB350_355.out, NB355_350.out, NB351_355.out, NB355_351.out, NB352_355.out, NB355_352.out, (by repeat (first | (with_reducible first | exact HB.out | apply blA | apply blN | apply blD | refine blS ?_ GE350.out | refine blS ?_ GE351.out | refine blS ?_ GE352.out | refine blS ?_ GE355.out | refine blS ?_ GE354.out) | exact HB.out))⟩)
  rintro ⟨gb354, gb355⟩ w13 ⟨hS_, h0_, h1_, h2_, h3_, h4_, h5_, h6_, h7_, h8_, h9_, h10_, h11_, h12_, h13_, h14_, h15_, h16_, h17_, h18_, h19_, h20_, h21_, h22_, h23_⟩
  have n0_ : Aside0 (w13.heap[gb350]? = some (.cells #[.int .i64 a0_0, .int .i64 a0_1, .int .i64 a0_2, .int .i64 a0_3] 51 (0, 0))) := ⟨h0_⟩
  have n1_ : Aside0 (w13.heap[gb351]? = some (.cells #[.int .i64 a1_0, .int .i64 a1_1, .int .i64 a1_2, .int .i64 a1_3, .int .i64 a1_4] 47 (0, 0))) := ⟨h1_⟩
  have n2_ : Aside0 (w13.heap[gb352]? = some (.cells #[.int .i64 a2_0, .int .i64 a2_1] 28 (0, 0))) := ⟨h2_⟩
  have n3_ : Aside0 (w13.heap[gb354]? = some (.cells #[.int .i64 0, .int .i64 0] 28 (0, 0))) := ⟨h3_⟩
  have n4_ : Aside0 (w13.heap[gb355]? = some (.cells #[.int .i64 0, .int .i64 0] 28 (0, 0))) := ⟨h4_⟩
  have n5_ : Aside0 (w.heap.size ≤ gb354) := ⟨h5_⟩
  have n6_ : Aside0 (w.heap.size ≤ gb354) := ⟨h6_⟩
  have n7_ : Aside0 (gb350 ≠ gb354) := ⟨h7_⟩
  have n8_ : Aside0 (gb354 ≠ gb350) := ⟨h8_⟩
  have n9_ : Aside0 (gb351 ≠ gb354) := ⟨h9_⟩
  have n10_ : Aside0 (gb354 ≠ gb351) := ⟨h10_⟩
  have n11_ : Aside0 (gb352 ≠ gb354) := ⟨h11_⟩
  have n12_ : Aside0 (gb354 ≠ gb352) := ⟨h12_⟩
  have n13_ : Aside0 (gb355 ≠ gb354) := ⟨h13_⟩
  have n14_ : Aside0 (gb354 ≠ gb355) := ⟨h14_⟩
  have n15_ : Aside0 (w.heap.size ≤ gb355) := ⟨h15_⟩
  have n16_ : Aside0 (w.heap.size ≤ gb355) := ⟨h16_⟩
  have n17_ : Aside0 (gb350 ≠ gb355) := ⟨h17_⟩
  have n18_ : Aside0 (gb355 ≠ gb350) := ⟨h18_⟩
  have n19_ : Aside0 (gb351 ≠ gb355) := ⟨h19_⟩
  have n20_ : Aside0 (gb355 ≠ gb351) := ⟨h20_⟩
  have n21_ : Aside0 (gb352 ≠ gb355) := ⟨h21_⟩
  have n22_ : Aside0 (gb355 ≠ gb352) := ⟨h22_⟩
  have n23_ : Aside0 (Below w.heap.size w w13) := ⟨h23_⟩
  clear BK350 BK351 BK352 HB h0_ h1_ h2_ h3_ h4_ h5_ h6_ h7_ h8_ h9_ h10_ h11_ h12_ h13_ h14_ h15_ h16_ h17_ h18_ h19_ h20_ h21_ h22_ h23_
  have BK350 := n0_; have BK351 := n1_; have BK352 := n2_; have BK354 := n3_; have BK355 := n4_; have GW354 := n5_; have GE354 := n6_; have NB350_354 := n7_; have NB354_350 := n8_; have NB351_354 := n9_; have NB354_351 := n10_; have NB352_354 := n11_; have NB354_352 := n12_; have NB355_354 := n13_; have NB354_355 := n14_; have GW355 := n15_; have GE355 := n16_; have NB350_355 := n17_; have NB355_350 := n18_; have NB351_355 := n19_; have NB355_351 := n20_; have NB352_355 := n21_; have NB355_352 := n22_; have HB := n23_
  clear n0_ n1_ n2_ n3_ n4_ n5_ n6_ n7_ n8_ n9_ n10_ n11_ n12_ n13_ n14_ n15_ n16_ n17_ n18_ n19_ n20_ n21_ n22_ n23_
  have hHeld : w13.cell? ⟨gb350, 0, none⟩ = some (.int .i64 a0_0) ∧ w13.cell? ⟨gb350, 1, none⟩ = some (.int .i64 a0_1) ∧ w13.cell? ⟨gb350, 2, none⟩ = some (.int .i64 a0_2) ∧ w13.cell? ⟨gb350, 3, none⟩ = some (.int .i64 a0_3) := hS_
  refine norm_ (a' := ?_) ?_ ?_
  rotate_left
  ·simp only [putAll, Act.put, List.setIfInBounds_toArray, List.set_cons_zero, List.set_cons_succ]
   rfl
  refine one_ (i := 6) (N := none) #[true,true,true,true,true,true,true,false] rfl rfl (one_of HT_.out (by kernel_rfl)) (by decide) (fun K hK => ?_)
  have hs14 : w13.cell? ⟨gb354, 0, none⟩ = some (.int .i64 0) := (bkC BK354.out 0).trans rfl
  have hfs14 := bkF BK354.out 0
  have hns14_0 := NB350_354.out
  have hns14_1 := NB351_354.out
  have hns14_2 := NB352_354.out
  have hns14_4 := NB355_354.out
  have hms14_0 := NB354_350.out
  have hms14_1 := NB354_351.out
  have hms14_2 := NB354_352.out
  have hms14_4 := NB354_355.out
  have hs15 : w13.cell? ⟨gb354, 1, none⟩ = some (.int .i64 0) := (bkC BK354.out 1).trans rfl
  have hfs15 := bkF BK354.out 1
  have hns15_0 := NB350_354.out
  have hns15_1 := NB351_354.out
  have hns15_2 := NB352_354.out
  have hns15_4 := NB355_354.out
  have hms15_0 := NB354_350.out
  have hms15_1 := NB354_351.out
  have hms15_2 := NB354_352.out
  have hms15_4 := NB354_355.out
  refine skip_ (w1 := ?_) (by rfl) rfl ?_ ?_
  rotate_left
  ·go_simp
   rfl
  refine hK.out _ _ ⟨((cell_far (p := ⟨gb354, _, none⟩) NB350_354.out _).trans (((cell_far (p := ⟨gb354, _, none⟩) NB350_354.out _).trans (hHeld.1)))), ((cell_far (p := ⟨gb354, _, none⟩) NB350_354.out _).trans (((cell_far (p := ⟨gb354, _, none⟩) NB350_354.out _).trans (hHeld.2.1)))), ((cell_far (p := ⟨gb354, _, none⟩) NB350_354.out _).trans (((cell_far (p := ⟨gb354, _, none⟩) NB350_354.out _).trans (hHeld.2.2.1)))), ((cell_far (p := ⟨gb354, _, none⟩) NB350_354.out _).trans (((cell_far (p := ⟨gb354, _, none⟩) NB350_354.out _).trans (hHeld.2.2.2))))⟩ (fun hHeld => ?_)
  clear hK K
  refine one_ (i := 7) (N := none) #[true,true,true,true,true,true,true,true] rfl rfl (one_of HT_.out (by kernel_rfl)) (by decide) (fun K hK => ?_)
  have hs16 : w13.cell? ⟨gb355, 0, none⟩ = some (.int .i64 0) := (bkC BK355.out 0).trans rfl
  have hfs16 := bkF BK355.out 0
  have hns16_0 := NB350_355.out
  have hns16_1 := NB351_355.out
  have hns16_2 := NB352_355.out
  have hns16_3 := NB354_355.out
  have hms16_0 := NB355_350.out
  have hms16_1 := NB355_351.out
  have hms16_2 := NB355_352.out
  have hms16_3 := NB355_354.out
  have hs17 : w13.cell? ⟨gb355, 1, none⟩ = some (.int .i64 0) := (bkC BK355.out 1).trans rfl
  have hfs17 := bkF BK355.out 1
  have hns17_0 := NB350_355.out
  have hns17_1 := NB351_355.out
  have hns17_2 := NB352_355.out
  have hns17_3 := NB354_355.out
  have hms17_0 := NB355_350.out
  have hms17_1 := NB355_351.out
  have hms17_2 := NB355_352.out
  have hms17_3 := NB355_354.out
  refine skip_ (w1 := ?_) (by rfl) rfl ?_ ?_
  rotate_left
  ·go_simp
   rfl
  refine hK.out _ _ ⟨((cell_far (p := ⟨gb355, _, none⟩) NB350_355.out _).trans (((cell_far (p := ⟨gb355, _, none⟩) NB350_355.out _).trans (hHeld.1)))), ((cell_far (p := ⟨gb355, _, none⟩) NB350_355.out _).trans (((cell_far (p := ⟨gb355, _, none⟩) NB350_355.out _).trans (hHeld.2.1)))), ((cell_far (p := ⟨gb355, _, none⟩) NB350_355.out _).trans (((cell_far (p := ⟨gb355, _, none⟩) NB350_355.out _).trans (hHeld.2.2.1)))), ((cell_far (p := ⟨gb355, _, none⟩) NB350_355.out _).trans (((cell_far (p := ⟨gb355, _, none⟩) NB350_355.out _).trans (hHeld.2.2.2))))⟩ (fun hHeld => ?_)
  clear hK K
  refine done_ (done_of HT_.out (by kernel_rfl)) ?_
  have hnb18 := NB354_350.out
  have hnc18 := NB350_354.out
  have hnb19 := NB354_351.out
  have hnc19 := NB351_354.out
  have hnb20 := NB354_352.out
  have hnc20 := NB352_354.out
  have hnb21 := NB354_355.out
  have hnc21 := NB355_354.out
  have hcz22_0 : w13.cell? ⟨gb354, 0, none⟩ = some (.int .i64 0) := (bkC BK354.out 0).trans rfl
  have hcz22_1 : w13.cell? ⟨gb354, 1, none⟩ = some (.int .i64 0) := (bkC BK354.out 1).trans rfl
  have hfz22_0 := bkF BK354.out 0
  have hfz22_1 := bkF BK354.out 1
  have hnb23 := NB355_350.out
  have hnc23 := NB350_355.out
  have hnb24 := NB355_351.out
  have hnc24 := NB351_355.out
  have hnb25 := NB355_352.out
  have hnc25 := NB352_355.out
  have hcz26_0 : w13.cell? ⟨gb355, 0, none⟩ = some (.int .i64 0) := (bkC BK355.out 0).trans rfl
  have hcz26_1 : w13.cell? ⟨gb355, 1, none⟩ = some (.int .i64 0) := (bkC BK355.out 1).trans rfl
  have hfz26_0 := bkF BK355.out 0
  have hfz26_1 := bkF BK355.out 1
  have hnb27 := NB351_350.out
  have hnc27 := NB350_351.out
  have hnb28 := NB351_352.out
  have hnc28 := NB352_351.out
  have hcz29_0 : w13.cell? ⟨gb351, 0, none⟩ = some (.int .i64 a1_0) := (bkC BK351.out 0).trans rfl
  have hcz29_1 : w13.cell? ⟨gb351, 1, none⟩ = some (.int .i64 a1_1) := (bkC BK351.out 1).trans rfl
  have hcz29_2 : w13.cell? ⟨gb351, 2, none⟩ = some (.int .i64 a1_2) := (bkC BK351.out 2).trans rfl
  have hcz29_3 : w13.cell? ⟨gb351, 3, none⟩ = some (.int .i64 a1_3) := (bkC BK351.out 3).trans rfl
  have hcz29_4 : w13.cell? ⟨gb351, 4, none⟩ = some (.int .i64 a1_4) := (bkC BK351.out 4).trans rfl
  have hfz29_0 := bkF BK351.out 0
  have hfz29_1 := bkF BK351.out 1
  have hfz29_2 := bkF BK351.out 2
  have hfz29_3 := bkF BK351.out 3
  have hfz29_4 := bkF BK351.out 4
  have hnb30 := NB352_350.out
  have hnc30 := NB350_352.out
  have hcz31_0 : w13.cell? ⟨gb352, 0, none⟩ = some (.int .i64 a2_0) := (bkC BK352.out 0).trans rfl
  have hcz31_1 : w13.cell? ⟨gb352, 1, none⟩ = some (.int .i64 a2_1) := (bkC BK352.out 1).trans rfl
  have hfz31_0 := bkF BK352.out 0
  have hfz31_1 := bkF BK352.out 1
  try go_wp2_with (first | ((with_reducible refine gate_dst (N := 29) rfl ?_); refine Kd.R_lit k28 _ 28 ?hg (N := 29) ?hd (xs := ([(⟨a0_0, a0_1⟩ : S28), (⟨a0_2, a0_3⟩ : S28), (⟨a1_0, a1_1⟩ : S28), (⟨a1_2, a1_3⟩ : S28), (⟨a2_0, a2_1⟩ : S28)] : List (S28))) (inner := [.int .i64 a0_0, .int .i64 a0_1, .int .i64 a0_2, .int .i64 a0_3, .int .i64 a1_0, .int .i64 a1_1, .int .i64 a1_2, .int .i64 a1_3, .int .i64 a2_0, .int .i64 a2_1]) (ok := fun _ => True) (okp := fun _ => True) ?hr ?hp (fun _ hk => hk) trivial (Below.refl _ _) (Nat.le_refl _) (by simp) ?_; (case hd => rfl); (case hg => rfl); (case hr => first | (go_simp; done) | (go_simp; rfl)); (case hp => exact (Reps.c2 (show Kd.M k28 _ _ _ (⟨a0_0, a0_1⟩ : S28) [.int .i64 a0_0, .int .i64 a0_1] from (k28_mkM _ _ _ (⟨a0_0, a0_1⟩ : S28) )) (Reps.c2 (show Kd.M k28 _ _ _ (⟨a0_2, a0_3⟩ : S28) [.int .i64 a0_2, .int .i64 a0_3] from (k28_mkM _ _ _ (⟨a0_2, a0_3⟩ : S28) )) (Reps.c2 (show Kd.M k28 _ _ _ (⟨a1_0, a1_1⟩ : S28) [.int .i64 a1_0, .int .i64 a1_1] from (k28_mkM _ _ _ (⟨a1_0, a1_1⟩ : S28) )) (Reps.c2 (show Kd.M k28 _ _ _ (⟨a1_2, a1_3⟩ : S28) [.int .i64 a1_2, .int .i64 a1_3] from (k28_mkM _ _ _ (⟨a1_2, a1_3⟩ : S28) )) (Reps.c2 (show Kd.M k28 _ _ _ (⟨a2_0, a2_1⟩ : S28) [.int .i64 a2_0, .int .i64 a2_1] from (k28_mkM _ _ _ (⟨a2_0, a2_1⟩ : S28) )) (Reps.none _ _))))))); intro v357 w32 ho33 hb hg_ hnew_; clear hg_ hnew_; (first | rw [← Ny356.out] at ho33 | (simp only [Int.reduceToNat] at ho33; rw [← Ny356.out] at ho33)); have n0_ := Aside0.mk (Kd.R_lower (Kd.R_newB (Kd.R_newB (Kd.R_newB ho33 (g := gb352) (o := .cells #[.int .i64 a2_0, .int .i64 a2_1] 28 (0, 0)) (by (with_reducible repeat (first | refine bkN ?_ _ | refine bkD ?_ | refine bkA ?_ _)); refine blk_far ?_ NB352_355.out _; (with_reducible repeat (first | refine bkN ?_ _ | refine bkD ?_ | refine bkA ?_ _)); refine blk_far ?_ NB352_355.out _; (with_reducible repeat (first | refine bkN ?_ _ | refine bkD ?_ | refine bkA ?_ _)); refine blk_far ?_ NB352_354.out _; (with_reducible repeat (first | refine bkN ?_ _ | refine bkD ?_ | refine bkA ?_ _)); refine blk_far ?_ NB352_354.out _; (with_reducible repeat (first | refine bkN ?_ _ | refine bkD ?_ | refine bkA ?_ _)); exact BK352.out)) (g := gb354) (o := .cells #[.int .i64 a0_0, .int .i64 a0_1] 28 (0, 0)) (by (with_reducible repeat (first | refine bkN ?_ _ | refine bkD ?_ | refine bkA ?_ _)); refine blk_far ?_ NB354_355.out _; (with_reducible repeat (first | refine bkN ?_ _ | refine bkD ?_ | refine bkA ?_ _)); refine blk_far ?_ NB354_355.out _; (with_reducible repeat (first | refine bkN ?_ _ | refine bkD ?_ | refine bkA ?_ _)); refine blk_put (cs := #[.int .i64 a0_0, .int .i64 0]) ?_ 1 _ rfl; (with_reducible repeat (first | refine bkN ?_ _ | refine bkD ?_ | refine bkA ?_ _)); refine blk_put (cs := #[.int .i64 0, .int .i64 0]) ?_ 0 _ rfl; (with_reducible repeat (first | refine bkN ?_ _ | refine bkD ?_ | refine bkA ?_ _)); exact BK354.out)) (g := gb355) (o := .cells #[.int .i64 a0_2, .int .i64 a0_3] 28 (0, 0)) (by (with_reducible repeat (first | refine bkN ?_ _ | refine bkD ?_ | refine bkA ?_ _)); refine blk_put (cs := #[.int .i64 a0_2, .int .i64 0]) ?_ 1 _ rfl; (with_reducible repeat (first | refine bkN ?_ _ | refine bkD ?_ | refine bkA ?_ _)); refine blk_put (cs := #[.int .i64 0, .int .i64 0]) ?_ 0 _ rfl; (with_reducible repeat (first | refine bkN ?_ _ | refine bkD ?_ | refine bkA ?_ _)); refine blk_far ?_ NB355_354.out _; (with_reducible repeat (first | refine bkN ?_ _ | refine bkD ?_ | refine bkA ?_ _)); refine blk_far ?_ NB355_354.out _; (with_reducible repeat (first | refine bkN ?_ _ | refine bkD ?_ | refine bkA ?_ _)); exact BK355.out)) (below_size (by repeat (first | (with_reducible first | exact HB.out | apply blA | apply blN | apply blD | refine blS ?_ GE350.out | refine blS ?_ GE351.out | refine blS ?_ GE352.out | refine blS ?_ GE354.out | refine blS ?_ GE355.out) | exact HB.out)))); have n1_ := Aside0.mk (bkB (g := gb350) (o := .cells #[.int .i64 a0_0, .int .i64 a0_1, .int .i64 a0_2, .int .i64 a0_3] 51 (0, 0)) (by (with_reducible repeat (first | refine bkN ?_ _ | refine bkD ?_ | refine bkA ?_ _)); refine blk_far ?_ NB350_355.out _; (with_reducible repeat (first | refine bkN ?_ _ | refine bkD ?_ | refine bkA ?_ _)); refine blk_far ?_ NB350_355.out _; (with_reducible repeat (first | refine bkN ?_ _ | refine bkD ?_ | refine bkA ?_ _)); refine blk_far ?_ NB350_354.out _; (with_reducible repeat (first | refine bkN ?_ _ | refine bkD ?_ | refine bkA ?_ _)); refine blk_far ?_ NB350_354.out _; (with_reducible repeat (first | refine bkN ?_ _ | refine bkD ?_ | refine bkA ?_ _)); exact BK350.out) hb); have n2_ := Aside0.mk (bkB (g := gb351) (o := .cells #[.int .i64 a1_0, .int .i64 a1_1, .int .i64 a1_2, .int .i64 a1_3, .int .i64 a1_4] 47 (0, 0)) (by (with_reducible repeat (first | refine bkN ?_ _ | refine bkD ?_ | refine bkA ?_ _)); refine blk_far ?_ NB351_355.out _; (with_reducible repeat (first | refine bkN ?_ _ | refine bkD ?_ | refine bkA ?_ _)); refine blk_far ?_ NB351_355.out _; (with_reducible repeat (first | refine bkN ?_ _ | refine bkD ?_ | refine bkA ?_ _)); refine blk_far ?_ NB351_354.out _; (with_reducible repeat (first | refine bkN ?_ _ | refine bkD ?_ | refine bkA ?_ _)); refine blk_far ?_ NB351_354.out _; (with_reducible repeat (first | refine bkN ?_ _ | refine bkD ?_ | refine bkA ?_ _)); exact BK351.out) hb); have n3_ := Aside0.mk (bkB (g := gb352) (o := .cells #[.int .i64 a2_0, .int .i64 a2_1] 28 (0, 0)) (by (with_reducible repeat (first | refine bkN ?_ _ | refine bkD ?_ | refine bkA ?_ _)); refine blk_far ?_ NB352_355.out _; (with_reducible repeat (first | refine bkN ?_ _ | refine bkD ?_ | refine bkA ?_ _)); refine blk_far ?_ NB352_355.out _; (with_reducible repeat (first | refine bkN ?_ _ | refine bkD ?_ | refine bkA ?_ _)); refine blk_far ?_ NB352_354.out _; (with_reducible repeat (first | refine bkN ?_ _ | refine bkD ?_ | refine bkA ?_ _)); refine blk_far ?_ NB352_354.out _; (with_reducible repeat (first | refine bkN ?_ _ | refine bkD ?_ | refine bkA ?_ _)); exact BK352.out) hb); have n4_ := Aside0.mk (bkB (g := gb354) (o := .cells #[.int .i64 a0_0, .int .i64 a0_1] 28 (0, 0)) (by (with_reducible repeat (first | refine bkN ?_ _ | refine bkD ?_ | refine bkA ?_ _)); refine blk_far ?_ NB354_355.out _; (with_reducible repeat (first | refine bkN ?_ _ | refine bkD ?_ | refine bkA ?_ _)); refine blk_far ?_ NB354_355.out _; (with_reducible repeat (first | refine bkN ?_ _ | refine bkD ?_ | refine bkA ?_ _)); refine blk_put (cs := #[.int .i64 a0_0, .int .i64 0]) ?_ 1 _ rfl; (with_reducible repeat (first | refine bkN ?_ _ | refine bkD ?_ | refine bkA ?_ _)); refine blk_put (cs := #[.int .i64 0, .int .i64 0]) ?_ 0 _ rfl; (with_reducible repeat (first | refine bkN ?_ _ | refine bkD ?_ | refine bkA ?_ _)); exact BK354.out) hb); have n5_ := Aside0.mk (bkB (g := gb355) (o := .cells #[.int .i64 a0_2, .int .i64 a0_3] 28 (0, 0)) (by (with_reducible repeat (first | refine bkN ?_ _ | refine bkD ?_ | refine bkA ?_ _)); refine blk_put (cs := #[.int .i64 a0_2, .int .i64 0]) ?_ 1 _ rfl; (with_reducible repeat (first | refine bkN ?_ _ | refine bkD ?_ | refine bkA ?_ _)); refine blk_put (cs := #[.int .i64 0, .int .i64 0]) ?_ 0 _ rfl; (with_reducible repeat (first | refine bkN ?_ _ | refine bkD ?_ | refine bkA ?_ _)); refine blk_far ?_ NB355_354.out _; (with_reducible repeat (first | refine bkN ?_ _ | refine bkD ?_ | refine bkA ?_ _)); refine blk_far ?_ NB355_354.out _; (with_reducible repeat (first | refine bkN ?_ _ | refine bkD ?_ | refine bkA ?_ _)); exact BK355.out) hb); have n6_ := Aside0.mk (below_step (by repeat (first | (with_reducible first | exact HB.out | apply blA | apply blN | apply blD | refine blS ?_ GE350.out | refine blS ?_ GE351.out | refine blS ?_ GE352.out | refine blS ?_ GE354.out | refine blS ?_ GE355.out) | exact HB.out)) hb); clear BK350; clear BK351; clear BK352; clear BK354; clear BK355; clear HB; have HO358 := n0_; have BK350 := n1_; have BK351 := n2_; have BK352 := n3_; have BK354 := n4_; have BK355 := n5_; have HB := n6_; clear n0_ n1_ n2_ n3_ n4_ n5_ n6_; clear hb ho33; obtain ⟨Ao34, co34, eo34⟩ := Kd.R_slice HO358.out; subst eo34))
  go_loopg [31] k (fun kq v31 w' => ∃ (x31_1 : Int), v31 = .int .i64 x31_1 ∧ Aside0 (hopmeshlaw05_GeometryMoves.l0 kq y356 (y356.length : Int) x31_1 a1_0 a1_1 a1_2 a1_3 a1_4 a2_0 a2_1 a0_0 a0_1 a0_2 a0_3 = some r) ∧ Aside0 (kq ≤ k) ∧ Aside0 (Kd.R k28 28 w' w.heap.size (fun k_ => k_ ≠ gb352 ∧ k_ ≠ gb354 ∧ k_ ≠ gb355) (.slice Ao34 y356.length co34) y356) ∧ Aside0 (w'.heap[gb350]? = some (.cells #[.int .i64 a0_0, .int .i64 a0_1, .int .i64 a0_2, .int .i64 a0_3] 51 (0, 0))) ∧ Aside0 (w'.heap[gb351]? = some (.cells #[.int .i64 a1_0, .int .i64 a1_1, .int .i64 a1_2, .int .i64 a1_3, .int .i64 a1_4] 47 (0, 0))) ∧ Aside0 (w'.heap[gb352]? = some (.cells #[.int .i64 a2_0, .int .i64 a2_1] 28 (0, 0))) ∧ Aside0 (w'.heap[gb354]? = some (.cells #[.int .i64 a0_0, .int .i64 a0_1] 28 (0, 0))) ∧ Aside0 (w'.heap[gb355]? = some (.cells #[.int .i64 a0_2, .int .i64 a0_3] 28 (0, 0))) ∧ Aside0 (Below w.heap.size w w'))
  case atStart => exact ⟨(0), (by first | rfl | (simp; done) | (simp [*]; done)), H', ⟨Nat.le_refl _⟩, ⟨by (with_reducible repeat (first | apply Kd.R_alloc | apply Kd.R_drewN | apply Kd.R_drew)); exact Kd.R_mono HO358.out (fun _ hk => ⟨hk.1.1.2, ⟨hk.1.2, hk.2⟩⟩)⟩, ⟨by (with_reducible repeat (first | refine bkN ?_ _ | refine bkD ?_ | refine bkA ?_ _)); exact BK350.out⟩, ⟨by (with_reducible repeat (first | refine bkN ?_ _ | refine bkD ?_ | refine bkA ?_ _)); exact BK351.out⟩, ⟨by (with_reducible repeat (first | refine bkN ?_ _ | refine bkD ?_ | refine bkA ?_ _)); exact BK352.out⟩, ⟨by (with_reducible repeat (first | refine bkN ?_ _ | refine bkD ?_ | refine bkA ?_ _)); exact BK354.out⟩, ⟨by (with_reducible repeat (first | refine bkN ?_ _ | refine bkD ?_ | refine bkA ?_ _)); exact BK355.out⟩, ⟨by repeat (first | (with_reducible first | exact HB.out | apply blA | apply blN | apply blD | refine blS ?_ GE350.out | refine blS ?_ GE351.out | refine blS ?_ GE352.out | refine blS ?_ GE354.out | refine blS ?_ GE355.out) | exact HB.out)⟩⟩
  case round => as_aux_lemma =>
   clear H'
   try clear c1
   try clear c2
   try clear p2
   try clear c3
   try clear c5
   try clear c6
   try clear c11
   try clear c18
   try clear c19
   try clear c20
   try clear c21
   try clear c23
   try clear c24
   try clear c25
   try clear c27
   try clear c28
   try clear c30
   try clear hcz22_0
   try clear hcz22_1
   try clear hcz26_0
   try clear hcz26_1
   try clear hcz29_0
   try clear hcz29_1
   try clear hcz29_2
   try clear hcz29_3
   try clear hcz29_4
   try clear hcz31_0
   try clear hcz31_1
   try clear hfz22_0
   try clear hfz22_1
   try clear hfz26_0
   try clear hfz26_1
   try clear hfz29_0
   try clear hfz29_1
   try clear hfz29_2
   try clear hfz29_3
   try clear hfz29_4
   try clear hfz31_0
   try clear hfz31_1
   obtain ⟨x31_1, rfl, HA, HK1, HO_29, BK350, BK351, BK352, BK354, BK355, HB⟩ := hrel
   cases gk with
   | zero => exact absurd HA.out (by simp [hopmeshlaw05_GeometryMoves.l0])
   | succ k1 =>
    have H := HA.out
    clear HA
    simp only [hopmeshlaw05_GeometryMoves.l0] at H
    by_cases c35 : x31_1 < (y356.length : Int)
    ·rw [if_pos c35] at H
     have c35b0 : decide (x31_1 < (y356.length : Int)) = true := decide_eq_true c35
     clear c35
     by_cases c36 : 0 ≤ x31_1
     rotate_left
     ·rw [if_neg c36] at H
      exact absurd H (by simp)
     as_aux_lemma =>
      rw [if_pos c36] at H
      have c36b0 : decide (0 ≤ x31_1) = true := decide_eq_true c36
      clear c36
      by_cases c37 : x31_1 < (y356.length : Int)
      rotate_left
      ·rw [if_neg c37] at H
       exact absurd H (by simp)
      rw [if_pos c37] at H
      have c37b0 : decide (x31_1 < (y356.length : Int)) = true := decide_eq_true c37
      clear c37
      by_cases c38 : ((rd_T28 y356 x31_1).f0) < 0
      ·rw [if_pos c38] at H
       have c38b0 : decide (((rd_T28 y356 x31_1).f0) < 0) = true := decide_eq_true c38
       clear c38
       obtain rfl := Option.some.inj H
       have p359 : 0 ≤ (x31_1 : Int) := of_decide_eq_true (by first | (with_reducible assumption) | assumption)
       have q359 : x31_1 < (y356.length : Int) := of_decide_eq_true (by first | (with_reducible assumption) | assumption)
       obtain ⟨ad359, e359, hx359_0, hx359_1⟩ := at_T28 (Kd.R_reads' HO_29.out).2.2 x31_1 p359 q359
       cases e359
       replace p359 := eq_true p359
       replace q359 := eq_true q359
       go_wp2_with (first | ((with_reducible refine gate_dst (N := 10) rfl ?_); refine box_event ?hg (N := 10) ?hd (cs := #[.int .i64 0, .int .i64 0]) (t := 28) ?hr ?_; (case hd => rfl); (case hg => rfl); (case hr => first | (go_simp; done) | (go_simp; rfl)); intro gb360 hg w39 hbox hb; have n0_ := Aside0.mk (Kd.R_below (Kd.R_elderB (by (with_reducible repeat (first | apply Kd.R_alloc | apply Kd.R_drewN | apply Kd.R_drew)); exact HO_29.out) gb360 (Nat.le_of_eq hg.symm)) hb); have n1_ := Aside0.mk (bkB (g := gb350) (o := .cells #[.int .i64 a0_0, .int .i64 a0_1, .int .i64 a0_2, .int .i64 a0_3] 51 (0, 0)) (by (with_reducible repeat (first | refine bkN ?_ _ | refine bkD ?_ | refine bkA ?_ _)); exact BK350.out) hb); have n2_ := Aside0.mk (bkB (g := gb351) (o := .cells #[.int .i64 a1_0, .int .i64 a1_1, .int .i64 a1_2, .int .i64 a1_3, .int .i64 a1_4] 47 (0, 0)) (by (with_reducible repeat (first | refine bkN ?_ _ | refine bkD ?_ | refine bkA ?_ _)); exact BK351.out) hb); have n3_ := Aside0.mk (bkB (g := gb352) (o := .cells #[.int .i64 a2_0, .int .i64 a2_1] 28 (0, 0)) (by (with_reducible repeat (first | refine bkN ?_ _ | refine bkD ?_ | refine bkA ?_ _)); exact BK352.out) hb); have n4_ := Aside0.mk (bkB (g := gb354) (o := .cells #[.int .i64 a0_0, .int .i64 a0_1] 28 (0, 0)) (by (with_reducible repeat (first | refine bkN ?_ _ | refine bkD ?_ | refine bkA ?_ _)); exact BK354.out) hb); have n5_ := Aside0.mk (bkB (g := gb355) (o := .cells #[.int .i64 a0_2, .int .i64 a0_3] 28 (0, 0)) (by (with_reducible repeat (first | refine bkN ?_ _ | refine bkD ?_ | refine bkA ?_ _)); exact BK355.out) hb); have n6_ := Aside0.mk (below_step (by repeat (first | (with_reducible first | exact HB.out | apply blA | apply blN | apply blD | refine blS ?_ GE350.out | refine blS ?_ GE351.out | refine blS ?_ GE352.out | refine blS ?_ GE354.out | refine blS ?_ GE355.out) | exact HB.out)) hb); have n7_ := Aside0.mk (hbox); have n8_ := Aside0.mk ((by rw [hg]; exact (below_size (by repeat (first | (with_reducible first | exact HB.out | apply blA | apply blN | apply blD | refine blS ?_ GE350.out | refine blS ?_ GE351.out | refine blS ?_ GE352.out | refine blS ?_ GE354.out | refine blS ?_ GE355.out) | exact HB.out))) : w.heap.size ≤ gb360)); have n9_ := Aside0.mk ((by rw [hg]; exact (below_size (by repeat (first | (with_reducible first | exact HB.out | apply blA | apply blN | apply blD | refine blS ?_ GE350.out | refine blS ?_ GE351.out | refine blS ?_ GE352.out | refine blS ?_ GE354.out | refine blS ?_ GE355.out) | exact HB.out))) : w.heap.size ≤ gb360)); have n10_ := Aside0.mk ((by rw [hg]; exact Nat.ne_of_lt (blk_lt (g := gb350) (o := .cells #[.int .i64 a0_0, .int .i64 a0_1, .int .i64 a0_2, .int .i64 a0_3] 51 (0, 0)) (by (with_reducible repeat (first | refine bkN ?_ _ | refine bkD ?_ | refine bkA ?_ _)); exact BK350.out)) : gb350 ≠ gb360)); have n11_ := Aside0.mk ((by rw [hg]; exact Nat.ne_of_gt (blk_lt (g := gb350) (o := .cells #[.int .i64 a0_0, .int .i64 a0_1, .int .i64 a0_2, .int .i64 a0_3] 51 (0, 0)) (by (with_reducible repeat (first | refine bkN ?_ _ | refine bkD ?_ | refine bkA ?_ _)); exact BK350.out)) : gb360 ≠ gb350)); have n12_ := Aside0.mk ((by rw [hg]; exact Nat.ne_of_lt (blk_lt (g := gb351) (o := .cells #[.int .i64 a1_0, .int .i64 a1_1, .int .i64 a1_2, .int .i64 a1_3, .int .i64 a1_4] 47 (0, 0)) (by (with_reducible repeat (first | refine bkN ?_ _ | refine bkD ?_ | refine bkA ?_ _)); exact BK351.out)) : gb351 ≠ gb360)); have n13_ := Aside0.mk ((by rw [hg]; exact Nat.ne_of_gt (blk_lt (g := gb351) (o := .cells #[.int .i64 a1_0, .int .i64 a1_1, .int .i64 a1_2, .int .i64 a1_3, .int .i64 a1_4] 47 (0, 0)) (by (with_reducible repeat (first | refine bkN ?_ _ | refine bkD ?_ | refine bkA ?_ _)); exact BK351.out)) : gb360 ≠ gb351)); have n14_ := Aside0.mk ((by rw [hg]; exact Nat.ne_of_lt (blk_lt (g := gb352) (o := .cells #[.int .i64 a2_0, .int .i64 a2_1] 28 (0, 0)) (by (with_reducible repeat (first | refine bkN ?_ _ | refine bkD ?_ | refine bkA ?_ _)); exact BK352.out)) : gb352 ≠ gb360)); have n15_ := Aside0.mk ((by rw [hg]; exact Nat.ne_of_gt (blk_lt (g := gb352) (o := .cells #[.int .i64 a2_0, .int .i64 a2_1] 28 (0, 0)) (by (with_reducible repeat (first | refine bkN ?_ _ | refine bkD ?_ | refine bkA ?_ _)); exact BK352.out)) : gb360 ≠ gb352)); have n16_ := Aside0.mk ((by rw [hg]; exact Nat.ne_of_lt (blk_lt (g := gb354) (o := .cells #[.int .i64 a0_0, .int .i64 a0_1] 28 (0, 0)) (by (with_reducible repeat (first | refine bkN ?_ _ | refine bkD ?_ | refine bkA ?_ _)); exact BK354.out)) : gb354 ≠ gb360)); have n17_ := Aside0.mk ((by rw [hg]; exact Nat.ne_of_gt (blk_lt (g := gb354) (o := .cells #[.int .i64 a0_0, .int .i64 a0_1] 28 (0, 0)) (by (with_reducible repeat (first | refine bkN ?_ _ | refine bkD ?_ | refine bkA ?_ _)); exact BK354.out)) : gb360 ≠ gb354)); have n18_ := Aside0.mk ((by rw [hg]; exact Nat.ne_of_lt (blk_lt (g := gb355) (o := .cells #[.int .i64 a0_2, .int .i64 a0_3] 28 (0, 0)) (by (with_reducible repeat (first | refine bkN ?_ _ | refine bkD ?_ | refine bkA ?_ _)); exact BK355.out)) : gb355 ≠ gb360)); have n19_ := Aside0.mk ((by rw [hg]; exact Nat.ne_of_gt (blk_lt (g := gb355) (o := .cells #[.int .i64 a0_2, .int .i64 a0_3] 28 (0, 0)) (by (with_reducible repeat (first | refine bkN ?_ _ | refine bkD ?_ | refine bkA ?_ _)); exact BK355.out)) : gb360 ≠ gb355)); clear HO_29; clear BK350; clear BK351; clear BK352; clear BK354; clear BK355; clear HB; have HO_29 := n0_; have BK350 := n1_; have BK351 := n2_; have BK352 := n3_; have BK354 := n4_; have BK355 := n5_; have HB := n6_; have BK360 := n7_; have GW360 := n8_; have GE360 := n9_; have NB350_360 := n10_; have NB360_350 := n11_; have NB351_360 := n12_; have NB360_351 := n13_; have NB352_360 := n14_; have NB360_352 := n15_; have NB354_360 := n16_; have NB360_354 := n17_; have NB355_360 := n18_; have NB360_355 := n19_; clear n0_ n1_ n2_ n3_ n4_ n5_ n6_ n7_ n8_ n9_ n10_ n11_ n12_ n13_ n14_ n15_ n16_ n17_ n18_ n19_; clear hb hbox hg; have hnb40 := NB360_350.out; have hnc40 := NB350_360.out; have hnb41 := NB360_351.out; have hnc41 := NB351_360.out; have hnb42 := NB360_352.out; have hnc42 := NB352_360.out; have hnb43 := NB360_354.out; have hnc43 := NB354_360.out; have hnb44 := NB360_355.out; have hnc44 := NB355_360.out; have hcz45_0 : w39.cell? ⟨gb360, 0, none⟩ = some (.int .i64 0) := (bkC BK360.out 0).trans rfl; have hcz45_1 : w39.cell? ⟨gb360, 1, none⟩ = some (.int .i64 0) := (bkC BK360.out 1).trans rfl; have hfz45_0 := bkF BK360.out 0; have hfz45_1 := bkF BK360.out 1))
       go_ret
       exact ⟨by first | rfl | (simp [errW_none, errW_some] <;> rfl) | (simp [*, errW_none, errW_some] <;> rfl), by repeat (first | (with_reducible first | exact HB.out | apply blA | apply blN | apply blD | refine blS ?_ GE350.out | refine blS ?_ GE351.out | refine blS ?_ GE352.out | refine blS ?_ GE354.out | refine blS ?_ GE355.out | refine blS ?_ GE360.out) | exact HB.out)⟩
      rw [if_neg c38] at H
      have c38b0 : decide (((rd_T28 y356 x31_1).f0) < 0) = false := decide_eq_false c38
      clear c38
      by_cases c46 : ((rd_T28 y356 x31_1).f0) > 10000
      ·rw [if_pos c46] at H
       have c46b0 : decide (10000 < ((rd_T28 y356 x31_1).f0)) = true := decide_eq_true c46
       clear c46
       obtain rfl := Option.some.inj H
       have p359 : 0 ≤ (x31_1 : Int) := of_decide_eq_true (by first | (with_reducible assumption) | assumption)
       have q359 : x31_1 < (y356.length : Int) := of_decide_eq_true (by first | (with_reducible assumption) | assumption)
       obtain ⟨ad359, e359, hx359_0, hx359_1⟩ := at_T28 (Kd.R_reads' HO_29.out).2.2 x31_1 p359 q359
       cases e359
       replace p359 := eq_true p359
       replace q359 := eq_true q359
       go_wp2_with (first | ((with_reducible refine gate_dst (N := 10) rfl ?_); refine box_event ?hg (N := 10) ?hd (cs := #[.int .i64 0, .int .i64 0]) (t := 28) ?hr ?_; (case hd => rfl); (case hg => rfl); (case hr => first | (go_simp; done) | (go_simp; rfl)); intro gb360 hg w47 hbox hb; have n0_ := Aside0.mk (Kd.R_below (Kd.R_elderB (by (with_reducible repeat (first | apply Kd.R_alloc | apply Kd.R_drewN | apply Kd.R_drew)); exact HO_29.out) gb360 (Nat.le_of_eq hg.symm)) hb); have n1_ := Aside0.mk (bkB (g := gb350) (o := .cells #[.int .i64 a0_0, .int .i64 a0_1, .int .i64 a0_2, .int .i64 a0_3] 51 (0, 0)) (by (with_reducible repeat (first | refine bkN ?_ _ | refine bkD ?_ | refine bkA ?_ _)); exact BK350.out) hb); have n2_ := Aside0.mk (bkB (g := gb351) (o := .cells #[.int .i64 a1_0, .int .i64 a1_1, .int .i64 a1_2, .int .i64 a1_3, .int .i64 a1_4] 47 (0, 0)) (by (with_reducible repeat (first | refine bkN ?_ _ | refine bkD ?_ | refine bkA ?_ _)); exact BK351.out) hb); have n3_ := Aside0.mk (bkB (g := gb352) (o := .cells #[.int .i64 a2_0, .int .i64 a2_1] 28 (0, 0)) (by (with_reducible repeat (first | refine bkN ?_ _ | refine bkD ?_ | refine bkA ?_ _)); exact BK352.out) hb); have n4_ := Aside0.mk (bkB (g := gb354) (o := .cells #[.int .i64 a0_0, .int .i64 a0_1] 28 (0, 0)) (by (with_reducible repeat (first | refine bkN ?_ _ | refine bkD ?_ | refine bkA ?_ _)); exact BK354.out) hb); have n5_ := Aside0.mk (bkB (g := gb355) (o := .cells #[.int .i64 a0_2, .int .i64 a0_3] 28 (0, 0)) (by (with_reducible repeat (first | refine bkN ?_ _ | refine bkD ?_ | refine bkA ?_ _)); exact BK355.out) hb); have n6_ := Aside0.mk (below_step (by repeat (first | (with_reducible first | exact HB.out | apply blA | apply blN | apply blD | refine blS ?_ GE350.out | refine blS ?_ GE351.out | refine blS ?_ GE352.out | refine blS ?_ GE354.out | refine blS ?_ GE355.out) | exact HB.out)) hb); have n7_ := Aside0.mk (hbox); have n8_ := Aside0.mk ((by rw [hg]; exact (below_size (by repeat (first | (with_reducible first | exact HB.out | apply blA | apply blN | apply blD | refine blS ?_ GE350.out | refine blS ?_ GE351.out | refine blS ?_ GE352.out | refine blS ?_ GE354.out | refine blS ?_ GE355.out) | exact HB.out))) : w.heap.size ≤ gb360)); have n9_ := Aside0.mk ((by rw [hg]; exact (below_size (by repeat (first | (with_reducible first | exact HB.out | apply blA | apply blN | apply blD | refine blS ?_ GE350.out | refine blS ?_ GE351.out | refine blS ?_ GE352.out | refine blS ?_ GE354.out | refine blS ?_ GE355.out) | exact HB.out))) : w.heap.size ≤ gb360)); have n10_ := Aside0.mk ((by rw [hg]; exact Nat.ne_of_lt (blk_lt (g := gb350) (o := .cells #[.int .i64 a0_0, .int .i64 a0_1, .int .i64 a0_2, .int .i64 a0_3] 51 (0, 0)) (by (with_reducible repeat (first | refine bkN ?_ _ | refine bkD ?_ | refine bkA ?_ _)); exact BK350.out)) : gb350 ≠ gb360)); have n11_ := Aside0.mk ((by rw [hg]; exact Nat.ne_of_gt (blk_lt (g := gb350) (o := .cells #[.int .i64 a0_0, .int .i64 a0_1, .int .i64 a0_2, .int .i64 a0_3] 51 (0, 0)) (by (with_reducible repeat (first | refine bkN ?_ _ | refine bkD ?_ | refine bkA ?_ _)); exact BK350.out)) : gb360 ≠ gb350)); have n12_ := Aside0.mk ((by rw [hg]; exact Nat.ne_of_lt (blk_lt (g := gb351) (o := .cells #[.int .i64 a1_0, .int .i64 a1_1, .int .i64 a1_2, .int .i64 a1_3, .int .i64 a1_4] 47 (0, 0)) (by (with_reducible repeat (first | refine bkN ?_ _ | refine bkD ?_ | refine bkA ?_ _)); exact BK351.out)) : gb351 ≠ gb360)); have n13_ := Aside0.mk ((by rw [hg]; exact Nat.ne_of_gt (blk_lt (g := gb351) (o := .cells #[.int .i64 a1_0, .int .i64 a1_1, .int .i64 a1_2, .int .i64 a1_3, .int .i64 a1_4] 47 (0, 0)) (by (with_reducible repeat (first | refine bkN ?_ _ | refine bkD ?_ | refine bkA ?_ _)); exact BK351.out)) : gb360 ≠ gb351)); have n14_ := Aside0.mk ((by rw [hg]; exact Nat.ne_of_lt (blk_lt (g := gb352) (o := .cells #[.int .i64 a2_0, .int .i64 a2_1] 28 (0, 0)) (by (with_reducible repeat (first | refine bkN ?_ _ | refine bkD ?_ | refine bkA ?_ _)); exact BK352.out)) : gb352 ≠ gb360)); have n15_ := Aside0.mk ((by rw [hg]; exact Nat.ne_of_gt (blk_lt (g := gb352) (o := .cells #[.int .i64 a2_0, .int .i64 a2_1] 28 (0, 0)) (by (with_reducible repeat (first | refine bkN ?_ _ | refine bkD ?_ | refine bkA ?_ _)); exact BK352.out)) : gb360 ≠ gb352)); have n16_ := Aside0.mk ((by rw [hg]; exact Nat.ne_of_lt (blk_lt (g := gb354) (o := .cells #[.int .i64 a0_0, .int .i64 a0_1] 28 (0, 0)) (by (with_reducible repeat (first | refine bkN ?_ _ | refine bkD ?_ | refine bkA ?_ _)); exact BK354.out)) : gb354 ≠ gb360)); have n17_ := Aside0.mk ((by rw [hg]; exact Nat.ne_of_gt (blk_lt (g := gb354) (o := .cells #[.int .i64 a0_0, .int .i64 a0_1] 28 (0, 0)) (by (with_reducible repeat (first | refine bkN ?_ _ | refine bkD ?_ | refine bkA ?_ _)); exact BK354.out)) : gb360 ≠ gb354)); have n18_ := Aside0.mk ((by rw [hg]; exact Nat.ne_of_lt (blk_lt (g := gb355) (o := .cells #[.int .i64 a0_2, .int .i64 a0_3] 28 (0, 0)) (by (with_reducible repeat (first | refine bkN ?_ _ | refine bkD ?_ | refine bkA ?_ _)); exact BK355.out)) : gb355 ≠ gb360)); have n19_ := Aside0.mk ((by rw [hg]; exact Nat.ne_of_gt (blk_lt (g := gb355) (o := .cells #[.int .i64 a0_2, .int .i64 a0_3] 28 (0, 0)) (by (with_reducible repeat (first | refine bkN ?_ _ | refine bkD ?_ | refine bkA ?_ _)); exact BK355.out)) : gb360 ≠ gb355)); clear HO_29; clear BK350; clear BK351; clear BK352; clear BK354; clear BK355; clear HB; have HO_29 := n0_; have BK350 := n1_; have BK351 := n2_; have BK352 := n3_; have BK354 := n4_; have BK355 := n5_; have HB := n6_; have BK360 := n7_; have GW360 := n8_; have GE360 := n9_; have NB350_360 := n10_; have NB360_350 := n11_; have NB351_360 := n12_; have NB360_351 := n13_; have NB352_360 := n14_; have NB360_352 := n15_; have NB354_360 := n16_; have NB360_354 := n17_; have NB355_360 := n18_; have NB360_355 := n19_; clear n0_ n1_ n2_ n3_ n4_ n5_ n6_ n7_ n8_ n9_ n10_ n11_ n12_ n13_ n14_ n15_ n16_ n17_ n18_ n19_; clear hb hbox hg; have hnb48 := NB360_350.out; have hnc48 := NB350_360.out; have hnb49 := NB360_351.out; have hnc49 := NB351_360.out; have hnb50 := NB360_352.out; have hnc50 := NB352_360.out; have hnb51 := NB360_354.out; have hnc51 := NB354_360.out; have hnb52 := NB360_355.out; have hnc52 := NB355_360.out; have hcz53_0 : w47.cell? ⟨gb360, 0, none⟩ = some (.int .i64 0) := (bkC BK360.out 0).trans rfl; have hcz53_1 : w47.cell? ⟨gb360, 1, none⟩ = some (.int .i64 0) := (bkC BK360.out 1).trans rfl; have hfz53_0 := bkF BK360.out 0; have hfz53_1 := bkF BK360.out 1))
       go_ret
       exact ⟨by first | rfl | (simp [errW_none, errW_some] <;> rfl) | (simp [*, errW_none, errW_some] <;> rfl), by repeat (first | (with_reducible first | exact HB.out | apply blA | apply blN | apply blD | refine blS ?_ GE350.out | refine blS ?_ GE351.out | refine blS ?_ GE352.out | refine blS ?_ GE354.out | refine blS ?_ GE355.out | refine blS ?_ GE360.out) | exact HB.out)⟩
      rw [if_neg c46] at H
      have c46b0 : decide (10000 < ((rd_T28 y356 x31_1).f0)) = false := decide_eq_false c46
      clear c46
      by_cases c54 : ((rd_T28 y356 x31_1).f1) < 0
      ·rw [if_pos c54] at H
       have c54b0 : decide (((rd_T28 y356 x31_1).f1) < 0) = true := decide_eq_true c54
       clear c54
       obtain rfl := Option.some.inj H
       have p359 : 0 ≤ (x31_1 : Int) := of_decide_eq_true (by first | (with_reducible assumption) | assumption)
       have q359 : x31_1 < (y356.length : Int) := of_decide_eq_true (by first | (with_reducible assumption) | assumption)
       obtain ⟨ad359, e359, hx359_0, hx359_1⟩ := at_T28 (Kd.R_reads' HO_29.out).2.2 x31_1 p359 q359
       cases e359
       replace p359 := eq_true p359
       replace q359 := eq_true q359
       go_wp2_with (first | ((with_reducible refine gate_dst (N := 10) rfl ?_); refine box_event ?hg (N := 10) ?hd (cs := #[.int .i64 0, .int .i64 0]) (t := 28) ?hr ?_; (case hd => rfl); (case hg => rfl); (case hr => first | (go_simp; done) | (go_simp; rfl)); intro gb360 hg w55 hbox hb; have n0_ := Aside0.mk (Kd.R_below (Kd.R_elderB (by (with_reducible repeat (first | apply Kd.R_alloc | apply Kd.R_drewN | apply Kd.R_drew)); exact HO_29.out) gb360 (Nat.le_of_eq hg.symm)) hb); have n1_ := Aside0.mk (bkB (g := gb350) (o := .cells #[.int .i64 a0_0, .int .i64 a0_1, .int .i64 a0_2, .int .i64 a0_3] 51 (0, 0)) (by (with_reducible repeat (first | refine bkN ?_ _ | refine bkD ?_ | refine bkA ?_ _)); exact BK350.out) hb); have n2_ := Aside0.mk (bkB (g := gb351) (o := .cells #[.int .i64 a1_0, .int .i64 a1_1, .int .i64 a1_2, .int .i64 a1_3, .int .i64 a1_4] 47 (0, 0)) (by (with_reducible repeat (first | refine bkN ?_ _ | refine bkD ?_ | refine bkA ?_ _)); exact BK351.out) hb); have n3_ := Aside0.mk (bkB (g := gb352) (o := .cells #[.int .i64 a2_0, .int .i64 a2_1] 28 (0, 0)) (by (with_reducible repeat (first | refine bkN ?_ _ | refine bkD ?_ | refine bkA ?_ _)); exact BK352.out) hb); have n4_ := Aside0.mk (bkB (g := gb354) (o := .cells #[.int .i64 a0_0, .int .i64 a0_1] 28 (0, 0)) (by (with_reducible repeat (first | refine bkN ?_ _ | refine bkD ?_ | refine bkA ?_ _)); exact BK354.out) hb); have n5_ := Aside0.mk (bkB (g := gb355) (o := .cells #[.int .i64 a0_2, .int .i64 a0_3] 28 (0, 0)) (by (with_reducible repeat (first | refine bkN ?_ _ | refine bkD ?_ | refine bkA ?_ _)); exact BK355.out) hb); have n6_ := Aside0.mk (below_step (by repeat (first | (with_reducible first | exact HB.out | apply blA | apply blN | apply blD | refine blS ?_ GE350.out | refine blS ?_ GE351.out | refine blS ?_ GE352.out | refine blS ?_ GE354.out | refine blS ?_ GE355.out) | exact HB.out)) hb); have n7_ := Aside0.mk (hbox); have n8_ := Aside0.mk ((by rw [hg]; exact (below_size (by repeat (first | (with_reducible first | exact HB.out | apply blA | apply blN | apply blD | refine blS ?_ GE350.out | refine blS ?_ GE351.out | refine blS ?_ GE352.out | refine blS ?_ GE354.out | refine blS ?_ GE355.out) | exact HB.out))) : w.heap.size ≤ gb360)); have n9_ := Aside0.mk ((by rw [hg]; exact (below_size (by repeat (first | (with_reducible first | exact HB.out | apply blA | apply blN | apply blD | refine blS ?_ GE350.out | refine blS ?_ GE351.out | refine blS ?_ GE352.out | refine blS ?_ GE354.out | refine blS ?_ GE355.out) | exact HB.out))) : w.heap.size ≤ gb360)); have n10_ := Aside0.mk ((by rw [hg]; exact Nat.ne_of_lt (blk_lt (g := gb350) (o := .cells #[.int .i64 a0_0, .int .i64 a0_1, .int .i64 a0_2, .int .i64 a0_3] 51 (0, 0)) (by (with_reducible repeat (first | refine bkN ?_ _ | refine bkD ?_ | refine bkA ?_ _)); exact BK350.out)) : gb350 ≠ gb360)); have n11_ := Aside0.mk ((by rw [hg]; exact Nat.ne_of_gt (blk_lt (g := gb350) (o := .cells #[.int .i64 a0_0, .int .i64 a0_1, .int .i64 a0_2, .int .i64 a0_3] 51 (0, 0)) (by (with_reducible repeat (first | refine bkN ?_ _ | refine bkD ?_ | refine bkA ?_ _)); exact BK350.out)) : gb360 ≠ gb350)); have n12_ := Aside0.mk ((by rw [hg]; exact Nat.ne_of_lt (blk_lt (g := gb351) (o := .cells #[.int .i64 a1_0, .int .i64 a1_1, .int .i64 a1_2, .int .i64 a1_3, .int .i64 a1_4] 47 (0, 0)) (by (with_reducible repeat (first | refine bkN ?_ _ | refine bkD ?_ | refine bkA ?_ _)); exact BK351.out)) : gb351 ≠ gb360)); have n13_ := Aside0.mk ((by rw [hg]; exact Nat.ne_of_gt (blk_lt (g := gb351) (o := .cells #[.int .i64 a1_0, .int .i64 a1_1, .int .i64 a1_2, .int .i64 a1_3, .int .i64 a1_4] 47 (0, 0)) (by (with_reducible repeat (first | refine bkN ?_ _ | refine bkD ?_ | refine bkA ?_ _)); exact BK351.out)) : gb360 ≠ gb351)); have n14_ := Aside0.mk ((by rw [hg]; exact Nat.ne_of_lt (blk_lt (g := gb352) (o := .cells #[.int .i64 a2_0, .int .i64 a2_1] 28 (0, 0)) (by (with_reducible repeat (first | refine bkN ?_ _ | refine bkD ?_ | refine bkA ?_ _)); exact BK352.out)) : gb352 ≠ gb360)); have n15_ := Aside0.mk ((by rw [hg]; exact Nat.ne_of_gt (blk_lt (g := gb352) (o := .cells #[.int .i64 a2_0, .int .i64 a2_1] 28 (0, 0)) (by (with_reducible repeat (first | refine bkN ?_ _ | refine bkD ?_ | refine bkA ?_ _)); exact BK352.out)) : gb360 ≠ gb352)); have n16_ := Aside0.mk ((by rw [hg]; exact Nat.ne_of_lt (blk_lt (g := gb354) (o := .cells #[.int .i64 a0_0, .int .i64 a0_1] 28 (0, 0)) (by (with_reducible repeat (first | refine bkN ?_ _ | refine bkD ?_ | refine bkA ?_ _)); exact BK354.out)) : gb354 ≠ gb360)); have n17_ := Aside0.mk ((by rw [hg]; exact Nat.ne_of_gt (blk_lt (g := gb354) (o := .cells #[.int .i64 a0_0, .int .i64 a0_1] 28 (0, 0)) (by (with_reducible repeat (first | refine bkN ?_ _ | refine bkD ?_ | refine bkA ?_ _)); exact BK354.out)) : gb360 ≠ gb354)); have n18_ := Aside0.mk ((by rw [hg]; exact Nat.ne_of_lt (blk_lt (g := gb355) (o := .cells #[.int .i64 a0_2, .int .i64 a0_3] 28 (0, 0)) (by (with_reducible repeat (first | refine bkN ?_ _ | refine bkD ?_ | refine bkA ?_ _)); exact BK355.out)) : gb355 ≠ gb360)); have n19_ := Aside0.mk ((by rw [hg]; exact Nat.ne_of_gt (blk_lt (g := gb355) (o := .cells #[.int .i64 a0_2, .int .i64 a0_3] 28 (0, 0)) (by (with_reducible repeat (first | refine bkN ?_ _ | refine bkD ?_ | refine bkA ?_ _)); exact BK355.out)) : gb360 ≠ gb355)); clear HO_29; clear BK350; clear BK351; clear BK352; clear BK354; clear BK355; clear HB; have HO_29 := n0_; have BK350 := n1_; have BK351 := n2_; have BK352 := n3_; have BK354 := n4_; have BK355 := n5_; have HB := n6_; have BK360 := n7_; have GW360 := n8_; have GE360 := n9_; have NB350_360 := n10_; have NB360_350 := n11_; have NB351_360 := n12_; have NB360_351 := n13_; have NB352_360 := n14_; have NB360_352 := n15_; have NB354_360 := n16_; have NB360_354 := n17_; have NB355_360 := n18_; have NB360_355 := n19_; clear n0_ n1_ n2_ n3_ n4_ n5_ n6_ n7_ n8_ n9_ n10_ n11_ n12_ n13_ n14_ n15_ n16_ n17_ n18_ n19_; clear hb hbox hg; have hnb56 := NB360_350.out; have hnc56 := NB350_360.out; have hnb57 := NB360_351.out; have hnc57 := NB351_360.out; have hnb58 := NB360_352.out; have hnc58 := NB352_360.out; have hnb59 := NB360_354.out; have hnc59 := NB354_360.out; have hnb60 := NB360_355.out; have hnc60 := NB355_360.out; have hcz61_0 : w55.cell? ⟨gb360, 0, none⟩ = some (.int .i64 0) := (bkC BK360.out 0).trans rfl; have hcz61_1 : w55.cell? ⟨gb360, 1, none⟩ = some (.int .i64 0) := (bkC BK360.out 1).trans rfl; have hfz61_0 := bkF BK360.out 0; have hfz61_1 := bkF BK360.out 1))
       go_ret
       exact ⟨by first | rfl | (simp [errW_none, errW_some] <;> rfl) | (simp [*, errW_none, errW_some] <;> rfl), by repeat (first | (with_reducible first | exact HB.out | apply blA | apply blN | apply blD | refine blS ?_ GE350.out | refine blS ?_ GE351.out | refine blS ?_ GE352.out | refine blS ?_ GE354.out | refine blS ?_ GE355.out | refine blS ?_ GE360.out) | exact HB.out)⟩
      as_aux_lemma =>
       rw [if_neg c54] at H
       have c54b0 : decide (((rd_T28 y356 x31_1).f1) < 0) = false := decide_eq_false c54
       clear c54
       by_cases c62 : ((rd_T28 y356 x31_1).f1) > 10000
       ·rw [if_pos c62] at H
        have c62b0 : decide (10000 < ((rd_T28 y356 x31_1).f1)) = true := decide_eq_true c62
        clear c62
        obtain rfl := Option.some.inj H
        have p359 : 0 ≤ (x31_1 : Int) := of_decide_eq_true (by first | (with_reducible assumption) | assumption)
        have q359 : x31_1 < (y356.length : Int) := of_decide_eq_true (by first | (with_reducible assumption) | assumption)
        obtain ⟨ad359, e359, hx359_0, hx359_1⟩ := at_T28 (Kd.R_reads' HO_29.out).2.2 x31_1 p359 q359
        cases e359
        replace p359 := eq_true p359
        replace q359 := eq_true q359
        go_wp2_with (first | ((with_reducible refine gate_dst (N := 10) rfl ?_); refine box_event ?hg (N := 10) ?hd (cs := #[.int .i64 0, .int .i64 0]) (t := 28) ?hr ?_; (case hd => rfl); (case hg => rfl); (case hr => first | (go_simp; done) | (go_simp; rfl)); intro gb360 hg w63 hbox hb; have n0_ := Aside0.mk (Kd.R_below (Kd.R_elderB (by (with_reducible repeat (first | apply Kd.R_alloc | apply Kd.R_drewN | apply Kd.R_drew)); exact HO_29.out) gb360 (Nat.le_of_eq hg.symm)) hb); have n1_ := Aside0.mk (bkB (g := gb350) (o := .cells #[.int .i64 a0_0, .int .i64 a0_1, .int .i64 a0_2, .int .i64 a0_3] 51 (0, 0)) (by (with_reducible repeat (first | refine bkN ?_ _ | refine bkD ?_ | refine bkA ?_ _)); exact BK350.out) hb); have n2_ := Aside0.mk (bkB (g := gb351) (o := .cells #[.int .i64 a1_0, .int .i64 a1_1, .int .i64 a1_2, .int .i64 a1_3, .int .i64 a1_4] 47 (0, 0)) (by (with_reducible repeat (first | refine bkN ?_ _ | refine bkD ?_ | refine bkA ?_ _)); exact BK351.out) hb); have n3_ := Aside0.mk (bkB (g := gb352) (o := .cells #[.int .i64 a2_0, .int .i64 a2_1] 28 (0, 0)) (by (with_reducible repeat (first | refine bkN ?_ _ | refine bkD ?_ | refine bkA ?_ _)); exact BK352.out) hb); have n4_ := Aside0.mk (bkB (g := gb354) (o := .cells #[.int .i64 a0_0, .int .i64 a0_1] 28 (0, 0)) (by (with_reducible repeat (first | refine bkN ?_ _ | refine bkD ?_ | refine bkA ?_ _)); exact BK354.out) hb); have n5_ := Aside0.mk (bkB (g := gb355) (o := .cells #[.int .i64 a0_2, .int .i64 a0_3] 28 (0, 0)) (by (with_reducible repeat (first | refine bkN ?_ _ | refine bkD ?_ | refine bkA ?_ _)); exact BK355.out) hb); have n6_ := Aside0.mk (below_step (by repeat (first | (with_reducible first | exact HB.out | apply blA | apply blN | apply blD | refine blS ?_ GE350.out | refine blS ?_ GE351.out | refine blS ?_ GE352.out | refine blS ?_ GE354.out | refine blS ?_ GE355.out) | exact HB.out)) hb); have n7_ := Aside0.mk (hbox); have n8_ := Aside0.mk ((by rw [hg]; exact (below_size (by repeat (first | (with_reducible first | exact HB.out | apply blA | apply blN | apply blD | refine blS ?_ GE350.out | refine blS ?_ GE351.out | refine blS ?_ GE352.out | refine blS ?_ GE354.out | refine blS ?_ GE355.out) | exact HB.out))) : w.heap.size ≤ gb360)); have n9_ := Aside0.mk ((by rw [hg]; exact (below_size (by repeat (first | (with_reducible first | exact HB.out | apply blA | apply blN | apply blD | refine blS ?_ GE350.out | refine blS ?_ GE351.out | refine blS ?_ GE352.out | refine blS ?_ GE354.out | refine blS ?_ GE355.out) | exact HB.out))) : w.heap.size ≤ gb360)); have n10_ := Aside0.mk ((by rw [hg]; exact Nat.ne_of_lt (blk_lt (g := gb350) (o := .cells #[.int .i64 a0_0, .int .i64 a0_1, .int .i64 a0_2, .int .i64 a0_3] 51 (0, 0)) (by (with_reducible repeat (first | refine bkN ?_ _ | refine bkD ?_ | refine bkA ?_ _)); exact BK350.out)) : gb350 ≠ gb360)); have n11_ := Aside0.mk ((by rw [hg]; exact Nat.ne_of_gt (blk_lt (g := gb350) (o := .cells #[.int .i64 a0_0, .int .i64 a0_1, .int .i64 a0_2, .int .i64 a0_3] 51 (0, 0)) (by (with_reducible repeat (first | refine bkN ?_ _ | refine bkD ?_ | refine bkA ?_ _)); exact BK350.out)) : gb360 ≠ gb350)); have n12_ := Aside0.mk ((by rw [hg]; exact Nat.ne_of_lt (blk_lt (g := gb351) (o := .cells #[.int .i64 a1_0, .int .i64 a1_1, .int .i64 a1_2, .int .i64 a1_3, .int .i64 a1_4] 47 (0, 0)) (by (with_reducible repeat (first | refine bkN ?_ _ | refine bkD ?_ | refine bkA ?_ _)); exact BK351.out)) : gb351 ≠ gb360)); have n13_ := Aside0.mk ((by rw [hg]; exact Nat.ne_of_gt (blk_lt (g := gb351) (o := .cells #[.int .i64 a1_0, .int .i64 a1_1, .int .i64 a1_2, .int .i64 a1_3, .int .i64 a1_4] 47 (0, 0)) (by (with_reducible repeat (first | refine bkN ?_ _ | refine bkD ?_ | refine bkA ?_ _)); exact BK351.out)) : gb360 ≠ gb351)); have n14_ := Aside0.mk ((by rw [hg]; exact Nat.ne_of_lt (blk_lt (g := gb352) (o := .cells #[.int .i64 a2_0, .int .i64 a2_1] 28 (0, 0)) (by (with_reducible repeat (first | refine bkN ?_ _ | refine bkD ?_ | refine bkA ?_ _)); exact BK352.out)) : gb352 ≠ gb360)); have n15_ := Aside0.mk ((by rw [hg]; exact Nat.ne_of_gt (blk_lt (g := gb352) (o := .cells #[.int .i64 a2_0, .int .i64 a2_1] 28 (0, 0)) (by (with_reducible repeat (first | refine bkN ?_ _ | refine bkD ?_ | refine bkA ?_ _)); exact BK352.out)) : gb360 ≠ gb352)); have n16_ := Aside0.mk ((by rw [hg]; exact Nat.ne_of_lt (blk_lt (g := gb354) (o := .cells #[.int .i64 a0_0, .int .i64 a0_1] 28 (0, 0)) (by (with_reducible repeat (first | refine bkN ?_ _ | refine bkD ?_ | refine bkA ?_ _)); exact BK354.out)) : gb354 ≠ gb360)); have n17_ := Aside0.mk ((by rw [hg]; exact Nat.ne_of_gt (blk_lt (g := gb354) (o := .cells #[.int .i64 a0_0, .int .i64 a0_1] 28 (0, 0)) (by (with_reducible repeat (first | refine bkN ?_ _ | refine bkD ?_ | refine bkA ?_ _)); exact BK354.out)) : gb360 ≠ gb354)); have n18_ := Aside0.mk ((by rw [hg]; exact Nat.ne_of_lt (blk_lt (g := gb355) (o := .cells #[.int .i64 a0_2, .int .i64 a0_3] 28 (0, 0)) (by (with_reducible repeat (first | refine bkN ?_ _ | refine bkD ?_ | refine bkA ?_ _)); exact BK355.out)) : gb355 ≠ gb360)); have n19_ := Aside0.mk ((by rw [hg]; exact Nat.ne_of_gt (blk_lt (g := gb355) (o := .cells #[.int .i64 a0_2, .int .i64 a0_3] 28 (0, 0)) (by (with_reducible repeat (first | refine bkN ?_ _ | refine bkD ?_ | refine bkA ?_ _)); exact BK355.out)) : gb360 ≠ gb355)); clear HO_29; clear BK350; clear BK351; clear BK352; clear BK354; clear BK355; clear HB; have HO_29 := n0_; have BK350 := n1_; have BK351 := n2_; have BK352 := n3_; have BK354 := n4_; have BK355 := n5_; have HB := n6_; have BK360 := n7_; have GW360 := n8_; have GE360 := n9_; have NB350_360 := n10_; have NB360_350 := n11_; have NB351_360 := n12_; have NB360_351 := n13_; have NB352_360 := n14_; have NB360_352 := n15_; have NB354_360 := n16_; have NB360_354 := n17_; have NB355_360 := n18_; have NB360_355 := n19_; clear n0_ n1_ n2_ n3_ n4_ n5_ n6_ n7_ n8_ n9_ n10_ n11_ n12_ n13_ n14_ n15_ n16_ n17_ n18_ n19_; clear hb hbox hg; have hnb64 := NB360_350.out; have hnc64 := NB350_360.out; have hnb65 := NB360_351.out; have hnc65 := NB351_360.out; have hnb66 := NB360_352.out; have hnc66 := NB352_360.out; have hnb67 := NB360_354.out; have hnc67 := NB354_360.out; have hnb68 := NB360_355.out; have hnc68 := NB355_360.out; have hcz69_0 : w63.cell? ⟨gb360, 0, none⟩ = some (.int .i64 0) := (bkC BK360.out 0).trans rfl; have hcz69_1 : w63.cell? ⟨gb360, 1, none⟩ = some (.int .i64 0) := (bkC BK360.out 1).trans rfl; have hfz69_0 := bkF BK360.out 0; have hfz69_1 := bkF BK360.out 1))
        go_ret
        exact ⟨by first | rfl | (simp [errW_none, errW_some] <;> rfl) | (simp [*, errW_none, errW_some] <;> rfl), by repeat (first | (with_reducible first | exact HB.out | apply blA | apply blN | apply blD | refine blS ?_ GE350.out | refine blS ?_ GE351.out | refine blS ?_ GE352.out | refine blS ?_ GE354.out | refine blS ?_ GE355.out | refine blS ?_ GE360.out) | exact HB.out)⟩
       rw [if_neg c62] at H
       have c62b0 : decide (10000 < ((rd_T28 y356 x31_1).f1)) = false := decide_eq_false c62
       clear c62
       have H' := Aside0.mk H
       clear H
       have p359 : 0 ≤ (x31_1 : Int) := of_decide_eq_true (by first | (with_reducible assumption) | assumption)
       have q359 : x31_1 < (y356.length : Int) := of_decide_eq_true (by first | (with_reducible assumption) | assumption)
       obtain ⟨ad359, e359, hx359_0, hx359_1⟩ := at_T28 (Kd.R_reads' HO_29.out).2.2 x31_1 p359 q359
       cases e359
       replace p359 := eq_true p359
       replace q359 := eq_true q359
       go_wp2_with (first | ((with_reducible refine gate_dst (N := 10) rfl ?_); refine box_event ?hg (N := 10) ?hd (cs := #[.int .i64 0, .int .i64 0]) (t := 28) ?hr ?_; (case hd => rfl); (case hg => rfl); (case hr => first | (go_simp; done) | (go_simp; rfl)); intro gb360 hg w70 hbox hb; have n0_ := Aside0.mk (Kd.R_below (Kd.R_elderB (by (with_reducible repeat (first | apply Kd.R_alloc | apply Kd.R_drewN | apply Kd.R_drew)); exact HO_29.out) gb360 (Nat.le_of_eq hg.symm)) hb); have n1_ := Aside0.mk (bkB (g := gb350) (o := .cells #[.int .i64 a0_0, .int .i64 a0_1, .int .i64 a0_2, .int .i64 a0_3] 51 (0, 0)) (by (with_reducible repeat (first | refine bkN ?_ _ | refine bkD ?_ | refine bkA ?_ _)); exact BK350.out) hb); have n2_ := Aside0.mk (bkB (g := gb351) (o := .cells #[.int .i64 a1_0, .int .i64 a1_1, .int .i64 a1_2, .int .i64 a1_3, .int .i64 a1_4] 47 (0, 0)) (by (with_reducible repeat (first | refine bkN ?_ _ | refine bkD ?_ | refine bkA ?_ _)); exact BK351.out) hb); have n3_ := Aside0.mk (bkB (g := gb352) (o := .cells #[.int .i64 a2_0, .int .i64 a2_1] 28 (0, 0)) (by (with_reducible repeat (first | refine bkN ?_ _ | refine bkD ?_ | refine bkA ?_ _)); exact BK352.out) hb); have n4_ := Aside0.mk (bkB (g := gb354) (o := .cells #[.int .i64 a0_0, .int .i64 a0_1] 28 (0, 0)) (by (with_reducible repeat (first | refine bkN ?_ _ | refine bkD ?_ | refine bkA ?_ _)); exact BK354.out) hb); have n5_ := Aside0.mk (bkB (g := gb355) (o := .cells #[.int .i64 a0_2, .int .i64 a0_3] 28 (0, 0)) (by (with_reducible repeat (first | refine bkN ?_ _ | refine bkD ?_ | refine bkA ?_ _)); exact BK355.out) hb); have n6_ := Aside0.mk (below_step (by repeat (first | (with_reducible first | exact HB.out | apply blA | apply blN | apply blD | refine blS ?_ GE350.out | refine blS ?_ GE351.out | refine blS ?_ GE352.out | refine blS ?_ GE354.out | refine blS ?_ GE355.out) | exact HB.out)) hb); have n7_ := Aside0.mk (hbox); have n8_ := Aside0.mk ((by rw [hg]; exact (below_size (by repeat (first | (with_reducible first | exact HB.out | apply blA | apply blN | apply blD | refine blS ?_ GE350.out | refine blS ?_ GE351.out | refine blS ?_ GE352.out | refine blS ?_ GE354.out | refine blS ?_ GE355.out) | exact HB.out))) : w.heap.size ≤ gb360)); have n9_ := Aside0.mk ((by rw [hg]; exact (below_size (by repeat (first | (with_reducible first | exact HB.out | apply blA | apply blN | apply blD | refine blS ?_ GE350.out | refine blS ?_ GE351.out | refine blS ?_ GE352.out | refine blS ?_ GE354.out | refine blS ?_ GE355.out) | exact HB.out))) : w.heap.size ≤ gb360)); have n10_ := Aside0.mk ((by rw [hg]; exact Nat.ne_of_lt (blk_lt (g := gb350) (o := .cells #[.int .i64 a0_0, .int .i64 a0_1, .int .i64 a0_2, .int .i64 a0_3] 51 (0, 0)) (by (with_reducible repeat (first | refine bkN ?_ _ | refine bkD ?_ | refine bkA ?_ _)); exact BK350.out)) : gb350 ≠ gb360)); have n11_ := Aside0.mk ((by rw [hg]; exact Nat.ne_of_gt (blk_lt (g := gb350) (o := .cells #[.int .i64 a0_0, .int .i64 a0_1, .int .i64 a0_2, .int .i64 a0_3] 51 (0, 0)) (by (with_reducible repeat (first | refine bkN ?_ _ | refine bkD ?_ | refine bkA ?_ _)); exact BK350.out)) : gb360 ≠ gb350)); have n12_ := Aside0.mk ((by rw [hg]; exact Nat.ne_of_lt (blk_lt (g := gb351) (o := .cells #[.int .i64 a1_0, .int .i64 a1_1, .int .i64 a1_2, .int .i64 a1_3, .int .i64 a1_4] 47 (0, 0)) (by (with_reducible repeat (first | refine bkN ?_ _ | refine bkD ?_ | refine bkA ?_ _)); exact BK351.out)) : gb351 ≠ gb360)); have n13_ := Aside0.mk ((by rw [hg]; exact Nat.ne_of_gt (blk_lt (g := gb351) (o := .cells #[.int .i64 a1_0, .int .i64 a1_1, .int .i64 a1_2, .int .i64 a1_3, .int .i64 a1_4] 47 (0, 0)) (by (with_reducible repeat (first | refine bkN ?_ _ | refine bkD ?_ | refine bkA ?_ _)); exact BK351.out)) : gb360 ≠ gb351)); have n14_ := Aside0.mk ((by rw [hg]; exact Nat.ne_of_lt (blk_lt (g := gb352) (o := .cells #[.int .i64 a2_0, .int .i64 a2_1] 28 (0, 0)) (by (with_reducible repeat (first | refine bkN ?_ _ | refine bkD ?_ | refine bkA ?_ _)); exact BK352.out)) : gb352 ≠ gb360)); have n15_ := Aside0.mk ((by rw [hg]; exact Nat.ne_of_gt (blk_lt (g := gb352) (o := .cells #[.int .i64 a2_0, .int .i64 a2_1] 28 (0, 0)) (by (with_reducible repeat (first | refine bkN ?_ _ | refine bkD ?_ | refine bkA ?_ _)); exact BK352.out)) : gb360 ≠ gb352)); have n16_ := Aside0.mk ((by rw [hg]; exact Nat.ne_of_lt (blk_lt (g := gb354) (o := .cells #[.int .i64 a0_0, .int .i64 a0_1] 28 (0, 0)) (by (with_reducible repeat (first | refine bkN ?_ _ | refine bkD ?_ | refine bkA ?_ _)); exact BK354.out)) : gb354 ≠ gb360)); have n17_ := Aside0.mk ((by rw [hg]; exact Nat.ne_of_gt (blk_lt (g := gb354) (o := .cells #[.int .i64 a0_0, .int .i64 a0_1] 28 (0, 0)) (by (with_reducible repeat (first | refine bkN ?_ _ | refine bkD ?_ | refine bkA ?_ _)); exact BK354.out)) : gb360 ≠ gb354)); have n18_ := Aside0.mk ((by rw [hg]; exact Nat.ne_of_lt (blk_lt (g := gb355) (o := .cells #[.int .i64 a0_2, .int .i64 a0_3] 28 (0, 0)) (by (with_reducible repeat (first | refine bkN ?_ _ | refine bkD ?_ | refine bkA ?_ _)); exact BK355.out)) : gb355 ≠ gb360)); have n19_ := Aside0.mk ((by rw [hg]; exact Nat.ne_of_gt (blk_lt (g := gb355) (o := .cells #[.int .i64 a0_2, .int .i64 a0_3] 28 (0, 0)) (by (with_reducible repeat (first | refine bkN ?_ _ | refine bkD ?_ | refine bkA ?_ _)); exact BK355.out)) : gb360 ≠ gb355)); clear HO_29; clear BK350; clear BK351; clear BK352; clear BK354; clear BK355; clear HB; have HO_29 := n0_; have BK350 := n1_; have BK351 := n2_; have BK352 := n3_; have BK354 := n4_; have BK355 := n5_; have HB := n6_; have BK360 := n7_; have GW360 := n8_; have GE360 := n9_; have NB350_360 := n10_; have NB360_350 := n11_; have NB351_360 := n12_; have NB360_351 := n13_; have NB352_360 := n14_; have NB360_352 := n15_; have NB354_360 := n16_; have NB360_354 := n17_; have NB355_360 := n18_; have NB360_355 := n19_; clear n0_ n1_ n2_ n3_ n4_ n5_ n6_ n7_ n8_ n9_ n10_ n11_ n12_ n13_ n14_ n15_ n16_ n17_ n18_ n19_; clear hb hbox hg; have hnb71 := NB360_350.out; have hnc71 := NB350_360.out; have hnb72 := NB360_351.out; have hnc72 := NB351_360.out; have hnb73 := NB360_352.out; have hnc73 := NB352_360.out; have hnb74 := NB360_354.out; have hnc74 := NB354_360.out; have hnb75 := NB360_355.out; have hnc75 := NB355_360.out; have hcz76_0 : w70.cell? ⟨gb360, 0, none⟩ = some (.int .i64 0) := (bkC BK360.out 0).trans rfl; have hcz76_1 : w70.cell? ⟨gb360, 1, none⟩ = some (.int .i64 0) := (bkC BK360.out 1).trans rfl; have hfz76_0 := bkF BK360.out 0; have hfz76_1 := bkF BK360.out 1))
       go_roundg k1
       case measure => have := HK1.out; omega
       case rel => exact ⟨(wrap64 (x31_1 + 1)), (by first | rfl | (simp; done) | (simp [*]; done)), H', ⟨by have := HK1.out; omega⟩, ⟨by (with_reducible repeat (first | apply Kd.R_alloc | apply Kd.R_drewN | apply Kd.R_drew)); exact Kd.R_mono (Kd.R_far (p := ⟨gb360, 1, none⟩) (Kd.R_far (p := ⟨gb360, 0, none⟩) (Kd.R_mono HO_29.out (fun k_ hk => (⟨hk, hk.2⟩ : _ ∧ k_ ≠ gb360))) (fun _ hk => hk.2) (.int .i64 ((rd_T28 y356 x31_1).f0))) (fun _ hk => hk.2) (.int .i64 ((rd_T28 y356 x31_1).f1))) (fun _ hk => ⟨hk.1.1.1, ⟨hk.1.1.2.1, hk.1.1.2.2⟩⟩)⟩, ⟨by (with_reducible repeat (first | refine bkN ?_ _ | refine bkD ?_ | refine bkA ?_ _)); refine blk_far ?_ NB350_360.out _; (with_reducible repeat (first | refine bkN ?_ _ | refine bkD ?_ | refine bkA ?_ _)); refine blk_far ?_ NB350_360.out _; (with_reducible repeat (first | refine bkN ?_ _ | refine bkD ?_ | refine bkA ?_ _)); exact BK350.out⟩, ⟨by (with_reducible repeat (first | refine bkN ?_ _ | refine bkD ?_ | refine bkA ?_ _)); refine blk_far ?_ NB351_360.out _; (with_reducible repeat (first | refine bkN ?_ _ | refine bkD ?_ | refine bkA ?_ _)); refine blk_far ?_ NB351_360.out _; (with_reducible repeat (first | refine bkN ?_ _ | refine bkD ?_ | refine bkA ?_ _)); exact BK351.out⟩, ⟨by (with_reducible repeat (first | refine bkN ?_ _ | refine bkD ?_ | refine bkA ?_ _)); refine blk_far ?_ NB352_360.out _; (with_reducible repeat (first | refine bkN ?_ _ | refine bkD ?_ | refine bkA ?_ _)); refine blk_far ?_ NB352_360.out _; (with_reducible repeat (first | refine bkN ?_ _ | refine bkD ?_ | refine bkA ?_ _)); exact BK352.out⟩, ⟨by (with_reducible repeat (first | refine bkN ?_ _ | refine bkD ?_ | refine bkA ?_ _)); refine blk_far ?_ NB354_360.out _; (with_reducible repeat (first | refine bkN ?_ _ | refine bkD ?_ | refine bkA ?_ _)); refine blk_far ?_ NB354_360.out _; (with_reducible repeat (first | refine bkN ?_ _ | refine bkD ?_ | refine bkA ?_ _)); exact BK354.out⟩, ⟨by (with_reducible repeat (first | refine bkN ?_ _ | refine bkD ?_ | refine bkA ?_ _)); refine blk_far ?_ NB355_360.out _; (with_reducible repeat (first | refine bkN ?_ _ | refine bkD ?_ | refine bkA ?_ _)); refine blk_far ?_ NB355_360.out _; (with_reducible repeat (first | refine bkN ?_ _ | refine bkD ?_ | refine bkA ?_ _)); exact BK355.out⟩, ⟨by repeat (first | (with_reducible first | exact HB.out | apply blA | apply blN | apply blD | refine blS ?_ GE350.out | refine blS ?_ GE351.out | refine blS ?_ GE352.out | refine blS ?_ GE354.out | refine blS ?_ GE355.out | refine blS ?_ GE360.out) | exact HB.out)⟩⟩
    as_aux_lemma =>
     rw [if_neg c35] at H
     have c35b0 : decide (x31_1 < (y356.length : Int)) = false := decide_eq_false c35
     clear c35
     replace H := Option.bind_eq_some_iff.mp H
     obtain ⟨t361, A770, H⟩ := H
     replace H : ((geometry_Square.f a0_0 a0_1 a0_2 a0_3).bind fun t362 => (if t362 < 0 then (some false) else (if ((t362 == 0) != (a0_0 == a0_2 && (a0_1 == a0_3))) = true then (some false) else ((geometry_Square.f a0_2 a0_3 a0_0 a0_1).bind fun t363 => (if t363 = t362 then ((hopmeshlaw05_GeometryMoves_1.f a0_0 a0_1 a2_0 a2_1).bind fun bt364 => ((hopmeshlaw05_GeometryMoves_1.f a0_2 a0_3 a2_0 a2_1).bind fun bt366 => ((geometry_Square.f bt364.1 bt364.2 bt366.1 bt366.2).bind fun t368 => (if t368 = t362 then ((hopmeshlaw05_GeometryMoves_2.f a0_0 a0_1).bind fun bt369 => ((hopmeshlaw05_GeometryMoves_2.f a0_2 a0_3).bind fun bt371 => ((geometry_Square.f bt369.1 bt369.2 bt371.1 bt371.2).bind fun t373 => (if t373 = t362 then ((geometry_Crosses.f k1 a0_2 a0_3 a0_0 a0_1 a1_0 a1_1 a1_2 a1_3 a1_4).bind fun t374 => (if (t374 == t361) = true then ((hopmeshlaw05_GeometryMoves_3.f a1_2 a1_3 a1_0 a1_1 a1_0 a1_1 a1_2 a1_3 a1_4).bind fun bt375 => ((geometry_Crosses.f k1 a0_0 a0_1 a0_2 a0_3 bt375.1 bt375.2.1 bt375.2.2.1 bt375.2.2.2.1 bt375.2.2.2.2).bind fun t380 => (if (t380 == t361) = true then ((hopmeshlaw05_GeometryMoves_3.f a0_0 a0_1 a0_2 a0_3 a1_0 a1_1 a1_2 a1_3 a1_4).bind fun bt381 => ((geometry_Crosses.f k1 a1_0 a1_1 a1_2 a1_3 bt381.1 bt381.2.1 bt381.2.2.1 bt381.2.2.2.1 bt381.2.2.2.2).bind fun t386 => (if (t386 == t361) = true then ((hopmeshlaw05_GeometryMoves_1.f a0_0 a0_1 a2_0 a2_1).bind fun bt387 => ((hopmeshlaw05_GeometryMoves_1.f a0_2 a0_3 a2_0 a2_1).bind fun bt389 => ((hopmeshlaw05_GeometryMoves_1.f a1_0 a1_1 a2_0 a2_1).bind fun bt391 => ((hopmeshlaw05_GeometryMoves_1.f a1_2 a1_3 a2_0 a2_1).bind fun bt393 => ((hopmeshlaw05_GeometryMoves_3.f bt391.1 bt391.2 bt393.1 bt393.2 a1_0 a1_1 a1_2 a1_3 a1_4).bind fun bt395 => ((geometry_Crosses.f k1 bt387.1 bt387.2 bt389.1 bt389.2 bt395.1 bt395.2.1 bt395.2.2.1 bt395.2.2.2.1 bt395.2.2.2.2).bind fun t400 => (if (t400 == t361) = true then ((hopmeshlaw05_GeometryMoves_2.f a0_0 a0_1).bind fun bt401 => ((hopmeshlaw05_GeometryMoves_2.f a0_2 a0_3).bind fun bt403 => ((hopmeshlaw05_GeometryMoves_2.f a1_0 a1_1).bind fun bt405 => ((hopmeshlaw05_GeometryMoves_2.f a1_2 a1_3).bind fun bt407 => ((hopmeshlaw05_GeometryMoves_3.f bt405.1 bt405.2 bt407.1 bt407.2 a1_0 a1_1 a1_2 a1_3 a1_4).bind fun bt409 => ((geometry_Crosses.f k1 bt401.1 bt401.2 bt403.1 bt403.2 bt409.1 bt409.2.1 bt409.2.2.1 bt409.2.2.2.1 bt409.2.2.2.2).bind fun t414 => (some (t414 == t361)))))))) else (some false)))))))) else (some false)))) else (some false)))) else (some false))) else (some false))))) else (some false))))) else (some false)))))) = some r := H
     have A77 := Aside0.mk A770
     clear A770
     replace H := Option.bind_eq_some_iff.mp H
     obtain ⟨t362, A780, H⟩ := H
     replace H : (if t362 < 0 then (some false) else (if ((t362 == 0) != (a0_0 == a0_2 && (a0_1 == a0_3))) = true then (some false) else ((geometry_Square.f a0_2 a0_3 a0_0 a0_1).bind fun t363 => (if t363 = t362 then ((hopmeshlaw05_GeometryMoves_1.f a0_0 a0_1 a2_0 a2_1).bind fun bt364 => ((hopmeshlaw05_GeometryMoves_1.f a0_2 a0_3 a2_0 a2_1).bind fun bt366 => ((geometry_Square.f bt364.1 bt364.2 bt366.1 bt366.2).bind fun t368 => (if t368 = t362 then ((hopmeshlaw05_GeometryMoves_2.f a0_0 a0_1).bind fun bt369 => ((hopmeshlaw05_GeometryMoves_2.f a0_2 a0_3).bind fun bt371 => ((geometry_Square.f bt369.1 bt369.2 bt371.1 bt371.2).bind fun t373 => (if t373 = t362 then ((geometry_Crosses.f k1 a0_2 a0_3 a0_0 a0_1 a1_0 a1_1 a1_2 a1_3 a1_4).bind fun t374 => (if (t374 == t361) = true then ((hopmeshlaw05_GeometryMoves_3.f a1_2 a1_3 a1_0 a1_1 a1_0 a1_1 a1_2 a1_3 a1_4).bind fun bt375 => ((geometry_Crosses.f k1 a0_0 a0_1 a0_2 a0_3 bt375.1 bt375.2.1 bt375.2.2.1 bt375.2.2.2.1 bt375.2.2.2.2).bind fun t380 => (if (t380 == t361) = true then ((hopmeshlaw05_GeometryMoves_3.f a0_0 a0_1 a0_2 a0_3 a1_0 a1_1 a1_2 a1_3 a1_4).bind fun bt381 => ((geometry_Crosses.f k1 a1_0 a1_1 a1_2 a1_3 bt381.1 bt381.2.1 bt381.2.2.1 bt381.2.2.2.1 bt381.2.2.2.2).bind fun t386 => (if (t386 == t361) = true then ((hopmeshlaw05_GeometryMoves_1.f a0_0 a0_1 a2_0 a2_1).bind fun bt387 => ((hopmeshlaw05_GeometryMoves_1.f a0_2 a0_3 a2_0 a2_1).bind fun bt389 => ((hopmeshlaw05_GeometryMoves_1.f a1_0 a1_1 a2_0 a2_1).bind fun bt391 => ((hopmeshlaw05_GeometryMoves_1.f a1_2 a1_3 a2_0 a2_1).bind fun bt393 => ((hopmeshlaw05_GeometryMoves_3.f bt391.1 bt391.2 bt393.1 bt393.2 a1_0 a1_1 a1_2 a1_3 a1_4).bind fun bt395 => ((geometry_Crosses.f k1 bt387.1 bt387.2 bt389.1 bt389.2 bt395.1 bt395.2.1 bt395.2.2.1 bt395.2.2.2.1 bt395.2.2.2.2).bind fun t400 => (if (t400 == t361) = true then ((hopmeshlaw05_GeometryMoves_2.f a0_0 a0_1).bind fun bt401 => ((hopmeshlaw05_GeometryMoves_2.f a0_2 a0_3).bind fun bt403 => ((hopmeshlaw05_GeometryMoves_2.f a1_0 a1_1).bind fun bt405 => ((hopmeshlaw05_GeometryMoves_2.f a1_2 a1_3).bind fun bt407 => ((hopmeshlaw05_GeometryMoves_3.f bt405.1 bt405.2 bt407.1 bt407.2 a1_0 a1_1 a1_2 a1_3 a1_4).bind fun bt409 => ((geometry_Crosses.f k1 bt401.1 bt401.2 bt403.1 bt403.2 bt409.1 bt409.2.1 bt409.2.2.1 bt409.2.2.2.1 bt409.2.2.2.2).bind fun t414 => (some (t414 == t361)))))))) else (some false)))))))) else (some false)))) else (some false)))) else (some false))) else (some false))))) else (some false))))) else (some false))))) = some r := H
     have A78 := Aside0.mk A780
     clear A780
     by_cases c79 : t362 < 0
     ·rw [if_pos c79] at H
      have c79b0 : decide (t362 < 0) = true := decide_eq_true c79
      clear c79
      exact absurd (H.trans (congrArg some HRT.out)) (by simp)
     rw [if_neg c79] at H
     have c79b0 : decide (t362 < 0) = false := decide_eq_false c79
     clear c79
     by_cases c80 : ((t362 == 0) != (a0_0 == a0_2 && (a0_1 == a0_3))) = true
     ·rw [if_pos c80] at H
      have c80b0 : ((t362 == 0) != (a0_0 == a0_2 && (a0_1 == a0_3))) = true := c80
      (try (have c80b1 : decide ((t362 == 0) = (a0_0 == a0_2 && (a0_1 == a0_3))) = false := by simpa using c80))
      (try (have c80b2 : ((t362 == 0) == (a0_0 == a0_2 && (a0_1 == a0_3))) = false := by simpa using c80))
      (try (have c80b3 : ¬ ((t362 == 0) = (a0_0 == a0_2 && (a0_1 == a0_3))) := by simpa using c80))
      clear c80
      exact absurd (H.trans (congrArg some HRT.out)) (by simp)
     rw [if_neg c80] at H
     have c80b0 : ((t362 == 0) != (a0_0 == a0_2 && (a0_1 == a0_3))) = false := by simpa using c80
     (try (have c80b1 : decide ((t362 == 0) = (a0_0 == a0_2 && (a0_1 == a0_3))) = true := by simpa using c80))
     (try (have c80b2 : ((t362 == 0) == (a0_0 == a0_2 && (a0_1 == a0_3))) = true := by simpa using c80))
     clear c80
     replace H := Option.bind_eq_some_iff.mp H
     obtain ⟨t363, A810, H⟩ := H
     replace H : (if t363 = t362 then ((hopmeshlaw05_GeometryMoves_1.f a0_0 a0_1 a2_0 a2_1).bind fun bt364 => ((hopmeshlaw05_GeometryMoves_1.f a0_2 a0_3 a2_0 a2_1).bind fun bt366 => ((geometry_Square.f bt364.1 bt364.2 bt366.1 bt366.2).bind fun t368 => (if t368 = t362 then ((hopmeshlaw05_GeometryMoves_2.f a0_0 a0_1).bind fun bt369 => ((hopmeshlaw05_GeometryMoves_2.f a0_2 a0_3).bind fun bt371 => ((geometry_Square.f bt369.1 bt369.2 bt371.1 bt371.2).bind fun t373 => (if t373 = t362 then ((geometry_Crosses.f k1 a0_2 a0_3 a0_0 a0_1 a1_0 a1_1 a1_2 a1_3 a1_4).bind fun t374 => (if (t374 == t361) = true then ((hopmeshlaw05_GeometryMoves_3.f a1_2 a1_3 a1_0 a1_1 a1_0 a1_1 a1_2 a1_3 a1_4).bind fun bt375 => ((geometry_Crosses.f k1 a0_0 a0_1 a0_2 a0_3 bt375.1 bt375.2.1 bt375.2.2.1 bt375.2.2.2.1 bt375.2.2.2.2).bind fun t380 => (if (t380 == t361) = true then ((hopmeshlaw05_GeometryMoves_3.f a0_0 a0_1 a0_2 a0_3 a1_0 a1_1 a1_2 a1_3 a1_4).bind fun bt381 => ((geometry_Crosses.f k1 a1_0 a1_1 a1_2 a1_3 bt381.1 bt381.2.1 bt381.2.2.1 bt381.2.2.2.1 bt381.2.2.2.2).bind fun t386 => (if (t386 == t361) = true then ((hopmeshlaw05_GeometryMoves_1.f a0_0 a0_1 a2_0 a2_1).bind fun bt387 => ((hopmeshlaw05_GeometryMoves_1.f a0_2 a0_3 a2_0 a2_1).bind fun bt389 => ((hopmeshlaw05_GeometryMoves_1.f a1_0 a1_1 a2_0 a2_1).bind fun bt391 => ((hopmeshlaw05_GeometryMoves_1.f a1_2 a1_3 a2_0 a2_1).bind fun bt393 => ((hopmeshlaw05_GeometryMoves_3.f bt391.1 bt391.2 bt393.1 bt393.2 a1_0 a1_1 a1_2 a1_3 a1_4).bind fun bt395 => ((geometry_Crosses.f k1 bt387.1 bt387.2 bt389.1 bt389.2 bt395.1 bt395.2.1 bt395.2.2.1 bt395.2.2.2.1 bt395.2.2.2.2).bind fun t400 => (if (t400 == t361) = true then ((hopmeshlaw05_GeometryMoves_2.f a0_0 a0_1).bind fun bt401 => ((hopmeshlaw05_GeometryMoves_2.f a0_2 a0_3).bind fun bt403 => ((hopmeshlaw05_GeometryMoves_2.f a1_0 a1_1).bind fun bt405 => ((hopmeshlaw05_GeometryMoves_2.f a1_2 a1_3).bind fun bt407 => ((hopmeshlaw05_GeometryMoves_3.f bt405.1 bt405.2 bt407.1 bt407.2 a1_0 a1_1 a1_2 a1_3 a1_4).bind fun bt409 => ((geometry_Crosses.f k1 bt401.1 bt401.2 bt403.1 bt403.2 bt409.1 bt409.2.1 bt409.2.2.1 bt409.2.2.2.1 bt409.2.2.2.2).bind fun t414 => (some (t414 == t361)))))))) else (some false)))))))) else (some false)))) else (some false)))) else (some false))) else (some false))))) else (some false))))) else (some false)) = some r := H
     have A81 := Aside0.mk A810
     clear A810
     by_cases c82 : t363 = t362
     rotate_left
     ·rw [if_neg c82] at H
      have c82b0 : (t363 == t362) = false := beq_eq_false_iff_ne.mpr c82
      have c82b1 : (t363 != t362) = true := bne_iff_ne.mpr c82
      exact absurd (H.trans (congrArg some HRT.out)) (by simp)
     rw [if_pos c82] at H
     have c82b0 : (t363 == t362) = true := beq_iff_eq.mpr c82
     have c82b1 : (t363 != t362) = false := bne_eq_false_iff_eq.mpr c82
     clear c82
     replace H := Option.bind_eq_some_iff.mp H
     obtain ⟨⟨t364, t365⟩, A830, H⟩ := H
     replace H : ((hopmeshlaw05_GeometryMoves_1.f a0_2 a0_3 a2_0 a2_1).bind fun bt366 => ((geometry_Square.f t364 t365 bt366.1 bt366.2).bind fun t368 => (if t368 = t362 then ((hopmeshlaw05_GeometryMoves_2.f a0_0 a0_1).bind fun bt369 => ((hopmeshlaw05_GeometryMoves_2.f a0_2 a0_3).bind fun bt371 => ((geometry_Square.f bt369.1 bt369.2 bt371.1 bt371.2).bind fun t373 => (if t373 = t362 then ((geometry_Crosses.f k1 a0_2 a0_3 a0_0 a0_1 a1_0 a1_1 a1_2 a1_3 a1_4).bind fun t374 => (if (t374 == t361) = true then ((hopmeshlaw05_GeometryMoves_3.f a1_2 a1_3 a1_0 a1_1 a1_0 a1_1 a1_2 a1_3 a1_4).bind fun bt375 => ((geometry_Crosses.f k1 a0_0 a0_1 a0_2 a0_3 bt375.1 bt375.2.1 bt375.2.2.1 bt375.2.2.2.1 bt375.2.2.2.2).bind fun t380 => (if (t380 == t361) = true then ((hopmeshlaw05_GeometryMoves_3.f a0_0 a0_1 a0_2 a0_3 a1_0 a1_1 a1_2 a1_3 a1_4).bind fun bt381 => ((geometry_Crosses.f k1 a1_0 a1_1 a1_2 a1_3 bt381.1 bt381.2.1 bt381.2.2.1 bt381.2.2.2.1 bt381.2.2.2.2).bind fun t386 => (if (t386 == t361) = true then ((hopmeshlaw05_GeometryMoves_1.f a0_0 a0_1 a2_0 a2_1).bind fun bt387 => ((hopmeshlaw05_GeometryMoves_1.f a0_2 a0_3 a2_0 a2_1).bind fun bt389 => ((hopmeshlaw05_GeometryMoves_1.f a1_0 a1_1 a2_0 a2_1).bind fun bt391 => ((hopmeshlaw05_GeometryMoves_1.f a1_2 a1_3 a2_0 a2_1).bind fun bt393 => ((hopmeshlaw05_GeometryMoves_3.f bt391.1 bt391.2 bt393.1 bt393.2 a1_0 a1_1 a1_2 a1_3 a1_4).bind fun bt395 => ((geometry_Crosses.f k1 bt387.1 bt387.2 bt389.1 bt389.2 bt395.1 bt395.2.1 bt395.2.2.1 bt395.2.2.2.1 bt395.2.2.2.2).bind fun t400 => (if (t400 == t361) = true then ((hopmeshlaw05_GeometryMoves_2.f a0_0 a0_1).bind fun bt401 => ((hopmeshlaw05_GeometryMoves_2.f a0_2 a0_3).bind fun bt403 => ((hopmeshlaw05_GeometryMoves_2.f a1_0 a1_1).bind fun bt405 => ((hopmeshlaw05_GeometryMoves_2.f a1_2 a1_3).bind fun bt407 => ((hopmeshlaw05_GeometryMoves_3.f bt405.1 bt405.2 bt407.1 bt407.2 a1_0 a1_1 a1_2 a1_3 a1_4).bind fun bt409 => ((geometry_Crosses.f k1 bt401.1 bt401.2 bt403.1 bt403.2 bt409.1 bt409.2.1 bt409.2.2.1 bt409.2.2.2.1 bt409.2.2.2.2).bind fun t414 => (some (t414 == t361)))))))) else (some false)))))))) else (some false)))) else (some false)))) else (some false))) else (some false))))) else (some false)))) = some r := H
     have A83 := Aside0.mk A830
     clear A830
     replace H := Option.bind_eq_some_iff.mp H
     obtain ⟨⟨t366, t367⟩, A840, H⟩ := H
     replace H : ((geometry_Square.f t364 t365 t366 t367).bind fun t368 => (if t368 = t362 then ((hopmeshlaw05_GeometryMoves_2.f a0_0 a0_1).bind fun bt369 => ((hopmeshlaw05_GeometryMoves_2.f a0_2 a0_3).bind fun bt371 => ((geometry_Square.f bt369.1 bt369.2 bt371.1 bt371.2).bind fun t373 => (if t373 = t362 then ((geometry_Crosses.f k1 a0_2 a0_3 a0_0 a0_1 a1_0 a1_1 a1_2 a1_3 a1_4).bind fun t374 => (if (t374 == t361) = true then ((hopmeshlaw05_GeometryMoves_3.f a1_2 a1_3 a1_0 a1_1 a1_0 a1_1 a1_2 a1_3 a1_4).bind fun bt375 => ((geometry_Crosses.f k1 a0_0 a0_1 a0_2 a0_3 bt375.1 bt375.2.1 bt375.2.2.1 bt375.2.2.2.1 bt375.2.2.2.2).bind fun t380 => (if (t380 == t361) = true then ((hopmeshlaw05_GeometryMoves_3.f a0_0 a0_1 a0_2 a0_3 a1_0 a1_1 a1_2 a1_3 a1_4).bind fun bt381 => ((geometry_Crosses.f k1 a1_0 a1_1 a1_2 a1_3 bt381.1 bt381.2.1 bt381.2.2.1 bt381.2.2.2.1 bt381.2.2.2.2).bind fun t386 => (if (t386 == t361) = true then ((hopmeshlaw05_GeometryMoves_1.f a0_0 a0_1 a2_0 a2_1).bind fun bt387 => ((hopmeshlaw05_GeometryMoves_1.f a0_2 a0_3 a2_0 a2_1).bind fun bt389 => ((hopmeshlaw05_GeometryMoves_1.f a1_0 a1_1 a2_0 a2_1).bind fun bt391 => ((hopmeshlaw05_GeometryMoves_1.f a1_2 a1_3 a2_0 a2_1).bind fun bt393 => ((hopmeshlaw05_GeometryMoves_3.f bt391.1 bt391.2 bt393.1 bt393.2 a1_0 a1_1 a1_2 a1_3 a1_4).bind fun bt395 => ((geometry_Crosses.f k1 bt387.1 bt387.2 bt389.1 bt389.2 bt395.1 bt395.2.1 bt395.2.2.1 bt395.2.2.2.1 bt395.2.2.2.2).bind fun t400 => (if (t400 == t361) = true then ((hopmeshlaw05_GeometryMoves_2.f a0_0 a0_1).bind fun bt401 => ((hopmeshlaw05_GeometryMoves_2.f a0_2 a0_3).bind fun bt403 => ((hopmeshlaw05_GeometryMoves_2.f a1_0 a1_1).bind fun bt405 => ((hopmeshlaw05_GeometryMoves_2.f a1_2 a1_3).bind fun bt407 => ((hopmeshlaw05_GeometryMoves_3.f bt405.1 bt405.2 bt407.1 bt407.2 a1_0 a1_1 a1_2 a1_3 a1_4).bind fun bt409 => ((geometry_Crosses.f k1 bt401.1 bt401.2 bt403.1 bt403.2 bt409.1 bt409.2.1 bt409.2.2.1 bt409.2.2.2.1 bt409.2.2.2.2).bind fun t414 => (some (t414 == t361)))))))) else (some false)))))))) else (some false)))) else (some false)))) else (some false))) else (some false))))) else (some false))) = some r := H
     have A84 := Aside0.mk A840
     clear A840
     replace H := Option.bind_eq_some_iff.mp H
     obtain ⟨t368, A850, H⟩ := H
     replace H : (if t368 = t362 then ((hopmeshlaw05_GeometryMoves_2.f a0_0 a0_1).bind fun bt369 => ((hopmeshlaw05_GeometryMoves_2.f a0_2 a0_3).bind fun bt371 => ((geometry_Square.f bt369.1 bt369.2 bt371.1 bt371.2).bind fun t373 => (if t373 = t362 then ((geometry_Crosses.f k1 a0_2 a0_3 a0_0 a0_1 a1_0 a1_1 a1_2 a1_3 a1_4).bind fun t374 => (if (t374 == t361) = true then ((hopmeshlaw05_GeometryMoves_3.f a1_2 a1_3 a1_0 a1_1 a1_0 a1_1 a1_2 a1_3 a1_4).bind fun bt375 => ((geometry_Crosses.f k1 a0_0 a0_1 a0_2 a0_3 bt375.1 bt375.2.1 bt375.2.2.1 bt375.2.2.2.1 bt375.2.2.2.2).bind fun t380 => (if (t380 == t361) = true then ((hopmeshlaw05_GeometryMoves_3.f a0_0 a0_1 a0_2 a0_3 a1_0 a1_1 a1_2 a1_3 a1_4).bind fun bt381 => ((geometry_Crosses.f k1 a1_0 a1_1 a1_2 a1_3 bt381.1 bt381.2.1 bt381.2.2.1 bt381.2.2.2.1 bt381.2.2.2.2).bind fun t386 => (if (t386 == t361) = true then ((hopmeshlaw05_GeometryMoves_1.f a0_0 a0_1 a2_0 a2_1).bind fun bt387 => ((hopmeshlaw05_GeometryMoves_1.f a0_2 a0_3 a2_0 a2_1).bind fun bt389 => ((hopmeshlaw05_GeometryMoves_1.f a1_0 a1_1 a2_0 a2_1).bind fun bt391 => ((hopmeshlaw05_GeometryMoves_1.f a1_2 a1_3 a2_0 a2_1).bind fun bt393 => ((hopmeshlaw05_GeometryMoves_3.f bt391.1 bt391.2 bt393.1 bt393.2 a1_0 a1_1 a1_2 a1_3 a1_4).bind fun bt395 => ((geometry_Crosses.f k1 bt387.1 bt387.2 bt389.1 bt389.2 bt395.1 bt395.2.1 bt395.2.2.1 bt395.2.2.2.1 bt395.2.2.2.2).bind fun t400 => (if (t400 == t361) = true then ((hopmeshlaw05_GeometryMoves_2.f a0_0 a0_1).bind fun bt401 => ((hopmeshlaw05_GeometryMoves_2.f a0_2 a0_3).bind fun bt403 => ((hopmeshlaw05_GeometryMoves_2.f a1_0 a1_1).bind fun bt405 => ((hopmeshlaw05_GeometryMoves_2.f a1_2 a1_3).bind fun bt407 => ((hopmeshlaw05_GeometryMoves_3.f bt405.1 bt405.2 bt407.1 bt407.2 a1_0 a1_1 a1_2 a1_3 a1_4).bind fun bt409 => ((geometry_Crosses.f k1 bt401.1 bt401.2 bt403.1 bt403.2 bt409.1 bt409.2.1 bt409.2.2.1 bt409.2.2.2.1 bt409.2.2.2.2).bind fun t414 => (some (t414 == t361)))))))) else (some false)))))))) else (some false)))) else (some false)))) else (some false))) else (some false))))) else (some false)) = some r := H
     have A85 := Aside0.mk A850
     clear A850
     by_cases c86 : t368 = t362
     rotate_left
     ·rw [if_neg c86] at H
      have c86b0 : (t368 == t362) = false := beq_eq_false_iff_ne.mpr c86
      have c86b1 : (t368 != t362) = true := bne_iff_ne.mpr c86
      exact absurd (H.trans (congrArg some HRT.out)) (by simp)
     rw [if_pos c86] at H
     have c86b0 : (t368 == t362) = true := beq_iff_eq.mpr c86
     have c86b1 : (t368 != t362) = false := bne_eq_false_iff_eq.mpr c86
     clear c86
     replace H := Option.bind_eq_some_iff.mp H
     obtain ⟨⟨t369, t370⟩, A870, H⟩ := H
     replace H : ((hopmeshlaw05_GeometryMoves_2.f a0_2 a0_3).bind fun bt371 => ((geometry_Square.f t369 t370 bt371.1 bt371.2).bind fun t373 => (if t373 = t362 then ((geometry_Crosses.f k1 a0_2 a0_3 a0_0 a0_1 a1_0 a1_1 a1_2 a1_3 a1_4).bind fun t374 => (if (t374 == t361) = true then ((hopmeshlaw05_GeometryMoves_3.f a1_2 a1_3 a1_0 a1_1 a1_0 a1_1 a1_2 a1_3 a1_4).bind fun bt375 => ((geometry_Crosses.f k1 a0_0 a0_1 a0_2 a0_3 bt375.1 bt375.2.1 bt375.2.2.1 bt375.2.2.2.1 bt375.2.2.2.2).bind fun t380 => (if (t380 == t361) = true then ((hopmeshlaw05_GeometryMoves_3.f a0_0 a0_1 a0_2 a0_3 a1_0 a1_1 a1_2 a1_3 a1_4).bind fun bt381 => ((geometry_Crosses.f k1 a1_0 a1_1 a1_2 a1_3 bt381.1 bt381.2.1 bt381.2.2.1 bt381.2.2.2.1 bt381.2.2.2.2).bind fun t386 => (if (t386 == t361) = true then ((hopmeshlaw05_GeometryMoves_1.f a0_0 a0_1 a2_0 a2_1).bind fun bt387 => ((hopmeshlaw05_GeometryMoves_1.f a0_2 a0_3 a2_0 a2_1).bind fun bt389 => ((hopmeshlaw05_GeometryMoves_1.f a1_0 a1_1 a2_0 a2_1).bind fun bt391 => ((hopmeshlaw05_GeometryMoves_1.f a1_2 a1_3 a2_0 a2_1).bind fun bt393 => ((hopmeshlaw05_GeometryMoves_3.f bt391.1 bt391.2 bt393.1 bt393.2 a1_0 a1_1 a1_2 a1_3 a1_4).bind fun bt395 => ((geometry_Crosses.f k1 bt387.1 bt387.2 bt389.1 bt389.2 bt395.1 bt395.2.1 bt395.2.2.1 bt395.2.2.2.1 bt395.2.2.2.2).bind fun t400 => (if (t400 == t361) = true then ((hopmeshlaw05_GeometryMoves_2.f a0_0 a0_1).bind fun bt401 => ((hopmeshlaw05_GeometryMoves_2.f a0_2 a0_3).bind fun bt403 => ((hopmeshlaw05_GeometryMoves_2.f a1_0 a1_1).bind fun bt405 => ((hopmeshlaw05_GeometryMoves_2.f a1_2 a1_3).bind fun bt407 => ((hopmeshlaw05_GeometryMoves_3.f bt405.1 bt405.2 bt407.1 bt407.2 a1_0 a1_1 a1_2 a1_3 a1_4).bind fun bt409 => ((geometry_Crosses.f k1 bt401.1 bt401.2 bt403.1 bt403.2 bt409.1 bt409.2.1 bt409.2.2.1 bt409.2.2.2.1 bt409.2.2.2.2).bind fun t414 => (some (t414 == t361)))))))) else (some false)))))))) else (some false)))) else (some false)))) else (some false))) else (some false)))) = some r := H
     have A87 := Aside0.mk A870
     clear A870
     replace H := Option.bind_eq_some_iff.mp H
     obtain ⟨⟨t371, t372⟩, A880, H⟩ := H
     replace H : ((geometry_Square.f t369 t370 t371 t372).bind fun t373 => (if t373 = t362 then ((geometry_Crosses.f k1 a0_2 a0_3 a0_0 a0_1 a1_0 a1_1 a1_2 a1_3 a1_4).bind fun t374 => (if (t374 == t361) = true then ((hopmeshlaw05_GeometryMoves_3.f a1_2 a1_3 a1_0 a1_1 a1_0 a1_1 a1_2 a1_3 a1_4).bind fun bt375 => ((geometry_Crosses.f k1 a0_0 a0_1 a0_2 a0_3 bt375.1 bt375.2.1 bt375.2.2.1 bt375.2.2.2.1 bt375.2.2.2.2).bind fun t380 => (if (t380 == t361) = true then ((hopmeshlaw05_GeometryMoves_3.f a0_0 a0_1 a0_2 a0_3 a1_0 a1_1 a1_2 a1_3 a1_4).bind fun bt381 => ((geometry_Crosses.f k1 a1_0 a1_1 a1_2 a1_3 bt381.1 bt381.2.1 bt381.2.2.1 bt381.2.2.2.1 bt381.2.2.2.2).bind fun t386 => (if (t386 == t361) = true then ((hopmeshlaw05_GeometryMoves_1.f a0_0 a0_1 a2_0 a2_1).bind fun bt387 => ((hopmeshlaw05_GeometryMoves_1.f a0_2 a0_3 a2_0 a2_1).bind fun bt389 => ((hopmeshlaw05_GeometryMoves_1.f a1_0 a1_1 a2_0 a2_1).bind fun bt391 => ((hopmeshlaw05_GeometryMoves_1.f a1_2 a1_3 a2_0 a2_1).bind fun bt393 => ((hopmeshlaw05_GeometryMoves_3.f bt391.1 bt391.2 bt393.1 bt393.2 a1_0 a1_1 a1_2 a1_3 a1_4).bind fun bt395 => ((geometry_Crosses.f k1 bt387.1 bt387.2 bt389.1 bt389.2 bt395.1 bt395.2.1 bt395.2.2.1 bt395.2.2.2.1 bt395.2.2.2.2).bind fun t400 => (if (t400 == t361) = true then ((hopmeshlaw05_GeometryMoves_2.f a0_0 a0_1).bind fun bt401 => ((hopmeshlaw05_GeometryMoves_2.f a0_2 a0_3).bind fun bt403 => ((hopmeshlaw05_GeometryMoves_2.f a1_0 a1_1).bind fun bt405 => ((hopmeshlaw05_GeometryMoves_2.f a1_2 a1_3).bind fun bt407 => ((hopmeshlaw05_GeometryMoves_3.f bt405.1 bt405.2 bt407.1 bt407.2 a1_0 a1_1 a1_2 a1_3 a1_4).bind fun bt409 => ((geometry_Crosses.f k1 bt401.1 bt401.2 bt403.1 bt403.2 bt409.1 bt409.2.1 bt409.2.2.1 bt409.2.2.2.1 bt409.2.2.2.2).bind fun t414 => (some (t414 == t361)))))))) else (some false)))))))) else (some false)))) else (some false)))) else (some false))) else (some false))) = some r := H
     have A88 := Aside0.mk A880
     clear A880
     replace H := Option.bind_eq_some_iff.mp H
     obtain ⟨t373, A890, H⟩ := H
     replace H : (if t373 = t362 then ((geometry_Crosses.f k1 a0_2 a0_3 a0_0 a0_1 a1_0 a1_1 a1_2 a1_3 a1_4).bind fun t374 => (if (t374 == t361) = true then ((hopmeshlaw05_GeometryMoves_3.f a1_2 a1_3 a1_0 a1_1 a1_0 a1_1 a1_2 a1_3 a1_4).bind fun bt375 => ((geometry_Crosses.f k1 a0_0 a0_1 a0_2 a0_3 bt375.1 bt375.2.1 bt375.2.2.1 bt375.2.2.2.1 bt375.2.2.2.2).bind fun t380 => (if (t380 == t361) = true then ((hopmeshlaw05_GeometryMoves_3.f a0_0 a0_1 a0_2 a0_3 a1_0 a1_1 a1_2 a1_3 a1_4).bind fun bt381 => ((geometry_Crosses.f k1 a1_0 a1_1 a1_2 a1_3 bt381.1 bt381.2.1 bt381.2.2.1 bt381.2.2.2.1 bt381.2.2.2.2).bind fun t386 => (if (t386 == t361) = true then ((hopmeshlaw05_GeometryMoves_1.f a0_0 a0_1 a2_0 a2_1).bind fun bt387 => ((hopmeshlaw05_GeometryMoves_1.f a0_2 a0_3 a2_0 a2_1).bind fun bt389 => ((hopmeshlaw05_GeometryMoves_1.f a1_0 a1_1 a2_0 a2_1).bind fun bt391 => ((hopmeshlaw05_GeometryMoves_1.f a1_2 a1_3 a2_0 a2_1).bind fun bt393 => ((hopmeshlaw05_GeometryMoves_3.f bt391.1 bt391.2 bt393.1 bt393.2 a1_0 a1_1 a1_2 a1_3 a1_4).bind fun bt395 => ((geometry_Crosses.f k1 bt387.1 bt387.2 bt389.1 bt389.2 bt395.1 bt395.2.1 bt395.2.2.1 bt395.2.2.2.1 bt395.2.2.2.2).bind fun t400 => (if (t400 == t361) = true then ((hopmeshlaw05_GeometryMoves_2.f a0_0 a0_1).bind fun bt401 => ((hopmeshlaw05_GeometryMoves_2.f a0_2 a0_3).bind fun bt403 => ((hopmeshlaw05_GeometryMoves_2.f a1_0 a1_1).bind fun bt405 => ((hopmeshlaw05_GeometryMoves_2.f a1_2 a1_3).bind fun bt407 => ((hopmeshlaw05_GeometryMoves_3.f bt405.1 bt405.2 bt407.1 bt407.2 a1_0 a1_1 a1_2 a1_3 a1_4).bind fun bt409 => ((geometry_Crosses.f k1 bt401.1 bt401.2 bt403.1 bt403.2 bt409.1 bt409.2.1 bt409.2.2.1 bt409.2.2.2.1 bt409.2.2.2.2).bind fun t414 => (some (t414 == t361)))))))) else (some false)))))))) else (some false)))) else (some false)))) else (some false))) else (some false)) = some r := H
     have A89 := Aside0.mk A890
     clear A890
     by_cases c90 : t373 = t362
     rotate_left
     ·rw [if_neg c90] at H
      have c90b0 : (t373 == t362) = false := beq_eq_false_iff_ne.mpr c90
      have c90b1 : (t373 != t362) = true := bne_iff_ne.mpr c90
      exact absurd (H.trans (congrArg some HRT.out)) (by simp)
     rw [if_pos c90] at H
     have c90b0 : (t373 == t362) = true := beq_iff_eq.mpr c90
     have c90b1 : (t373 != t362) = false := bne_eq_false_iff_eq.mpr c90
     clear c90
     replace H := Option.bind_eq_some_iff.mp H
     obtain ⟨t374, A910, H⟩ := H
     replace H : (if (t374 == t361) = true then ((hopmeshlaw05_GeometryMoves_3.f a1_2 a1_3 a1_0 a1_1 a1_0 a1_1 a1_2 a1_3 a1_4).bind fun bt375 => ((geometry_Crosses.f k1 a0_0 a0_1 a0_2 a0_3 bt375.1 bt375.2.1 bt375.2.2.1 bt375.2.2.2.1 bt375.2.2.2.2).bind fun t380 => (if (t380 == t361) = true then ((hopmeshlaw05_GeometryMoves_3.f a0_0 a0_1 a0_2 a0_3 a1_0 a1_1 a1_2 a1_3 a1_4).bind fun bt381 => ((geometry_Crosses.f k1 a1_0 a1_1 a1_2 a1_3 bt381.1 bt381.2.1 bt381.2.2.1 bt381.2.2.2.1 bt381.2.2.2.2).bind fun t386 => (if (t386 == t361) = true then ((hopmeshlaw05_GeometryMoves_1.f a0_0 a0_1 a2_0 a2_1).bind fun bt387 => ((hopmeshlaw05_GeometryMoves_1.f a0_2 a0_3 a2_0 a2_1).bind fun bt389 => ((hopmeshlaw05_GeometryMoves_1.f a1_0 a1_1 a2_0 a2_1).bind fun bt391 => ((hopmeshlaw05_GeometryMoves_1.f a1_2 a1_3 a2_0 a2_1).bind fun bt393 => ((hopmeshlaw05_GeometryMoves_3.f bt391.1 bt391.2 bt393.1 bt393.2 a1_0 a1_1 a1_2 a1_3 a1_4).bind fun bt395 => ((geometry_Crosses.f k1 bt387.1 bt387.2 bt389.1 bt389.2 bt395.1 bt395.2.1 bt395.2.2.1 bt395.2.2.2.1 bt395.2.2.2.2).bind fun t400 => (if (t400 == t361) = true then ((hopmeshlaw05_GeometryMoves_2.f a0_0 a0_1).bind fun bt401 => ((hopmeshlaw05_GeometryMoves_2.f a0_2 a0_3).bind fun bt403 => ((hopmeshlaw05_GeometryMoves_2.f a1_0 a1_1).bind fun bt405 => ((hopmeshlaw05_GeometryMoves_2.f a1_2 a1_3).bind fun bt407 => ((hopmeshlaw05_GeometryMoves_3.f bt405.1 bt405.2 bt407.1 bt407.2 a1_0 a1_1 a1_2 a1_3 a1_4).bind fun bt409 => ((geometry_Crosses.f k1 bt401.1 bt401.2 bt403.1 bt403.2 bt409.1 bt409.2.1 bt409.2.2.1 bt409.2.2.2.1 bt409.2.2.2.2).bind fun t414 => (some (t414 == t361)))))))) else (some false)))))))) else (some false)))) else (some false)))) else (some false)) = some r := H
     have A91 := Aside0.mk A910
     clear A910
     by_cases c92 : (t374 == t361) = true
     rotate_left
     ·rw [if_neg c92] at H
      have c92b0 : (t374 == t361) = false := by simpa using c92
      (try (have c92b1 : decide (t374 = t361) = false := by simpa using c92))
      (try (have c92b2 : (t374 == t361) = false := by simpa using c92))
      (try (have c92b3 : ¬ (t374 = t361) := by simpa using c92))
      clear c92
      exact absurd (H.trans (congrArg some HRT.out)) (by simp)
     rw [if_pos c92] at H
     have c92b0 : (t374 == t361) = true := c92
     (try (have c92b1 : decide (t374 = t361) = true := by simpa using c92))
     (try (have c92b2 : (t374 == t361) = true := by simpa using c92))
     clear c92
     replace H := Option.bind_eq_some_iff.mp H
     obtain ⟨⟨t375, t376, t377, t378, t379⟩, A930, H⟩ := H
     replace H : ((geometry_Crosses.f k1 a0_0 a0_1 a0_2 a0_3 t375 t376 t377 t378 t379).bind fun t380 => (if (t380 == t361) = true then ((hopmeshlaw05_GeometryMoves_3.f a0_0 a0_1 a0_2 a0_3 a1_0 a1_1 a1_2 a1_3 a1_4).bind fun bt381 => ((geometry_Crosses.f k1 a1_0 a1_1 a1_2 a1_3 bt381.1 bt381.2.1 bt381.2.2.1 bt381.2.2.2.1 bt381.2.2.2.2).bind fun t386 => (if (t386 == t361) = true then ((hopmeshlaw05_GeometryMoves_1.f a0_0 a0_1 a2_0 a2_1).bind fun bt387 => ((hopmeshlaw05_GeometryMoves_1.f a0_2 a0_3 a2_0 a2_1).bind fun bt389 => ((hopmeshlaw05_GeometryMoves_1.f a1_0 a1_1 a2_0 a2_1).bind fun bt391 => ((hopmeshlaw05_GeometryMoves_1.f a1_2 a1_3 a2_0 a2_1).bind fun bt393 => ((hopmeshlaw05_GeometryMoves_3.f bt391.1 bt391.2 bt393.1 bt393.2 a1_0 a1_1 a1_2 a1_3 a1_4).bind fun bt395 => ((geometry_Crosses.f k1 bt387.1 bt387.2 bt389.1 bt389.2 bt395.1 bt395.2.1 bt395.2.2.1 bt395.2.2.2.1 bt395.2.2.2.2).bind fun t400 => (if (t400 == t361) = true then ((hopmeshlaw05_GeometryMoves_2.f a0_0 a0_1).bind fun bt401 => ((hopmeshlaw05_GeometryMoves_2.f a0_2 a0_3).bind fun bt403 => ((hopmeshlaw05_GeometryMoves_2.f a1_0 a1_1).bind fun bt405 => ((hopmeshlaw05_GeometryMoves_2.f a1_2 a1_3).bind fun bt407 => ((hopmeshlaw05_GeometryMoves_3.f bt405.1 bt405.2 bt407.1 bt407.2 a1_0 a1_1 a1_2 a1_3 a1_4).bind fun bt409 => ((geometry_Crosses.f k1 bt401.1 bt401.2 bt403.1 bt403.2 bt409.1 bt409.2.1 bt409.2.2.1 bt409.2.2.2.1 bt409.2.2.2.2).bind fun t414 => (some (t414 == t361)))))))) else (some false)))))))) else (some false)))) else (some false))) = some r := H
     have A93 := Aside0.mk A930
     clear A930
     replace H := Option.bind_eq_some_iff.mp H
     obtain ⟨t380, A940, H⟩ := H
     replace H : (if (t380 == t361) = true then ((hopmeshlaw05_GeometryMoves_3.f a0_0 a0_1 a0_2 a0_3 a1_0 a1_1 a1_2 a1_3 a1_4).bind fun bt381 => ((geometry_Crosses.f k1 a1_0 a1_1 a1_2 a1_3 bt381.1 bt381.2.1 bt381.2.2.1 bt381.2.2.2.1 bt381.2.2.2.2).bind fun t386 => (if (t386 == t361) = true then ((hopmeshlaw05_GeometryMoves_1.f a0_0 a0_1 a2_0 a2_1).bind fun bt387 => ((hopmeshlaw05_GeometryMoves_1.f a0_2 a0_3 a2_0 a2_1).bind fun bt389 => ((hopmeshlaw05_GeometryMoves_1.f a1_0 a1_1 a2_0 a2_1).bind fun bt391 => ((hopmeshlaw05_GeometryMoves_1.f a1_2 a1_3 a2_0 a2_1).bind fun bt393 => ((hopmeshlaw05_GeometryMoves_3.f bt391.1 bt391.2 bt393.1 bt393.2 a1_0 a1_1 a1_2 a1_3 a1_4).bind fun bt395 => ((geometry_Crosses.f k1 bt387.1 bt387.2 bt389.1 bt389.2 bt395.1 bt395.2.1 bt395.2.2.1 bt395.2.2.2.1 bt395.2.2.2.2).bind fun t400 => (if (t400 == t361) = true then ((hopmeshlaw05_GeometryMoves_2.f a0_0 a0_1).bind fun bt401 => ((hopmeshlaw05_GeometryMoves_2.f a0_2 a0_3).bind fun bt403 => ((hopmeshlaw05_GeometryMoves_2.f a1_0 a1_1).bind fun bt405 => ((hopmeshlaw05_GeometryMoves_2.f a1_2 a1_3).bind fun bt407 => ((hopmeshlaw05_GeometryMoves_3.f bt405.1 bt405.2 bt407.1 bt407.2 a1_0 a1_1 a1_2 a1_3 a1_4).bind fun bt409 => ((geometry_Crosses.f k1 bt401.1 bt401.2 bt403.1 bt403.2 bt409.1 bt409.2.1 bt409.2.2.1 bt409.2.2.2.1 bt409.2.2.2.2).bind fun t414 => (some (t414 == t361)))))))) else (some false)))))))) else (some false)))) else (some false)) = some r := H
     have A94 := Aside0.mk A940
     clear A940
     by_cases c95 : (t380 == t361) = true
     rotate_left
     ·rw [if_neg c95] at H
      have c95b0 : (t380 == t361) = false := by simpa using c95
      (try (have c95b1 : decide (t380 = t361) = false := by simpa using c95))
      (try (have c95b2 : (t380 == t361) = false := by simpa using c95))
      (try (have c95b3 : ¬ (t380 = t361) := by simpa using c95))
      clear c95
      exact absurd (H.trans (congrArg some HRT.out)) (by simp)
     rw [if_pos c95] at H
     have c95b0 : (t380 == t361) = true := c95
     (try (have c95b1 : decide (t380 = t361) = true := by simpa using c95))
     (try (have c95b2 : (t380 == t361) = true := by simpa using c95))
     clear c95
     replace H := Option.bind_eq_some_iff.mp H
     obtain ⟨⟨t381, t382, t383, t384, t385⟩, A960, H⟩ := H
     replace H : ((geometry_Crosses.f k1 a1_0 a1_1 a1_2 a1_3 t381 t382 t383 t384 t385).bind fun t386 => (if (t386 == t361) = true then ((hopmeshlaw05_GeometryMoves_1.f a0_0 a0_1 a2_0 a2_1).bind fun bt387 => ((hopmeshlaw05_GeometryMoves_1.f a0_2 a0_3 a2_0 a2_1).bind fun bt389 => ((hopmeshlaw05_GeometryMoves_1.f a1_0 a1_1 a2_0 a2_1).bind fun bt391 => ((hopmeshlaw05_GeometryMoves_1.f a1_2 a1_3 a2_0 a2_1).bind fun bt393 => ((hopmeshlaw05_GeometryMoves_3.f bt391.1 bt391.2 bt393.1 bt393.2 a1_0 a1_1 a1_2 a1_3 a1_4).bind fun bt395 => ((geometry_Crosses.f k1 bt387.1 bt387.2 bt389.1 bt389.2 bt395.1 bt395.2.1 bt395.2.2.1 bt395.2.2.2.1 bt395.2.2.2.2).bind fun t400 => (if (t400 == t361) = true then ((hopmeshlaw05_GeometryMoves_2.f a0_0 a0_1).bind fun bt401 => ((hopmeshlaw05_GeometryMoves_2.f a0_2 a0_3).bind fun bt403 => ((hopmeshlaw05_GeometryMoves_2.f a1_0 a1_1).bind fun bt405 => ((hopmeshlaw05_GeometryMoves_2.f a1_2 a1_3).bind fun bt407 => ((hopmeshlaw05_GeometryMoves_3.f bt405.1 bt405.2 bt407.1 bt407.2 a1_0 a1_1 a1_2 a1_3 a1_4).bind fun bt409 => ((geometry_Crosses.f k1 bt401.1 bt401.2 bt403.1 bt403.2 bt409.1 bt409.2.1 bt409.2.2.1 bt409.2.2.2.1 bt409.2.2.2.2).bind fun t414 => (some (t414 == t361)))))))) else (some false)))))))) else (some false))) = some r := H
     have A96 := Aside0.mk A960
     clear A960
     replace H := Option.bind_eq_some_iff.mp H
     obtain ⟨t386, A970, H⟩ := H
     replace H : (if (t386 == t361) = true then ((hopmeshlaw05_GeometryMoves_1.f a0_0 a0_1 a2_0 a2_1).bind fun bt387 => ((hopmeshlaw05_GeometryMoves_1.f a0_2 a0_3 a2_0 a2_1).bind fun bt389 => ((hopmeshlaw05_GeometryMoves_1.f a1_0 a1_1 a2_0 a2_1).bind fun bt391 => ((hopmeshlaw05_GeometryMoves_1.f a1_2 a1_3 a2_0 a2_1).bind fun bt393 => ((hopmeshlaw05_GeometryMoves_3.f bt391.1 bt391.2 bt393.1 bt393.2 a1_0 a1_1 a1_2 a1_3 a1_4).bind fun bt395 => ((geometry_Crosses.f k1 bt387.1 bt387.2 bt389.1 bt389.2 bt395.1 bt395.2.1 bt395.2.2.1 bt395.2.2.2.1 bt395.2.2.2.2).bind fun t400 => (if (t400 == t361) = true then ((hopmeshlaw05_GeometryMoves_2.f a0_0 a0_1).bind fun bt401 => ((hopmeshlaw05_GeometryMoves_2.f a0_2 a0_3).bind fun bt403 => ((hopmeshlaw05_GeometryMoves_2.f a1_0 a1_1).bind fun bt405 => ((hopmeshlaw05_GeometryMoves_2.f a1_2 a1_3).bind fun bt407 => ((hopmeshlaw05_GeometryMoves_3.f bt405.1 bt405.2 bt407.1 bt407.2 a1_0 a1_1 a1_2 a1_3 a1_4).bind fun bt409 => ((geometry_Crosses.f k1 bt401.1 bt401.2 bt403.1 bt403.2 bt409.1 bt409.2.1 bt409.2.2.1 bt409.2.2.2.1 bt409.2.2.2.2).bind fun t414 => (some (t414 == t361)))))))) else (some false)))))))) else (some false)) = some r := H
     have A97 := Aside0.mk A970
     clear A970
     by_cases c98 : (t386 == t361) = true
     rotate_left
     ·rw [if_neg c98] at H
      have c98b0 : (t386 == t361) = false := by simpa using c98
      (try (have c98b1 : decide (t386 = t361) = false := by simpa using c98))
      (try (have c98b2 : (t386 == t361) = false := by simpa using c98))
      (try (have c98b3 : ¬ (t386 = t361) := by simpa using c98))
      clear c98
      exact absurd (H.trans (congrArg some HRT.out)) (by simp)
     rw [if_pos c98] at H
     have c98b0 : (t386 == t361) = true := c98
     (try (have c98b1 : decide (t386 = t361) = true := by simpa using c98))
     (try (have c98b2 : (t386 == t361) = true := by simpa using c98))
     clear c98
     replace H := Option.bind_eq_some_iff.mp H
     obtain ⟨⟨t387, t388⟩, A990, H⟩ := H
     replace H : ((hopmeshlaw05_GeometryMoves_1.f a0_2 a0_3 a2_0 a2_1).bind fun bt389 => ((hopmeshlaw05_GeometryMoves_1.f a1_0 a1_1 a2_0 a2_1).bind fun bt391 => ((hopmeshlaw05_GeometryMoves_1.f a1_2 a1_3 a2_0 a2_1).bind fun bt393 => ((hopmeshlaw05_GeometryMoves_3.f bt391.1 bt391.2 bt393.1 bt393.2 a1_0 a1_1 a1_2 a1_3 a1_4).bind fun bt395 => ((geometry_Crosses.f k1 t387 t388 bt389.1 bt389.2 bt395.1 bt395.2.1 bt395.2.2.1 bt395.2.2.2.1 bt395.2.2.2.2).bind fun t400 => (if (t400 == t361) = true then ((hopmeshlaw05_GeometryMoves_2.f a0_0 a0_1).bind fun bt401 => ((hopmeshlaw05_GeometryMoves_2.f a0_2 a0_3).bind fun bt403 => ((hopmeshlaw05_GeometryMoves_2.f a1_0 a1_1).bind fun bt405 => ((hopmeshlaw05_GeometryMoves_2.f a1_2 a1_3).bind fun bt407 => ((hopmeshlaw05_GeometryMoves_3.f bt405.1 bt405.2 bt407.1 bt407.2 a1_0 a1_1 a1_2 a1_3 a1_4).bind fun bt409 => ((geometry_Crosses.f k1 bt401.1 bt401.2 bt403.1 bt403.2 bt409.1 bt409.2.1 bt409.2.2.1 bt409.2.2.2.1 bt409.2.2.2.2).bind fun t414 => (some (t414 == t361)))))))) else (some false))))))) = some r := H
     have A99 := Aside0.mk A990
     clear A990
     replace H := Option.bind_eq_some_iff.mp H
     obtain ⟨⟨t389, t390⟩, A1000, H⟩ := H
     replace H : ((hopmeshlaw05_GeometryMoves_1.f a1_0 a1_1 a2_0 a2_1).bind fun bt391 => ((hopmeshlaw05_GeometryMoves_1.f a1_2 a1_3 a2_0 a2_1).bind fun bt393 => ((hopmeshlaw05_GeometryMoves_3.f bt391.1 bt391.2 bt393.1 bt393.2 a1_0 a1_1 a1_2 a1_3 a1_4).bind fun bt395 => ((geometry_Crosses.f k1 t387 t388 t389 t390 bt395.1 bt395.2.1 bt395.2.2.1 bt395.2.2.2.1 bt395.2.2.2.2).bind fun t400 => (if (t400 == t361) = true then ((hopmeshlaw05_GeometryMoves_2.f a0_0 a0_1).bind fun bt401 => ((hopmeshlaw05_GeometryMoves_2.f a0_2 a0_3).bind fun bt403 => ((hopmeshlaw05_GeometryMoves_2.f a1_0 a1_1).bind fun bt405 => ((hopmeshlaw05_GeometryMoves_2.f a1_2 a1_3).bind fun bt407 => ((hopmeshlaw05_GeometryMoves_3.f bt405.1 bt405.2 bt407.1 bt407.2 a1_0 a1_1 a1_2 a1_3 a1_4).bind fun bt409 => ((geometry_Crosses.f k1 bt401.1 bt401.2 bt403.1 bt403.2 bt409.1 bt409.2.1 bt409.2.2.1 bt409.2.2.2.1 bt409.2.2.2.2).bind fun t414 => (some (t414 == t361)))))))) else (some false)))))) = some r := H
     have A100 := Aside0.mk A1000
     clear A1000
     replace H := Option.bind_eq_some_iff.mp H
     obtain ⟨⟨t391, t392⟩, A1010, H⟩ := H
     replace H : ((hopmeshlaw05_GeometryMoves_1.f a1_2 a1_3 a2_0 a2_1).bind fun bt393 => ((hopmeshlaw05_GeometryMoves_3.f t391 t392 bt393.1 bt393.2 a1_0 a1_1 a1_2 a1_3 a1_4).bind fun bt395 => ((geometry_Crosses.f k1 t387 t388 t389 t390 bt395.1 bt395.2.1 bt395.2.2.1 bt395.2.2.2.1 bt395.2.2.2.2).bind fun t400 => (if (t400 == t361) = true then ((hopmeshlaw05_GeometryMoves_2.f a0_0 a0_1).bind fun bt401 => ((hopmeshlaw05_GeometryMoves_2.f a0_2 a0_3).bind fun bt403 => ((hopmeshlaw05_GeometryMoves_2.f a1_0 a1_1).bind fun bt405 => ((hopmeshlaw05_GeometryMoves_2.f a1_2 a1_3).bind fun bt407 => ((hopmeshlaw05_GeometryMoves_3.f bt405.1 bt405.2 bt407.1 bt407.2 a1_0 a1_1 a1_2 a1_3 a1_4).bind fun bt409 => ((geometry_Crosses.f k1 bt401.1 bt401.2 bt403.1 bt403.2 bt409.1 bt409.2.1 bt409.2.2.1 bt409.2.2.2.1 bt409.2.2.2.2).bind fun t414 => (some (t414 == t361)))))))) else (some false))))) = some r := H
     have A101 := Aside0.mk A1010
     clear A1010
     replace H := Option.bind_eq_some_iff.mp H
     obtain ⟨⟨t393, t394⟩, A1020, H⟩ := H
     replace H : ((hopmeshlaw05_GeometryMoves_3.f t391 t392 t393 t394 a1_0 a1_1 a1_2 a1_3 a1_4).bind fun bt395 => ((geometry_Crosses.f k1 t387 t388 t389 t390 bt395.1 bt395.2.1 bt395.2.2.1 bt395.2.2.2.1 bt395.2.2.2.2).bind fun t400 => (if (t400 == t361) = true then ((hopmeshlaw05_GeometryMoves_2.f a0_0 a0_1).bind fun bt401 => ((hopmeshlaw05_GeometryMoves_2.f a0_2 a0_3).bind fun bt403 => ((hopmeshlaw05_GeometryMoves_2.f a1_0 a1_1).bind fun bt405 => ((hopmeshlaw05_GeometryMoves_2.f a1_2 a1_3).bind fun bt407 => ((hopmeshlaw05_GeometryMoves_3.f bt405.1 bt405.2 bt407.1 bt407.2 a1_0 a1_1 a1_2 a1_3 a1_4).bind fun bt409 => ((geometry_Crosses.f k1 bt401.1 bt401.2 bt403.1 bt403.2 bt409.1 bt409.2.1 bt409.2.2.1 bt409.2.2.2.1 bt409.2.2.2.2).bind fun t414 => (some (t414 == t361)))))))) else (some false)))) = some r := H
     have A102 := Aside0.mk A1020
     clear A1020
     replace H := Option.bind_eq_some_iff.mp H
     obtain ⟨⟨t395, t396, t397, t398, t399⟩, A1030, H⟩ := H
     replace H : ((geometry_Crosses.f k1 t387 t388 t389 t390 t395 t396 t397 t398 t399).bind fun t400 => (if (t400 == t361) = true then ((hopmeshlaw05_GeometryMoves_2.f a0_0 a0_1).bind fun bt401 => ((hopmeshlaw05_GeometryMoves_2.f a0_2 a0_3).bind fun bt403 => ((hopmeshlaw05_GeometryMoves_2.f a1_0 a1_1).bind fun bt405 => ((hopmeshlaw05_GeometryMoves_2.f a1_2 a1_3).bind fun bt407 => ((hopmeshlaw05_GeometryMoves_3.f bt405.1 bt405.2 bt407.1 bt407.2 a1_0 a1_1 a1_2 a1_3 a1_4).bind fun bt409 => ((geometry_Crosses.f k1 bt401.1 bt401.2 bt403.1 bt403.2 bt409.1 bt409.2.1 bt409.2.2.1 bt409.2.2.2.1 bt409.2.2.2.2).bind fun t414 => (some (t414 == t361)))))))) else (some false))) = some r := H
     have A103 := Aside0.mk A1030
     clear A1030
     replace H := Option.bind_eq_some_iff.mp H
     obtain ⟨t400, A1040, H⟩ := H
     replace H : (if (t400 == t361) = true then ((hopmeshlaw05_GeometryMoves_2.f a0_0 a0_1).bind fun bt401 => ((hopmeshlaw05_GeometryMoves_2.f a0_2 a0_3).bind fun bt403 => ((hopmeshlaw05_GeometryMoves_2.f a1_0 a1_1).bind fun bt405 => ((hopmeshlaw05_GeometryMoves_2.f a1_2 a1_3).bind fun bt407 => ((hopmeshlaw05_GeometryMoves_3.f bt405.1 bt405.2 bt407.1 bt407.2 a1_0 a1_1 a1_2 a1_3 a1_4).bind fun bt409 => ((geometry_Crosses.f k1 bt401.1 bt401.2 bt403.1 bt403.2 bt409.1 bt409.2.1 bt409.2.2.1 bt409.2.2.2.1 bt409.2.2.2.2).bind fun t414 => (some (t414 == t361)))))))) else (some false)) = some r := H
     have A104 := Aside0.mk A1040
     clear A1040
     by_cases c105 : (t400 == t361) = true
     rotate_left
     ·rw [if_neg c105] at H
      have c105b0 : (t400 == t361) = false := by simpa using c105
      (try (have c105b1 : decide (t400 = t361) = false := by simpa using c105))
      (try (have c105b2 : (t400 == t361) = false := by simpa using c105))
      (try (have c105b3 : ¬ (t400 = t361) := by simpa using c105))
      clear c105
      exact absurd (H.trans (congrArg some HRT.out)) (by simp)
     rw [if_pos c105] at H
     have c105b0 : (t400 == t361) = true := c105
     (try (have c105b1 : decide (t400 = t361) = true := by simpa using c105))
     (try (have c105b2 : (t400 == t361) = true := by simpa using c105))
     clear c105
     replace H := Option.bind_eq_some_iff.mp H
     obtain ⟨⟨t401, t402⟩, A1060, H⟩ := H
     replace H : ((hopmeshlaw05_GeometryMoves_2.f a0_2 a0_3).bind fun bt403 => ((hopmeshlaw05_GeometryMoves_2.f a1_0 a1_1).bind fun bt405 => ((hopmeshlaw05_GeometryMoves_2.f a1_2 a1_3).bind fun bt407 => ((hopmeshlaw05_GeometryMoves_3.f bt405.1 bt405.2 bt407.1 bt407.2 a1_0 a1_1 a1_2 a1_3 a1_4).bind fun bt409 => ((geometry_Crosses.f k1 t401 t402 bt403.1 bt403.2 bt409.1 bt409.2.1 bt409.2.2.1 bt409.2.2.2.1 bt409.2.2.2.2).bind fun t414 => (some (t414 == t361))))))) = some r := H
     have A106 := Aside0.mk A1060
     clear A1060
     replace H := Option.bind_eq_some_iff.mp H
     obtain ⟨⟨t403, t404⟩, A1070, H⟩ := H
     replace H : ((hopmeshlaw05_GeometryMoves_2.f a1_0 a1_1).bind fun bt405 => ((hopmeshlaw05_GeometryMoves_2.f a1_2 a1_3).bind fun bt407 => ((hopmeshlaw05_GeometryMoves_3.f bt405.1 bt405.2 bt407.1 bt407.2 a1_0 a1_1 a1_2 a1_3 a1_4).bind fun bt409 => ((geometry_Crosses.f k1 t401 t402 t403 t404 bt409.1 bt409.2.1 bt409.2.2.1 bt409.2.2.2.1 bt409.2.2.2.2).bind fun t414 => (some (t414 == t361)))))) = some r := H
     have A107 := Aside0.mk A1070
     clear A1070
     replace H := Option.bind_eq_some_iff.mp H
     obtain ⟨⟨t405, t406⟩, A1080, H⟩ := H
     replace H : ((hopmeshlaw05_GeometryMoves_2.f a1_2 a1_3).bind fun bt407 => ((hopmeshlaw05_GeometryMoves_3.f t405 t406 bt407.1 bt407.2 a1_0 a1_1 a1_2 a1_3 a1_4).bind fun bt409 => ((geometry_Crosses.f k1 t401 t402 t403 t404 bt409.1 bt409.2.1 bt409.2.2.1 bt409.2.2.2.1 bt409.2.2.2.2).bind fun t414 => (some (t414 == t361))))) = some r := H
     have A108 := Aside0.mk A1080
     clear A1080
     replace H := Option.bind_eq_some_iff.mp H
     obtain ⟨⟨t407, t408⟩, A1090, H⟩ := H
     replace H : ((hopmeshlaw05_GeometryMoves_3.f t405 t406 t407 t408 a1_0 a1_1 a1_2 a1_3 a1_4).bind fun bt409 => ((geometry_Crosses.f k1 t401 t402 t403 t404 bt409.1 bt409.2.1 bt409.2.2.1 bt409.2.2.2.1 bt409.2.2.2.2).bind fun t414 => (some (t414 == t361)))) = some r := H
     have A109 := Aside0.mk A1090
     clear A1090
     replace H := Option.bind_eq_some_iff.mp H
     obtain ⟨⟨t409, t410, t411, t412, t413⟩, A1100, H⟩ := H
     replace H : ((geometry_Crosses.f k1 t401 t402 t403 t404 t409 t410 t411 t412 t413).bind fun t414 => (some (t414 == t361))) = some r := H
     have A110 := Aside0.mk A1100
     clear A1100
     replace H := Option.bind_eq_some_iff.mp H
     obtain ⟨t414, A1110, H⟩ := H
     replace H : (some (t414 == t361)) = some r := H
     have A111 := Aside0.mk A1110
     clear A1110
     obtain rfl := Option.some.inj H
     try go_wp2
     replace HO_29 := Aside0.mk (Kd.R_drew HO_29.out)
     replace BK350 := Aside0.mk (bkD BK350.out)
     replace BK351 := Aside0.mk (bkD BK351.out)
     replace BK352 := Aside0.mk (bkD BK352.out)
     replace BK354 := Aside0.mk (bkD BK354.out)
     replace BK355 := Aside0.mk (bkD BK355.out)
     replace HB := Aside0.mk (blD HB.out)
     refine start_ (n := 9) (S := fun w' => w'.cell? ⟨gb354, 0, none⟩ = some (.int .i64 a0_0) ∧ w'.cell? ⟨gb354, 1, none⟩ = some (.int .i64 a0_1) ∧ w'.cell? ⟨gb355, 0, none⟩ = some (.int .i64 a0_2) ∧ w'.cell? ⟨gb355, 1, none⟩ = some (.int .i64 a0_3) ∧ w'.cell? ⟨gb351, 0, none⟩ = some (.int .i64 a1_0) ∧ w'.cell? ⟨gb351, 1, none⟩ = some (.int .i64 a1_1) ∧ w'.cell? ⟨gb351, 2, none⟩ = some (.int .i64 a1_2) ∧ w'.cell? ⟨gb351, 3, none⟩ = some (.int .i64 a1_3) ∧ w'.cell? ⟨gb351, 4, none⟩ = some (.int .i64 a1_4)) (ds := []) #[false,false,false,false,false,false,false,false,false] (by kernel_rfl) rfl rfl ⟨(bkC BK354.out 0).trans rfl, (bkC BK354.out 1).trans rfl, (bkC BK355.out 0).trans rfl, (bkC BK355.out 1).trans rfl, (bkC BK351.out 0).trans rfl, (bkC BK351.out 1).trans rfl, (bkC BK351.out 2).trans rfl, (bkC BK351.out 3).trans rfl, (bkC BK351.out 4).trans rfl⟩ (fun hHeld => ?_); refine with_tabW hopmeshlaw05_GeometryMoves.tab10 hopmeshlaw05_GeometryMoves.bits10 (fun HT_ HW_ => ?_)
     generalize wr.drew = w112 at HO_29 BK350 BK351 BK352 BK354 BK355 HB hHeld ⊢
     refine take_ (i := 0) (N := some 54) (v := ?_) (a' := ?_) #[true,false,false,false,false,false,false,false,false] rfl rfl (take_ofW HT_.out HW_.out (by kernel_rfl)) (fun _ _ _ h => h) (Or.inl ⟨by rfl, ?_⟩) hHeld ?_ ?_
     rotate_left
     ·rintro w' ⟨s0, s1, s2, s3, s4, s5, s6, s7, s8⟩
      go_simp
      with_reducible rfl
     rotate_left
     ·simp only [Act.put, List.setIfInBounds_toArray, List.set_cons_zero, List.set_cons_succ, i64_w, i32_w]
      rfl
     refine take_ (i := 1) (N := some 55) (v := ?_) (a' := ?_) #[true,true,false,false,false,false,false,false,false] rfl rfl (take_ofW HT_.out HW_.out (by kernel_rfl)) (fun _ _ _ h => h) (Or.inl ⟨by rfl, ?_⟩) hHeld ?_ ?_
     rotate_left
     ·rintro w' ⟨s0, s1, s2, s3, s4, s5, s6, s7, s8⟩
      go_simp
      with_reducible rfl
     rotate_left
     ·simp only [Act.put, List.setIfInBounds_toArray, List.set_cons_zero, List.set_cons_succ, i64_w, i32_w]
      rfl
     refine take_ (i := 2) (N := some 56) (v := ?_) (a' := ?_) #[true,true,true,false,false,false,false,false,false] rfl rfl (take_ofW HT_.out HW_.out (by kernel_rfl)) (fun _ _ _ h => h) (Or.inl ⟨by rfl, ?_⟩) hHeld ?_ ?_
     rotate_left
     ·rintro w' ⟨s0, s1, s2, s3, s4, s5, s6, s7, s8⟩
      go_simp
      with_reducible rfl
     rotate_left
     ·simp only [Act.put, List.setIfInBounds_toArray, List.set_cons_zero, List.set_cons_succ, i64_w, i32_w]
      rfl
     refine take_ (i := 4) (N := some 58) (v := ?_) (a' := ?_) #[true,true,true,false,true,false,false,false,false] rfl rfl (take_ofW HT_.out HW_.out (by kernel_rfl)) (fun _ _ _ h => h) (Or.inl ⟨by rfl, ?_⟩) hHeld ?_ ?_
     rotate_left
     ·rintro w' ⟨s0, s1, s2, s3, s4, s5, s6, s7, s8⟩
      go_simp
      with_reducible rfl
     rotate_left
     ·simp only [Act.put, List.setIfInBounds_toArray, List.set_cons_zero, List.set_cons_succ, i64_w, i32_w]
      rfl
     refine take_ (i := 5) (N := some 59) (v := ?_) (a' := ?_) #[true,true,true,false,true,true,false,false,false] rfl rfl (take_ofW HT_.out HW_.out (by kernel_rfl)) (fun _ _ _ h => h) (Or.inl ⟨by rfl, ?_⟩) hHeld ?_ ?_
     rotate_left
     ·rintro w' ⟨s0, s1, s2, s3, s4, s5, s6, s7, s8⟩
      go_simp
      with_reducible rfl
     rotate_left
     ·simp only [Act.put, List.setIfInBounds_toArray, List.set_cons_zero, List.set_cons_succ, i64_w, i32_w]
      rfl
     refine one_ (i := 3) (N := some 57) #[true,true,true,true,true,true,false,false,false] rfl rfl (one_of HT_.out (by kernel_rfl)) (by decide) (fun K hK => ?_)
     refine goes_ Try.func27 (by kernel_rfl) rfl #[.agg #[.int .i64 a0_0, .int .i64 a0_1], .agg #[.int .i64 a0_2, .int .i64 a0_3], .agg #[.int .i64 a1_0, .int .i64 a1_1, .int .i64 a1_2, .int .i64 a1_3, .int .i64 a1_4]] (by rfl) rfl rfl (by (try simp only [List.map_toArray, List.map_cons, List.map_nil]); first | done | rfl | (simp only [List.length_drop, List.length_take]; rfl)) ?_
     with_reducible refine (geometry_Crosses.calls k1 a0_0 a0_1 a0_2 a0_3 a1_0 a1_1 a1_2 a1_3 a1_4 t361 _ A77.out).mono ?_
     rintro e w113 ⟨rfl, hb⟩
     refine ⟨_, rfl, ?_⟩
     replace HO_29 := Aside0.mk (Kd.R_below (by (with_reducible repeat (first | apply Kd.R_alloc | apply Kd.R_drewN | apply Kd.R_drew)); exact HO_29.out) hb)
     replace BK350 := Aside0.mk (bkB (g := gb350) (o := .cells #[.int .i64 a0_0, .int .i64 a0_1, .int .i64 a0_2, .int .i64 a0_3] 51 (0, 0)) (by (with_reducible repeat (first | refine bkN ?_ _ | refine bkD ?_ | refine bkA ?_ _)); exact BK350.out) hb)
     replace BK351 := Aside0.mk (bkB (g := gb351) (o := .cells #[.int .i64 a1_0, .int .i64 a1_1, .int .i64 a1_2, .int .i64 a1_3, .int .i64 a1_4] 47 (0, 0)) (by (with_reducible repeat (first | refine bkN ?_ _ | refine bkD ?_ | refine bkA ?_ _)); exact BK351.out) hb)
     replace BK352 := Aside0.mk (bkB (g := gb352) (o := .cells #[.int .i64 a2_0, .int .i64 a2_1] 28 (0, 0)) (by (with_reducible repeat (first | refine bkN ?_ _ | refine bkD ?_ | refine bkA ?_ _)); exact BK352.out) hb)
     replace BK354 := Aside0.mk (bkB (g := gb354) (o := .cells #[.int .i64 a0_0, .int .i64 a0_1] 28 (0, 0)) (by (with_reducible repeat (first | refine bkN ?_ _ | refine bkD ?_ | refine bkA ?_ _)); exact BK354.out) hb)
     replace BK355 := Aside0.mk (bkB (g := gb355) (o := .cells #[.int .i64 a0_2, .int .i64 a0_3] 28 (0, 0)) (by (with_reducible repeat (first | refine bkN ?_ _ | refine bkD ?_ | refine bkA ?_ _)); exact BK355.out) hb)
     replace HB := Aside0.mk (below_step (by repeat (first | (with_reducible first | exact HB.out | apply blA | apply blN | apply blD | refine blS ?_ GE350.out | refine blS ?_ GE351.out | refine blS ?_ GE352.out | refine blS ?_ GE354.out | refine blS ?_ GE355.out) | exact HB.out)) hb)
     (try clear hb)
     refine hK.out _ _ ⟨(bkC BK354.out 0).trans rfl, (bkC BK354.out 1).trans rfl, (bkC BK355.out 0).trans rfl, (bkC BK355.out 1).trans rfl, (bkC BK351.out 0).trans rfl, (bkC BK351.out 1).trans rfl, (bkC BK351.out 2).trans rfl, (bkC BK351.out 3).trans rfl, (bkC BK351.out 4).trans rfl⟩ (fun hHeld => ?_)
     clear hK K
     refine norm_ (a' := ?_) ?_ ?_
     rotate_left
     ·show Act.put _ (some 57) _ = _
      simp only [Act.put, List.setIfInBounds_toArray, List.set_cons_zero, List.set_cons_succ, i64_w, i32_w]
      rfl
     refine one_ (i := 6) (N := some 60) #[true,true,true,true,true,true,true,false,false] rfl rfl (one_of HT_.out (by kernel_rfl)) (by decide) (fun K hK => ?_)
     refine goes_ Try.func25 (by kernel_rfl) rfl #[.agg #[.int .i64 a0_0, .int .i64 a0_1], .agg #[.int .i64 a0_2, .int .i64 a0_3]] (by rfl) rfl rfl (by (try simp only [List.map_toArray, List.map_cons, List.map_nil]); first | done | rfl | (simp only [List.length_drop, List.length_take]; rfl)) ?_
     with_reducible refine (geometry_Square.calls a0_0 a0_1 a0_2 a0_3 t362 _ A78.out).mono ?_
     rintro e w114 ⟨rfl, hb⟩
     refine ⟨_, rfl, ?_⟩
     replace HO_29 := Aside0.mk (Kd.R_below (by (with_reducible repeat (first | apply Kd.R_alloc | apply Kd.R_drewN | apply Kd.R_drew)); exact HO_29.out) hb)
     replace BK350 := Aside0.mk (bkB (g := gb350) (o := .cells #[.int .i64 a0_0, .int .i64 a0_1, .int .i64 a0_2, .int .i64 a0_3] 51 (0, 0)) (by (with_reducible repeat (first | refine bkN ?_ _ | refine bkD ?_ | refine bkA ?_ _)); exact BK350.out) hb)
     replace BK351 := Aside0.mk (bkB (g := gb351) (o := .cells #[.int .i64 a1_0, .int .i64 a1_1, .int .i64 a1_2, .int .i64 a1_3, .int .i64 a1_4] 47 (0, 0)) (by (with_reducible repeat (first | refine bkN ?_ _ | refine bkD ?_ | refine bkA ?_ _)); exact BK351.out) hb)
     replace BK352 := Aside0.mk (bkB (g := gb352) (o := .cells #[.int .i64 a2_0, .int .i64 a2_1] 28 (0, 0)) (by (with_reducible repeat (first | refine bkN ?_ _ | refine bkD ?_ | refine bkA ?_ _)); exact BK352.out) hb)
     replace BK354 := Aside0.mk (bkB (g := gb354) (o := .cells #[.int .i64 a0_0, .int .i64 a0_1] 28 (0, 0)) (by (with_reducible repeat (first | refine bkN ?_ _ | refine bkD ?_ | refine bkA ?_ _)); exact BK354.out) hb)
     replace BK355 := Aside0.mk (bkB (g := gb355) (o := .cells #[.int .i64 a0_2, .int .i64 a0_3] 28 (0, 0)) (by (with_reducible repeat (first | refine bkN ?_ _ | refine bkD ?_ | refine bkA ?_ _)); exact BK355.out) hb)
     replace HB := Aside0.mk (below_step (by repeat (first | (with_reducible first | exact HB.out | apply blA | apply blN | apply blD | refine blS ?_ GE350.out | refine blS ?_ GE351.out | refine blS ?_ GE352.out | refine blS ?_ GE354.out | refine blS ?_ GE355.out) | exact HB.out)) hb)
     (try clear hb)
     refine hK.out _ _ ⟨(bkC BK354.out 0).trans rfl, (bkC BK354.out 1).trans rfl, (bkC BK355.out 0).trans rfl, (bkC BK355.out 1).trans rfl, (bkC BK351.out 0).trans rfl, (bkC BK351.out 1).trans rfl, (bkC BK351.out 2).trans rfl, (bkC BK351.out 3).trans rfl, (bkC BK351.out 4).trans rfl⟩ (fun hHeld => ?_)
     clear hK K
     refine norm_ (a' := ?_) ?_ ?_
     rotate_left
     ·show Act.put _ (some 60) _ = _
      simp only [Act.put, List.setIfInBounds_toArray, List.set_cons_zero, List.set_cons_succ, i64_w, i32_w]
      rfl
     refine pure_ (i := 7) (N := some 11) (v := ?_) (a' := ?_) #[true,true,true,true,true,true,true,true,false] rfl rfl (any_of HT_.out (by kernel_rfl)) (fun _ _ _ h => h) (Or.inl ⟨by rfl, ?_⟩) ?_ ?_
     rotate_left
     ·intro w'
      go_simp
      with_reducible rfl
     rotate_left
     ·simp only [Act.put, List.setIfInBounds_toArray, List.set_cons_zero, List.set_cons_succ, i64_w, i32_w]
      rfl
     refine pure_ (i := 8) (N := some 12) (v := ?_) (a' := ?_) #[true,true,true,true,true,true,true,true,true] rfl rfl (any_of HT_.out (by kernel_rfl)) (fun _ _ _ h => h) (Or.inl ⟨by rfl, ?_⟩) ?_ ?_
     rotate_left
     ·intro w'
      go_simp
      with_reducible rfl
     rotate_left
     ·simp only [Act.put, List.setIfInBounds_toArray, List.set_cons_zero, List.set_cons_succ, i64_w, i32_w]
      rfl
     refine done_ (done_of HT_.out (by kernel_rfl)) ?_
     try go_wp2
     replace HO_29 := Aside0.mk (Kd.R_drew HO_29.out)
     replace BK350 := Aside0.mk (bkD BK350.out)
     replace BK351 := Aside0.mk (bkD BK351.out)
     replace BK352 := Aside0.mk (bkD BK352.out)
     replace BK354 := Aside0.mk (bkD BK354.out)
     replace BK355 := Aside0.mk (bkD BK355.out)
     replace HB := Aside0.mk (blD HB.out)
     refine start_ (n := 39) (S := fun w' => w'.cell? ⟨gb354, 0, none⟩ = some (.int .i64 a0_0) ∧ w'.cell? ⟨gb354, 1, none⟩ = some (.int .i64 a0_1) ∧ w'.cell? ⟨gb355, 0, none⟩ = some (.int .i64 a0_2) ∧ w'.cell? ⟨gb355, 1, none⟩ = some (.int .i64 a0_3)) (ds := []) #[false,false,false,false,false,false,false,false,false,false,false,false,false,false,false,false,false,false,false,false,false,false,false,false,false,false,false,false,false,false,false,false,false,false,false,false,false,false,false] (by kernel_rfl) rfl rfl ⟨(bkC BK354.out 0).trans rfl, (bkC BK354.out 1).trans rfl, (bkC BK355.out 0).trans rfl, (bkC BK355.out 1).trans rfl⟩ (fun hHeld => ?_); refine with_tabW hopmeshlaw05_GeometryMoves.tab14 hopmeshlaw05_GeometryMoves.bits14 (fun HT_ HW_ => ?_)
     generalize w114.drew = w115 at HO_29 BK350 BK351 BK352 BK354 BK355 HB hHeld ⊢
     refine pure_ (i := 0) (N := some 63) (v := ?_) (a' := ?_) #[true,false,false,false,false,false,false,false,false,false,false,false,false,false,false,false,false,false,false,false,false,false,false,false,false,false,false,false,false,false,false,false,false,false,false,false,false,false,false] rfl rfl (any_of HT_.out (by kernel_rfl)) (fun _ _ _ h => h) (Or.inl ⟨by rfl, ?_⟩) ?_ ?_
     rotate_left
     ·intro w'
      go_simp
      with_reducible rfl
     rotate_left
     ·simp only [Act.put, List.setIfInBounds_toArray, List.set_cons_zero, List.set_cons_succ, i64_w, i32_w]
      rfl
     refine pure_ (i := 1) (N := some 64) (v := ?_) (a' := ?_) #[true,true,false,false,false,false,false,false,false,false,false,false,false,false,false,false,false,false,false,false,false,false,false,false,false,false,false,false,false,false,false,false,false,false,false,false,false,false,false] rfl rfl (any_of HT_.out (by kernel_rfl)) (fun _ _ _ h => h) (Or.inl ⟨by rfl, ?_⟩) ?_ ?_
     rotate_left
     ·intro w'
      go_simp
      with_reducible rfl
     rotate_left
     ·simp only [Act.put, List.setIfInBounds_toArray, List.set_cons_zero, List.set_cons_succ, i64_w, i32_w]
      rfl
     refine pure_ (i := 2) (N := some 65) (v := ?_) (a' := ?_) #[true,true,true,false,false,false,false,false,false,false,false,false,false,false,false,false,false,false,false,false,false,false,false,false,false,false,false,false,false,false,false,false,false,false,false,false,false,false,false] rfl rfl (any_of HT_.out (by kernel_rfl)) (fun _ _ _ h => h) (Or.inl ⟨by rfl, ?_⟩) ?_ ?_
     rotate_left
     ·intro w'
      go_simp
      with_reducible rfl
     rotate_left
     ·simp only [Act.put, List.setIfInBounds_toArray, List.set_cons_zero, List.set_cons_succ, i64_w, i32_w]
      rfl
     refine pure_ (i := 3) (N := some 66) (v := ?_) (a' := ?_) #[true,true,true,true,false,false,false,false,false,false,false,false,false,false,false,false,false,false,false,false,false,false,false,false,false,false,false,false,false,false,false,false,false,false,false,false,false,false,false] rfl rfl (any_of HT_.out (by kernel_rfl)) (fun _ _ _ h => h) (Or.inl ⟨by rfl, ?_⟩) ?_ ?_
     rotate_left
     ·intro w'
      go_simp
      with_reducible rfl
     rotate_left
     ·simp only [Act.put, List.setIfInBounds_toArray, List.set_cons_zero, List.set_cons_succ, i64_w, i32_w]
      rfl
     refine pure_ (i := 4) (N := some 67) (v := ?_) (a' := ?_) #[true,true,true,true,true,false,false,false,false,false,false,false,false,false,false,false,false,false,false,false,false,false,false,false,false,false,false,false,false,false,false,false,false,false,false,false,false,false,false] rfl rfl (any_of HT_.out (by kernel_rfl)) (fun _ _ _ h => h) (Or.inl ⟨by rfl, ?_⟩) ?_ ?_
     rotate_left
     ·intro w'
      go_simp
      with_reducible rfl
     rotate_left
     ·simp only [Act.put, List.setIfInBounds_toArray, List.set_cons_zero, List.set_cons_succ, i64_w, i32_w]
      rfl
     refine take_ (i := 5) (N := some 68) (v := ?_) (a' := ?_) #[true,true,true,true,true,true,false,false,false,false,false,false,false,false,false,false,false,false,false,false,false,false,false,false,false,false,false,false,false,false,false,false,false,false,false,false,false,false,false] rfl rfl (take_ofW HT_.out HW_.out (by kernel_rfl)) (fun _ _ _ h => h) (Or.inl ⟨by rfl, ?_⟩) hHeld ?_ ?_
     rotate_left
     ·rintro w' ⟨s0, s1, s2, s3⟩
      go_simp
      with_reducible rfl
     rotate_left
     ·simp only [Act.put, List.setIfInBounds_toArray, List.set_cons_zero, List.set_cons_succ, i64_w, i32_w]
      rfl
     refine take_ (i := 6) (N := some 69) (v := ?_) (a' := ?_) #[true,true,true,true,true,true,true,false,false,false,false,false,false,false,false,false,false,false,false,false,false,false,false,false,false,false,false,false,false,false,false,false,false,false,false,false,false,false,false] rfl rfl (take_ofW HT_.out HW_.out (by kernel_rfl)) (fun _ _ _ h => h) (Or.inl ⟨by rfl, ?_⟩) hHeld ?_ ?_
     rotate_left
     ·rintro w' ⟨s0, s1, s2, s3⟩
      go_simp
      with_reducible rfl
     rotate_left
     ·simp only [Act.put, List.setIfInBounds_toArray, List.set_cons_zero, List.set_cons_succ, i64_w, i32_w]
      rfl
     refine pure_ (i := 7) (N := some 70) (v := ?_) (a' := ?_) #[true,true,true,true,true,true,true,true,false,false,false,false,false,false,false,false,false,false,false,false,false,false,false,false,false,false,false,false,false,false,false,false,false,false,false,false,false,false,false] rfl rfl (any_of HT_.out (by kernel_rfl)) (fun _ _ _ h => h) (Or.inl ⟨by rfl, ?_⟩) ?_ ?_
     rotate_left
     ·intro w'
      go_simp
      with_reducible rfl
     rotate_left
     ·simp only [Act.put, List.setIfInBounds_toArray, List.set_cons_zero, List.set_cons_succ, i64_w, i32_w]
      rfl
     refine pure_ (i := 8) (N := some 71) (v := ?_) (a' := ?_) #[true,true,true,true,true,true,true,true,true,false,false,false,false,false,false,false,false,false,false,false,false,false,false,false,false,false,false,false,false,false,false,false,false,false,false,false,false,false,false] rfl rfl (any_of HT_.out (by kernel_rfl)) (fun _ _ _ h => h) (Or.inl ⟨by rfl, ?_⟩) ?_ ?_
     rotate_left
     ·intro w'
      go_simp
      with_reducible rfl
     rotate_left
     ·simp only [Act.put, List.setIfInBounds_toArray, List.set_cons_zero, List.set_cons_succ, i64_w, i32_w]
      rfl
     refine pure_ (i := 9) (N := some 72) (v := ?_) (a' := ?_) #[true,true,true,true,true,true,true,true,true,true,false,false,false,false,false,false,false,false,false,false,false,false,false,false,false,false,false,false,false,false,false,false,false,false,false,false,false,false,false] rfl rfl (any_of HT_.out (by kernel_rfl)) (fun _ _ _ h => h) (Or.inl ⟨by rfl, ?_⟩) ?_ ?_
     rotate_left
     ·intro w'
      go_simp
      with_reducible rfl
     rotate_left
     ·simp only [Act.put, List.setIfInBounds_toArray, List.set_cons_zero, List.set_cons_succ, i64_w, i32_w]
      rfl
     refine pure_ (i := 10) (N := some 73) (v := ?_) (a' := ?_) #[true,true,true,true,true,true,true,true,true,true,true,false,false,false,false,false,false,false,false,false,false,false,false,false,false,false,false,false,false,false,false,false,false,false,false,false,false,false,false] rfl rfl (any_of HT_.out (by kernel_rfl)) (fun _ _ _ h => h) (Or.inl ⟨by rfl, ?_⟩) ?_ ?_
     rotate_left
     ·intro w'
      go_simp
      with_reducible rfl
     rotate_left
     ·simp only [Act.put, List.setIfInBounds_toArray, List.set_cons_zero, List.set_cons_succ, i64_w, i32_w]
      rfl
     refine pure_ (i := 14) (N := some 77) (v := ?_) (a' := ?_) #[true,true,true,true,true,true,true,true,true,true,true,false,false,false,true,false,false,false,false,false,false,false,false,false,false,false,false,false,false,false,false,false,false,false,false,false,false,false,false] rfl rfl (any_of HT_.out (by kernel_rfl)) (fun _ _ _ h => h) (Or.inl ⟨by rfl, ?_⟩) ?_ ?_
     rotate_left
     ·intro w'
      go_simp
      with_reducible rfl
     rotate_left
     ·simp only [Act.put, List.setIfInBounds_toArray, List.set_cons_zero, List.set_cons_succ, i64_w, i32_w]
      rfl
     refine take_ (i := 11) (N := some 74) (v := ?_) (a' := ?_) #[true,true,true,true,true,true,true,true,true,true,true,true,false,false,true,false,false,false,false,false,false,false,false,false,false,false,false,false,false,false,false,false,false,false,false,false,false,false,false] rfl rfl (take_ofW HT_.out HW_.out (by kernel_rfl)) (fun _ _ _ h => h) (Or.inl ⟨by rfl, ?_⟩) hHeld ?_ ?_
     rotate_left
     ·rintro w' ⟨s0, s1, s2, s3⟩
      go_simp
      with_reducible rfl
     rotate_left
     ·simp only [Act.put, List.setIfInBounds_toArray, List.set_cons_zero, List.set_cons_succ, i64_w, i32_w]
      rfl
     refine take_ (i := 12) (N := some 75) (v := ?_) (a' := ?_) #[true,true,true,true,true,true,true,true,true,true,true,true,true,false,true,false,false,false,false,false,false,false,false,false,false,false,false,false,false,false,false,false,false,false,false,false,false,false,false] rfl rfl (take_ofW HT_.out HW_.out (by kernel_rfl)) (fun _ _ _ h => h) (Or.inl ⟨by rfl, ?_⟩) hHeld ?_ ?_
     rotate_left
     ·rintro w' ⟨s0, s1, s2, s3⟩
      go_simp
      with_reducible rfl
     rotate_left
     ·simp only [Act.put, List.setIfInBounds_toArray, List.set_cons_zero, List.set_cons_succ, i64_w, i32_w]
      rfl
     refine one_ (i := 13) (N := some 76) #[true,true,true,true,true,true,true,true,true,true,true,true,true,true,true,false,false,false,false,false,false,false,false,false,false,false,false,false,false,false,false,false,false,false,false,false,false,false,false] rfl rfl (one_of HT_.out (by kernel_rfl)) (by decide) (fun K hK => ?_)
     refine goes_ Try.func25 (by kernel_rfl) rfl #[.agg #[.int .i64 a0_2, .int .i64 a0_3], .agg #[.int .i64 a0_0, .int .i64 a0_1]] (by rfl) rfl rfl (by (try simp only [List.map_toArray, List.map_cons, List.map_nil]); first | done | rfl | (simp only [List.length_drop, List.length_take]; rfl)) ?_
     with_reducible refine (geometry_Square.calls a0_2 a0_3 a0_0 a0_1 t363 _ A81.out).mono ?_
     rintro e w116 ⟨rfl, hb⟩
     refine ⟨_, rfl, ?_⟩
     replace HO_29 := Aside0.mk (Kd.R_below (by (with_reducible repeat (first | apply Kd.R_alloc | apply Kd.R_drewN | apply Kd.R_drew)); exact HO_29.out) hb)
     replace BK350 := Aside0.mk (bkB (g := gb350) (o := .cells #[.int .i64 a0_0, .int .i64 a0_1, .int .i64 a0_2, .int .i64 a0_3] 51 (0, 0)) (by (with_reducible repeat (first | refine bkN ?_ _ | refine bkD ?_ | refine bkA ?_ _)); exact BK350.out) hb)
     replace BK351 := Aside0.mk (bkB (g := gb351) (o := .cells #[.int .i64 a1_0, .int .i64 a1_1, .int .i64 a1_2, .int .i64 a1_3, .int .i64 a1_4] 47 (0, 0)) (by (with_reducible repeat (first | refine bkN ?_ _ | refine bkD ?_ | refine bkA ?_ _)); exact BK351.out) hb)
     replace BK352 := Aside0.mk (bkB (g := gb352) (o := .cells #[.int .i64 a2_0, .int .i64 a2_1] 28 (0, 0)) (by (with_reducible repeat (first | refine bkN ?_ _ | refine bkD ?_ | refine bkA ?_ _)); exact BK352.out) hb)
     replace BK354 := Aside0.mk (bkB (g := gb354) (o := .cells #[.int .i64 a0_0, .int .i64 a0_1] 28 (0, 0)) (by (with_reducible repeat (first | refine bkN ?_ _ | refine bkD ?_ | refine bkA ?_ _)); exact BK354.out) hb)
     replace BK355 := Aside0.mk (bkB (g := gb355) (o := .cells #[.int .i64 a0_2, .int .i64 a0_3] 28 (0, 0)) (by (with_reducible repeat (first | refine bkN ?_ _ | refine bkD ?_ | refine bkA ?_ _)); exact BK355.out) hb)
     replace HB := Aside0.mk (below_step (by repeat (first | (with_reducible first | exact HB.out | apply blA | apply blN | apply blD | refine blS ?_ GE350.out | refine blS ?_ GE351.out | refine blS ?_ GE352.out | refine blS ?_ GE354.out | refine blS ?_ GE355.out) | exact HB.out)) hb)
     (try clear hb)
     refine hK.out _ _ ⟨(bkC BK354.out 0).trans rfl, (bkC BK354.out 1).trans rfl, (bkC BK355.out 0).trans rfl, (bkC BK355.out 1).trans rfl⟩ (fun hHeld => ?_)
     clear hK K
     refine norm_ (a' := ?_) ?_ ?_
     rotate_left
     ·show Act.put _ (some 76) _ = _
      simp only [Act.put, List.setIfInBounds_toArray, List.set_cons_zero, List.set_cons_succ, i64_w, i32_w]
      rfl
     refine pure_ (i := 15) (N := some 78) (v := ?_) (a' := ?_) #[true,true,true,true,true,true,true,true,true,true,true,true,true,true,true,true,false,false,false,false,false,false,false,false,false,false,false,false,false,false,false,false,false,false,false,false,false,false,false] rfl rfl (any_of HT_.out (by kernel_rfl)) (fun _ _ _ h => h) (Or.inl ⟨by rfl, ?_⟩) ?_ ?_
     rotate_left
     ·intro w'
      go_simp
      with_reducible rfl
     rotate_left
     ·simp only [Act.put, List.setIfInBounds_toArray, List.set_cons_zero, List.set_cons_succ, i64_w, i32_w]
      rfl
     refine pure_ (i := 16) (N := some 79) (v := ?_) (a' := ?_) #[true,true,true,true,true,true,true,true,true,true,true,true,true,true,true,true,true,false,false,false,false,false,false,false,false,false,false,false,false,false,false,false,false,false,false,false,false,false,false] rfl rfl (any_of HT_.out (by kernel_rfl)) (fun _ _ _ h => h) (Or.inl ⟨by rfl, ?_⟩) ?_ ?_
     rotate_left
     ·intro w'
      go_simp
      with_reducible rfl
     rotate_left
     ·simp only [Act.put, List.setIfInBounds_toArray, List.set_cons_zero, List.set_cons_succ, i64_w, i32_w]
      rfl
     refine pure_ (i := 17) (N := some 80) (v := ?_) (a' := ?_) #[true,true,true,true,true,true,true,true,true,true,true,true,true,true,true,true,true,true,false,false,false,false,false,false,false,false,false,false,false,false,false,false,false,false,false,false,false,false,false] rfl rfl (any_of HT_.out (by kernel_rfl)) (fun _ _ _ h => h) (Or.inl ⟨by rfl, ?_⟩) ?_ ?_
     rotate_left
     ·intro w'
      go_simp
      with_reducible rfl
     rotate_left
     ·simp only [Act.put, List.setIfInBounds_toArray, List.set_cons_zero, List.set_cons_succ, i64_w, i32_w]
      rfl
     refine pure_ (i := 18) (N := some 81) (v := ?_) (a' := ?_) #[true,true,true,true,true,true,true,true,true,true,true,true,true,true,true,true,true,true,true,false,false,false,false,false,false,false,false,false,false,false,false,false,false,false,false,false,false,false,false] rfl rfl (any_of HT_.out (by kernel_rfl)) (fun _ _ _ h => h) (Or.inl ⟨by rfl, ?_⟩) ?_ ?_
     rotate_left
     ·intro w'
      go_simp
      with_reducible rfl
     rotate_left
     ·simp only [Act.put, List.setIfInBounds_toArray, List.set_cons_zero, List.set_cons_succ, i64_w, i32_w]
      rfl
     refine pure_ (i := 21) (N := some 84) (v := ?_) (a' := ?_) #[true,true,true,true,true,true,true,true,true,true,true,true,true,true,true,true,true,true,true,false,false,true,false,false,false,false,false,false,false,false,false,false,false,false,false,false,false,false,false] rfl rfl (any_of HT_.out (by kernel_rfl)) (fun _ _ _ h => h) (Or.inl ⟨by rfl, ?_⟩) ?_ ?_
     rotate_left
     ·intro w'
      go_simp
      with_reducible rfl
     rotate_left
     ·simp only [Act.put, List.setIfInBounds_toArray, List.set_cons_zero, List.set_cons_succ, i64_w, i32_w]
      rfl
     refine pure_ (i := 25) (N := some 88) (v := ?_) (a' := ?_) #[true,true,true,true,true,true,true,true,true,true,true,true,true,true,true,true,true,true,true,false,false,true,false,false,false,true,false,false,false,false,false,false,false,false,false,false,false,false,false] rfl rfl (any_of HT_.out (by kernel_rfl)) (fun _ _ _ h => h) (Or.inl ⟨by rfl, ?_⟩) ?_ ?_
     rotate_left
     ·intro w'
      go_simp
      with_reducible rfl
     rotate_left
     ·simp only [Act.put, List.setIfInBounds_toArray, List.set_cons_zero, List.set_cons_succ, i64_w, i32_w]
      rfl
     refine take_ (i := 19) (N := some 82) (v := ?_) (a' := ?_) #[true,true,true,true,true,true,true,true,true,true,true,true,true,true,true,true,true,true,true,true,false,true,false,false,false,true,false,false,false,false,false,false,false,false,false,false,false,false,false] rfl rfl (take_ofW HT_.out HW_.out (by kernel_rfl)) (fun _ _ _ h => h) (Or.inl ⟨by rfl, ?_⟩) hHeld ?_ ?_
     rotate_left
     ·rintro w' ⟨s0, s1, s2, s3⟩
      go_simp
      with_reducible rfl
     rotate_left
     ·simp only [Act.put, List.setIfInBounds_toArray, List.set_cons_zero, List.set_cons_succ, i64_w, i32_w]
      rfl
     refine take_ (i := 22) (N := some 85) (v := ?_) (a' := ?_) #[true,true,true,true,true,true,true,true,true,true,true,true,true,true,true,true,true,true,true,true,false,true,true,false,false,true,false,false,false,false,false,false,false,false,false,false,false,false,false] rfl rfl (take_ofW HT_.out HW_.out (by kernel_rfl)) (fun _ _ _ h => h) (Or.inl ⟨by rfl, ?_⟩) hHeld ?_ ?_
     rotate_left
     ·rintro w' ⟨s0, s1, s2, s3⟩
      go_simp
      with_reducible rfl
     rotate_left
     ·simp only [Act.put, List.setIfInBounds_toArray, List.set_cons_zero, List.set_cons_succ, i64_w, i32_w]
      rfl
     refine one_ (i := 20) (N := some 83) #[true,true,true,true,true,true,true,true,true,true,true,true,true,true,true,true,true,true,true,true,true,true,true,false,false,true,false,false,false,false,false,false,false,false,false,false,false,false,false] rfl rfl (one_of HT_.out (by kernel_rfl)) (by decide) (fun K hK => ?_)
     refine goesv_ Try.func29 (by kernel_rfl) rfl #[.agg #[.int .i64 a0_0, .int .i64 a0_1], .pointer (some ⟨gb352, 0, none⟩)] (by rfl) rfl rfl (by rfl) (by (try simp only [List.map_toArray, List.map_cons, List.map_nil]); first | done | rfl | (simp only [List.length_drop, List.length_take]; rfl)) ?_
     with_reducible refine (hopmeshlaw05_GeometryMoves_1.calls a0_0 a0_1 gb352 a2_0 a2_1 t364 t365 _ ?side1 A83.out).mono ?_
     (case side1 => (with_reducible repeat (first | refine bkN ?_ _ | refine bkD ?_ | refine bkA ?_ _)); exact BK352.out)
     rintro e w117 ⟨rfl, hb⟩
     refine ⟨_, rfl, ?_⟩
     replace HO_29 := Aside0.mk (Kd.R_below (by (with_reducible repeat (first | apply Kd.R_alloc | apply Kd.R_drewN | apply Kd.R_drew)); exact HO_29.out) hb)
     replace BK350 := Aside0.mk (bkB (g := gb350) (o := .cells #[.int .i64 a0_0, .int .i64 a0_1, .int .i64 a0_2, .int .i64 a0_3] 51 (0, 0)) (by (with_reducible repeat (first | refine bkN ?_ _ | refine bkD ?_ | refine bkA ?_ _)); exact BK350.out) hb)
     replace BK351 := Aside0.mk (bkB (g := gb351) (o := .cells #[.int .i64 a1_0, .int .i64 a1_1, .int .i64 a1_2, .int .i64 a1_3, .int .i64 a1_4] 47 (0, 0)) (by (with_reducible repeat (first | refine bkN ?_ _ | refine bkD ?_ | refine bkA ?_ _)); exact BK351.out) hb)
     replace BK352 := Aside0.mk (bkB (g := gb352) (o := .cells #[.int .i64 a2_0, .int .i64 a2_1] 28 (0, 0)) (by (with_reducible repeat (first | refine bkN ?_ _ | refine bkD ?_ | refine bkA ?_ _)); exact BK352.out) hb)
     replace BK354 := Aside0.mk (bkB (g := gb354) (o := .cells #[.int .i64 a0_0, .int .i64 a0_1] 28 (0, 0)) (by (with_reducible repeat (first | refine bkN ?_ _ | refine bkD ?_ | refine bkA ?_ _)); exact BK354.out) hb)
     replace BK355 := Aside0.mk (bkB (g := gb355) (o := .cells #[.int .i64 a0_2, .int .i64 a0_3] 28 (0, 0)) (by (with_reducible repeat (first | refine bkN ?_ _ | refine bkD ?_ | refine bkA ?_ _)); exact BK355.out) hb)
     replace HB := Aside0.mk (below_step (by repeat (first | (with_reducible first | exact HB.out | apply blA | apply blN | apply blD | refine blS ?_ GE350.out | refine blS ?_ GE351.out | refine blS ?_ GE352.out | refine blS ?_ GE354.out | refine blS ?_ GE355.out) | exact HB.out)) hb)
     (try clear hb)
     refine hK.out _ _ ⟨(bkC BK354.out 0).trans rfl, (bkC BK354.out 1).trans rfl, (bkC BK355.out 0).trans rfl, (bkC BK355.out 1).trans rfl⟩ (fun hHeld => ?_)
     clear hK K
     refine norm_ (a' := ?_) ?_ ?_
     rotate_left
     ·show Act.put _ (some 83) _ = _
      simp only [Act.put, List.setIfInBounds_toArray, List.set_cons_zero, List.set_cons_succ, i64_w, i32_w]
      rfl
     refine one_ (i := 23) (N := some 86) #[true,true,true,true,true,true,true,true,true,true,true,true,true,true,true,true,true,true,true,true,true,true,true,true,false,true,false,false,false,false,false,false,false,false,false,false,false,false,false] rfl rfl (one_of HT_.out (by kernel_rfl)) (by decide) (fun K hK => ?_)
     refine goesv_ Try.func29 (by kernel_rfl) rfl #[.agg #[.int .i64 a0_2, .int .i64 a0_3], .pointer (some ⟨gb352, 0, none⟩)] (by rfl) rfl rfl (by rfl) (by (try simp only [List.map_toArray, List.map_cons, List.map_nil]); first | done | rfl | (simp only [List.length_drop, List.length_take]; rfl)) ?_
     with_reducible refine (hopmeshlaw05_GeometryMoves_1.calls a0_2 a0_3 gb352 a2_0 a2_1 t366 t367 _ ?side1 A84.out).mono ?_
     (case side1 => (with_reducible repeat (first | refine bkN ?_ _ | refine bkD ?_ | refine bkA ?_ _)); exact BK352.out)
     rintro e w118 ⟨rfl, hb⟩
     refine ⟨_, rfl, ?_⟩
     replace HO_29 := Aside0.mk (Kd.R_below (by (with_reducible repeat (first | apply Kd.R_alloc | apply Kd.R_drewN | apply Kd.R_drew)); exact HO_29.out) hb)
     replace BK350 := Aside0.mk (bkB (g := gb350) (o := .cells #[.int .i64 a0_0, .int .i64 a0_1, .int .i64 a0_2, .int .i64 a0_3] 51 (0, 0)) (by (with_reducible repeat (first | refine bkN ?_ _ | refine bkD ?_ | refine bkA ?_ _)); exact BK350.out) hb)
     replace BK351 := Aside0.mk (bkB (g := gb351) (o := .cells #[.int .i64 a1_0, .int .i64 a1_1, .int .i64 a1_2, .int .i64 a1_3, .int .i64 a1_4] 47 (0, 0)) (by (with_reducible repeat (first | refine bkN ?_ _ | refine bkD ?_ | refine bkA ?_ _)); exact BK351.out) hb)
     replace BK352 := Aside0.mk (bkB (g := gb352) (o := .cells #[.int .i64 a2_0, .int .i64 a2_1] 28 (0, 0)) (by (with_reducible repeat (first | refine bkN ?_ _ | refine bkD ?_ | refine bkA ?_ _)); exact BK352.out) hb)
     replace BK354 := Aside0.mk (bkB (g := gb354) (o := .cells #[.int .i64 a0_0, .int .i64 a0_1] 28 (0, 0)) (by (with_reducible repeat (first | refine bkN ?_ _ | refine bkD ?_ | refine bkA ?_ _)); exact BK354.out) hb)
     replace BK355 := Aside0.mk (bkB (g := gb355) (o := .cells #[.int .i64 a0_2, .int .i64 a0_3] 28 (0, 0)) (by (with_reducible repeat (first | refine bkN ?_ _ | refine bkD ?_ | refine bkA ?_ _)); exact BK355.out) hb)
     replace HB := Aside0.mk (below_step (by repeat (first | (with_reducible first | exact HB.out | apply blA | apply blN | apply blD | refine blS ?_ GE350.out | refine blS ?_ GE351.out | refine blS ?_ GE352.out | refine blS ?_ GE354.out | refine blS ?_ GE355.out) | exact HB.out)) hb)
     (try clear hb)
     refine hK.out _ _ ⟨(bkC BK354.out 0).trans rfl, (bkC BK354.out 1).trans rfl, (bkC BK355.out 0).trans rfl, (bkC BK355.out 1).trans rfl⟩ (fun hHeld => ?_)
     clear hK K
     refine norm_ (a' := ?_) ?_ ?_
     rotate_left
     ·show Act.put _ (some 86) _ = _
      simp only [Act.put, List.setIfInBounds_toArray, List.set_cons_zero, List.set_cons_succ, i64_w, i32_w]
      rfl
     refine one_ (i := 24) (N := some 87) #[true,true,true,true,true,true,true,true,true,true,true,true,true,true,true,true,true,true,true,true,true,true,true,true,true,true,false,false,false,false,false,false,false,false,false,false,false,false,false] rfl rfl (one_of HT_.out (by kernel_rfl)) (by decide) (fun K hK => ?_)
     refine goes_ Try.func25 (by kernel_rfl) rfl #[.agg #[.int .i64 t364, .int .i64 t365], .agg #[.int .i64 t366, .int .i64 t367]] (by rfl) rfl rfl (by (try simp only [List.map_toArray, List.map_cons, List.map_nil]); first | done | rfl | (simp only [List.length_drop, List.length_take]; rfl)) ?_
     with_reducible refine (geometry_Square.calls t364 t365 t366 t367 t368 _ A85.out).mono ?_
     rintro e w119 ⟨rfl, hb⟩
     refine ⟨_, rfl, ?_⟩
     replace HO_29 := Aside0.mk (Kd.R_below (by (with_reducible repeat (first | apply Kd.R_alloc | apply Kd.R_drewN | apply Kd.R_drew)); exact HO_29.out) hb)
     replace BK350 := Aside0.mk (bkB (g := gb350) (o := .cells #[.int .i64 a0_0, .int .i64 a0_1, .int .i64 a0_2, .int .i64 a0_3] 51 (0, 0)) (by (with_reducible repeat (first | refine bkN ?_ _ | refine bkD ?_ | refine bkA ?_ _)); exact BK350.out) hb)
     replace BK351 := Aside0.mk (bkB (g := gb351) (o := .cells #[.int .i64 a1_0, .int .i64 a1_1, .int .i64 a1_2, .int .i64 a1_3, .int .i64 a1_4] 47 (0, 0)) (by (with_reducible repeat (first | refine bkN ?_ _ | refine bkD ?_ | refine bkA ?_ _)); exact BK351.out) hb)
     replace BK352 := Aside0.mk (bkB (g := gb352) (o := .cells #[.int .i64 a2_0, .int .i64 a2_1] 28 (0, 0)) (by (with_reducible repeat (first | refine bkN ?_ _ | refine bkD ?_ | refine bkA ?_ _)); exact BK352.out) hb)
     replace BK354 := Aside0.mk (bkB (g := gb354) (o := .cells #[.int .i64 a0_0, .int .i64 a0_1] 28 (0, 0)) (by (with_reducible repeat (first | refine bkN ?_ _ | refine bkD ?_ | refine bkA ?_ _)); exact BK354.out) hb)
     replace BK355 := Aside0.mk (bkB (g := gb355) (o := .cells #[.int .i64 a0_2, .int .i64 a0_3] 28 (0, 0)) (by (with_reducible repeat (first | refine bkN ?_ _ | refine bkD ?_ | refine bkA ?_ _)); exact BK355.out) hb)
     replace HB := Aside0.mk (below_step (by repeat (first | (with_reducible first | exact HB.out | apply blA | apply blN | apply blD | refine blS ?_ GE350.out | refine blS ?_ GE351.out | refine blS ?_ GE352.out | refine blS ?_ GE354.out | refine blS ?_ GE355.out) | exact HB.out)) hb)
     (try clear hb)
     refine hK.out _ _ ⟨(bkC BK354.out 0).trans rfl, (bkC BK354.out 1).trans rfl, (bkC BK355.out 0).trans rfl, (bkC BK355.out 1).trans rfl⟩ (fun hHeld => ?_)
     clear hK K
     refine norm_ (a' := ?_) ?_ ?_
     rotate_left
     ·show Act.put _ (some 87) _ = _
      simp only [Act.put, List.setIfInBounds_toArray, List.set_cons_zero, List.set_cons_succ, i64_w, i32_w]
      rfl
     refine pure_ (i := 26) (N := some 89) (v := ?_) (a' := ?_) #[true,true,true,true,true,true,true,true,true,true,true,true,true,true,true,true,true,true,true,true,true,true,true,true,true,true,true,false,false,false,false,false,false,false,false,false,false,false,false] rfl rfl (any_of HT_.out (by kernel_rfl)) (fun _ _ _ h => h) (Or.inl ⟨by rfl, ?_⟩) ?_ ?_
     rotate_left
     ·intro w'
      go_simp
      with_reducible rfl
     rotate_left
     ·simp only [Act.put, List.setIfInBounds_toArray, List.set_cons_zero, List.set_cons_succ, i64_w, i32_w]
      rfl
     refine pure_ (i := 27) (N := some 90) (v := ?_) (a' := ?_) #[true,true,true,true,true,true,true,true,true,true,true,true,true,true,true,true,true,true,true,true,true,true,true,true,true,true,true,true,false,false,false,false,false,false,false,false,false,false,false] rfl rfl (any_of HT_.out (by kernel_rfl)) (fun _ _ _ h => h) (Or.inl ⟨by rfl, ?_⟩) ?_ ?_
     rotate_left
     ·intro w'
      go_simp
      with_reducible rfl
     rotate_left
     ·simp only [Act.put, List.setIfInBounds_toArray, List.set_cons_zero, List.set_cons_succ, i64_w, i32_w]
      rfl
     refine pure_ (i := 28) (N := some 91) (v := ?_) (a' := ?_) #[true,true,true,true,true,true,true,true,true,true,true,true,true,true,true,true,true,true,true,true,true,true,true,true,true,true,true,true,true,false,false,false,false,false,false,false,false,false,false] rfl rfl (any_of HT_.out (by kernel_rfl)) (fun _ _ _ h => h) (Or.inl ⟨by rfl, ?_⟩) ?_ ?_
     rotate_left
     ·intro w'
      go_simp
      with_reducible rfl
     rotate_left
     ·simp only [Act.put, List.setIfInBounds_toArray, List.set_cons_zero, List.set_cons_succ, i64_w, i32_w]
      rfl
     refine pure_ (i := 29) (N := some 92) (v := ?_) (a' := ?_) #[true,true,true,true,true,true,true,true,true,true,true,true,true,true,true,true,true,true,true,true,true,true,true,true,true,true,true,true,true,true,false,false,false,false,false,false,false,false,false] rfl rfl (any_of HT_.out (by kernel_rfl)) (fun _ _ _ h => h) (Or.inl ⟨by rfl, ?_⟩) ?_ ?_
     rotate_left
     ·intro w'
      go_simp
      with_reducible rfl
     rotate_left
     ·simp only [Act.put, List.setIfInBounds_toArray, List.set_cons_zero, List.set_cons_succ, i64_w, i32_w]
      rfl
     refine pure_ (i := 32) (N := some 95) (v := ?_) (a' := ?_) #[true,true,true,true,true,true,true,true,true,true,true,true,true,true,true,true,true,true,true,true,true,true,true,true,true,true,true,true,true,true,false,false,true,false,false,false,false,false,false] rfl rfl (any_of HT_.out (by kernel_rfl)) (fun _ _ _ h => h) (Or.inl ⟨by rfl, ?_⟩) ?_ ?_
     rotate_left
     ·intro w'
      go_simp
      with_reducible rfl
     rotate_left
     ·simp only [Act.put, List.setIfInBounds_toArray, List.set_cons_zero, List.set_cons_succ, i64_w, i32_w]
      rfl
     refine pure_ (i := 36) (N := some 99) (v := ?_) (a' := ?_) #[true,true,true,true,true,true,true,true,true,true,true,true,true,true,true,true,true,true,true,true,true,true,true,true,true,true,true,true,true,true,false,false,true,false,false,false,true,false,false] rfl rfl (any_of HT_.out (by kernel_rfl)) (fun _ _ _ h => h) (Or.inl ⟨by rfl, ?_⟩) ?_ ?_
     rotate_left
     ·intro w'
      go_simp
      with_reducible rfl
     rotate_left
     ·simp only [Act.put, List.setIfInBounds_toArray, List.set_cons_zero, List.set_cons_succ, i64_w, i32_w]
      rfl
     refine take_ (i := 30) (N := some 93) (v := ?_) (a' := ?_) #[true,true,true,true,true,true,true,true,true,true,true,true,true,true,true,true,true,true,true,true,true,true,true,true,true,true,true,true,true,true,true,false,true,false,false,false,true,false,false] rfl rfl (take_ofW HT_.out HW_.out (by kernel_rfl)) (fun _ _ _ h => h) (Or.inl ⟨by rfl, ?_⟩) hHeld ?_ ?_
     rotate_left
     ·rintro w' ⟨s0, s1, s2, s3⟩
      go_simp
      with_reducible rfl
     rotate_left
     ·simp only [Act.put, List.setIfInBounds_toArray, List.set_cons_zero, List.set_cons_succ, i64_w, i32_w]
      rfl
     refine take_ (i := 33) (N := some 96) (v := ?_) (a' := ?_) #[true,true,true,true,true,true,true,true,true,true,true,true,true,true,true,true,true,true,true,true,true,true,true,true,true,true,true,true,true,true,true,false,true,true,false,false,true,false,false] rfl rfl (take_ofW HT_.out HW_.out (by kernel_rfl)) (fun _ _ _ h => h) (Or.inl ⟨by rfl, ?_⟩) hHeld ?_ ?_
     rotate_left
     ·rintro w' ⟨s0, s1, s2, s3⟩
      go_simp
      with_reducible rfl
     rotate_left
     ·simp only [Act.put, List.setIfInBounds_toArray, List.set_cons_zero, List.set_cons_succ, i64_w, i32_w]
      rfl
     refine one_ (i := 31) (N := some 94) #[true,true,true,true,true,true,true,true,true,true,true,true,true,true,true,true,true,true,true,true,true,true,true,true,true,true,true,true,true,true,true,true,true,true,false,false,true,false,false] rfl rfl (one_of HT_.out (by kernel_rfl)) (by decide) (fun K hK => ?_)
     refine goesv_ Try.func30 (by kernel_rfl) rfl #[.agg #[.int .i64 a0_0, .int .i64 a0_1]] (by rfl) rfl rfl (by rfl) (by (try simp only [List.map_toArray, List.map_cons, List.map_nil]); first | done | rfl | (simp only [List.length_drop, List.length_take]; rfl)) ?_
     with_reducible refine (hopmeshlaw05_GeometryMoves_2.calls a0_0 a0_1 t369 t370 _ A87.out).mono ?_
     rintro e w120 ⟨rfl, hb⟩
     refine ⟨_, rfl, ?_⟩
     replace HO_29 := Aside0.mk (Kd.R_below (by (with_reducible repeat (first | apply Kd.R_alloc | apply Kd.R_drewN | apply Kd.R_drew)); exact HO_29.out) hb)
     replace BK350 := Aside0.mk (bkB (g := gb350) (o := .cells #[.int .i64 a0_0, .int .i64 a0_1, .int .i64 a0_2, .int .i64 a0_3] 51 (0, 0)) (by (with_reducible repeat (first | refine bkN ?_ _ | refine bkD ?_ | refine bkA ?_ _)); exact BK350.out) hb)
     replace BK351 := Aside0.mk (bkB (g := gb351) (o := .cells #[.int .i64 a1_0, .int .i64 a1_1, .int .i64 a1_2, .int .i64 a1_3, .int .i64 a1_4] 47 (0, 0)) (by (with_reducible repeat (first | refine bkN ?_ _ | refine bkD ?_ | refine bkA ?_ _)); exact BK351.out) hb)
     replace BK352 := Aside0.mk (bkB (g := gb352) (o := .cells #[.int .i64 a2_0, .int .i64 a2_1] 28 (0, 0)) (by (with_reducible repeat (first | refine bkN ?_ _ | refine bkD ?_ | refine bkA ?_ _)); exact BK352.out) hb)
     replace BK354 := Aside0.mk (bkB (g := gb354) (o := .cells #[.int .i64 a0_0, .int .i64 a0_1] 28 (0, 0)) (by (with_reducible repeat (first | refine bkN ?_ _ | refine bkD ?_ | refine bkA ?_ _)); exact BK354.out) hb)
     replace BK355 := Aside0.mk (bkB (g := gb355) (o := .cells #[.int .i64 a0_2, .int .i64 a0_3] 28 (0, 0)) (by (with_reducible repeat (first | refine bkN ?_ _ | refine bkD ?_ | refine bkA ?_ _)); exact BK355.out) hb)
     replace HB := Aside0.mk (below_step (by repeat (first | (with_reducible first | exact HB.out | apply blA | apply blN | apply blD | refine blS ?_ GE350.out | refine blS ?_ GE351.out | refine blS ?_ GE352.out | refine blS ?_ GE354.out | refine blS ?_ GE355.out) | exact HB.out)) hb)
     (try clear hb)
     refine hK.out _ _ ⟨(bkC BK354.out 0).trans rfl, (bkC BK354.out 1).trans rfl, (bkC BK355.out 0).trans rfl, (bkC BK355.out 1).trans rfl⟩ (fun hHeld => ?_)
     clear hK K
     refine norm_ (a' := ?_) ?_ ?_
     rotate_left
     ·show Act.put _ (some 94) _ = _
      simp only [Act.put, List.setIfInBounds_toArray, List.set_cons_zero, List.set_cons_succ, i64_w, i32_w]
      rfl
     refine one_ (i := 34) (N := some 97) #[true,true,true,true,true,true,true,true,true,true,true,true,true,true,true,true,true,true,true,true,true,true,true,true,true,true,true,true,true,true,true,true,true,true,true,false,true,false,false] rfl rfl (one_of HT_.out (by kernel_rfl)) (by decide) (fun K hK => ?_)
     refine goesv_ Try.func30 (by kernel_rfl) rfl #[.agg #[.int .i64 a0_2, .int .i64 a0_3]] (by rfl) rfl rfl (by rfl) (by (try simp only [List.map_toArray, List.map_cons, List.map_nil]); first | done | rfl | (simp only [List.length_drop, List.length_take]; rfl)) ?_
     with_reducible refine (hopmeshlaw05_GeometryMoves_2.calls a0_2 a0_3 t371 t372 _ A88.out).mono ?_
     rintro e w121 ⟨rfl, hb⟩
     refine ⟨_, rfl, ?_⟩
     replace HO_29 := Aside0.mk (Kd.R_below (by (with_reducible repeat (first | apply Kd.R_alloc | apply Kd.R_drewN | apply Kd.R_drew)); exact HO_29.out) hb)
     replace BK350 := Aside0.mk (bkB (g := gb350) (o := .cells #[.int .i64 a0_0, .int .i64 a0_1, .int .i64 a0_2, .int .i64 a0_3] 51 (0, 0)) (by (with_reducible repeat (first | refine bkN ?_ _ | refine bkD ?_ | refine bkA ?_ _)); exact BK350.out) hb)
     replace BK351 := Aside0.mk (bkB (g := gb351) (o := .cells #[.int .i64 a1_0, .int .i64 a1_1, .int .i64 a1_2, .int .i64 a1_3, .int .i64 a1_4] 47 (0, 0)) (by (with_reducible repeat (first | refine bkN ?_ _ | refine bkD ?_ | refine bkA ?_ _)); exact BK351.out) hb)
     replace BK352 := Aside0.mk (bkB (g := gb352) (o := .cells #[.int .i64 a2_0, .int .i64 a2_1] 28 (0, 0)) (by (with_reducible repeat (first | refine bkN ?_ _ | refine bkD ?_ | refine bkA ?_ _)); exact BK352.out) hb)
     replace BK354 := Aside0.mk (bkB (g := gb354) (o := .cells #[.int .i64 a0_0, .int .i64 a0_1] 28 (0, 0)) (by (with_reducible repeat (first | refine bkN ?_ _ | refine bkD ?_ | refine bkA ?_ _)); exact BK354.out) hb)
     replace BK355 := Aside0.mk (bkB (g := gb355) (o := .cells #[.int .i64 a0_2, .int .i64 a0_3] 28 (0, 0)) (by (with_reducible repeat (first | refine bkN ?_ _ | refine bkD ?_ | refine bkA ?_ _)); exact BK355.out) hb)
     replace HB := Aside0.mk (below_step (by repeat (first | (with_reducible first | exact HB.out | apply blA | apply blN | apply blD | refine blS ?_ GE350.out | refine blS ?_ GE351.out | refine blS ?_ GE352.out | refine blS ?_ GE354.out | refine blS ?_ GE355.out) | exact HB.out)) hb)
     (try clear hb)
     refine hK.out _ _ ⟨(bkC BK354.out 0).trans rfl, (bkC BK354.out 1).trans rfl, (bkC BK355.out 0).trans rfl, (bkC BK355.out 1).trans rfl⟩ (fun hHeld => ?_)
     clear hK K
     refine norm_ (a' := ?_) ?_ ?_
     rotate_left
     ·show Act.put _ (some 97) _ = _
      simp only [Act.put, List.setIfInBounds_toArray, List.set_cons_zero, List.set_cons_succ, i64_w, i32_w]
      rfl
     refine one_ (i := 35) (N := some 98) #[true,true,true,true,true,true,true,true,true,true,true,true,true,true,true,true,true,true,true,true,true,true,true,true,true,true,true,true,true,true,true,true,true,true,true,true,true,false,false] rfl rfl (one_of HT_.out (by kernel_rfl)) (by decide) (fun K hK => ?_)
     refine goes_ Try.func25 (by kernel_rfl) rfl #[.agg #[.int .i64 t369, .int .i64 t370], .agg #[.int .i64 t371, .int .i64 t372]] (by rfl) rfl rfl (by (try simp only [List.map_toArray, List.map_cons, List.map_nil]); first | done | rfl | (simp only [List.length_drop, List.length_take]; rfl)) ?_
     with_reducible refine (geometry_Square.calls t369 t370 t371 t372 t373 _ A89.out).mono ?_
     rintro e w122 ⟨rfl, hb⟩
     refine ⟨_, rfl, ?_⟩
     replace HO_29 := Aside0.mk (Kd.R_below (by (with_reducible repeat (first | apply Kd.R_alloc | apply Kd.R_drewN | apply Kd.R_drew)); exact HO_29.out) hb)
     replace BK350 := Aside0.mk (bkB (g := gb350) (o := .cells #[.int .i64 a0_0, .int .i64 a0_1, .int .i64 a0_2, .int .i64 a0_3] 51 (0, 0)) (by (with_reducible repeat (first | refine bkN ?_ _ | refine bkD ?_ | refine bkA ?_ _)); exact BK350.out) hb)
     replace BK351 := Aside0.mk (bkB (g := gb351) (o := .cells #[.int .i64 a1_0, .int .i64 a1_1, .int .i64 a1_2, .int .i64 a1_3, .int .i64 a1_4] 47 (0, 0)) (by (with_reducible repeat (first | refine bkN ?_ _ | refine bkD ?_ | refine bkA ?_ _)); exact BK351.out) hb)
     replace BK352 := Aside0.mk (bkB (g := gb352) (o := .cells #[.int .i64 a2_0, .int .i64 a2_1] 28 (0, 0)) (by (with_reducible repeat (first | refine bkN ?_ _ | refine bkD ?_ | refine bkA ?_ _)); exact BK352.out) hb)
     replace BK354 := Aside0.mk (bkB (g := gb354) (o := .cells #[.int .i64 a0_0, .int .i64 a0_1] 28 (0, 0)) (by (with_reducible repeat (first | refine bkN ?_ _ | refine bkD ?_ | refine bkA ?_ _)); exact BK354.out) hb)
     replace BK355 := Aside0.mk (bkB (g := gb355) (o := .cells #[.int .i64 a0_2, .int .i64 a0_3] 28 (0, 0)) (by (with_reducible repeat (first | refine bkN ?_ _ | refine bkD ?_ | refine bkA ?_ _)); exact BK355.out) hb)
     replace HB := Aside0.mk (below_step (by repeat (first | (with_reducible first | exact HB.out | apply blA | apply blN | apply blD | refine blS ?_ GE350.out | refine blS ?_ GE351.out | refine blS ?_ GE352.out | refine blS ?_ GE354.out | refine blS ?_ GE355.out) | exact HB.out)) hb)
     (try clear hb)
     refine hK.out _ _ ⟨(bkC BK354.out 0).trans rfl, (bkC BK354.out 1).trans rfl, (bkC BK355.out 0).trans rfl, (bkC BK355.out 1).trans rfl⟩ (fun hHeld => ?_)
     clear hK K
     refine norm_ (a' := ?_) ?_ ?_
     rotate_left
     ·show Act.put _ (some 98) _ = _
      simp only [Act.put, List.setIfInBounds_toArray, List.set_cons_zero, List.set_cons_succ, i64_w, i32_w]
      rfl
     refine pure_ (i := 37) (N := some 100) (v := ?_) (a' := ?_) #[true,true,true,true,true,true,true,true,true,true,true,true,true,true,true,true,true,true,true,true,true,true,true,true,true,true,true,true,true,true,true,true,true,true,true,true,true,true,false] rfl rfl (any_of HT_.out (by kernel_rfl)) (fun _ _ _ h => h) (Or.inl ⟨by rfl, ?_⟩) ?_ ?_
     rotate_left
     ·intro w'
      go_simp
      with_reducible rfl
     rotate_left
     ·simp only [Act.put, List.setIfInBounds_toArray, List.set_cons_zero, List.set_cons_succ, i64_w, i32_w]
      rfl
     refine pure_ (i := 38) (N := some 101) (v := ?_) (a' := ?_) #[true,true,true,true,true,true,true,true,true,true,true,true,true,true,true,true,true,true,true,true,true,true,true,true,true,true,true,true,true,true,true,true,true,true,true,true,true,true,true] rfl rfl (any_of HT_.out (by kernel_rfl)) (fun _ _ _ h => h) (Or.inl ⟨by rfl, ?_⟩) ?_ ?_
     rotate_left
     ·intro w'
      go_simp
      with_reducible rfl
     rotate_left
     ·simp only [Act.put, List.setIfInBounds_toArray, List.set_cons_zero, List.set_cons_succ, i64_w, i32_w]
      rfl
     refine done_ (done_of HT_.out (by kernel_rfl)) ?_
     try go_wp2
     replace HO_29 := Aside0.mk (Kd.R_drew HO_29.out)
     replace BK350 := Aside0.mk (bkD BK350.out)
     replace BK351 := Aside0.mk (bkD BK351.out)
     replace BK352 := Aside0.mk (bkD BK352.out)
     replace BK354 := Aside0.mk (bkD BK354.out)
     replace BK355 := Aside0.mk (bkD BK355.out)
     replace HB := Aside0.mk (blD HB.out)
     refine start_ (n := 75) (S := fun w' => w'.cell? ⟨gb355, 0, none⟩ = some (.int .i64 a0_2) ∧ w'.cell? ⟨gb355, 1, none⟩ = some (.int .i64 a0_3) ∧ w'.cell? ⟨gb354, 0, none⟩ = some (.int .i64 a0_0) ∧ w'.cell? ⟨gb354, 1, none⟩ = some (.int .i64 a0_1) ∧ w'.cell? ⟨gb351, 0, none⟩ = some (.int .i64 a1_0) ∧ w'.cell? ⟨gb351, 1, none⟩ = some (.int .i64 a1_1) ∧ w'.cell? ⟨gb351, 2, none⟩ = some (.int .i64 a1_2) ∧ w'.cell? ⟨gb351, 3, none⟩ = some (.int .i64 a1_3) ∧ w'.cell? ⟨gb351, 4, none⟩ = some (.int .i64 a1_4)) (ds := []) #[false,false,false,false,false,false,false,false,false,false,false,false,false,false,false,false,false,false,false,false,false,false,false,false,false,false,false,false,false,false,false,false,false,false,false,false,false,false,false,false,false,false,false,false,false,false,false,false,false,false,false,false,false,false,false,false,false,false,false,false,false,false,false,false,false,false,false,false,false,false,false,false,false,false,false] (by kernel_rfl) rfl rfl ⟨(bkC BK355.out 0).trans rfl, (bkC BK355.out 1).trans rfl, (bkC BK354.out 0).trans rfl, (bkC BK354.out 1).trans rfl, (bkC BK351.out 0).trans rfl, (bkC BK351.out 1).trans rfl, (bkC BK351.out 2).trans rfl, (bkC BK351.out 3).trans rfl, (bkC BK351.out 4).trans rfl⟩ (fun hHeld => ?_); refine with_tabW hopmeshlaw05_GeometryMoves.tab16 hopmeshlaw05_GeometryMoves.bits16 (fun HT_ HW_ => ?_)
     generalize w122.drew = w123 at HO_29 BK350 BK351 BK352 BK354 BK355 HB hHeld ⊢
     refine pure_ (i := 4) (N := some 106) (v := ?_) (a' := ?_) #[false,false,false,false,true,false,false,false,false,false,false,false,false,false,false,false,false,false,false,false,false,false,false,false,false,false,false,false,false,false,false,false,false,false,false,false,false,false,false,false,false,false,false,false,false,false,false,false,false,false,false,false,false,false,false,false,false,false,false,false,false,false,false,false,false,false,false,false,false,false,false,false,false,false,false] rfl rfl (any_of HT_.out (by kernel_rfl)) (fun _ _ _ h => h) (Or.inl ⟨by rfl, ?_⟩) ?_ ?_
     rotate_left
     ·intro w'
      go_simp
      with_reducible rfl
     rotate_left
     ·simp only [Act.put, List.setIfInBounds_toArray, List.set_cons_zero, List.set_cons_succ, i64_w, i32_w]
      rfl
     refine take_ (i := 0) (N := some 102) (v := ?_) (a' := ?_) #[true,false,false,false,true,false,false,false,false,false,false,false,false,false,false,false,false,false,false,false,false,false,false,false,false,false,false,false,false,false,false,false,false,false,false,false,false,false,false,false,false,false,false,false,false,false,false,false,false,false,false,false,false,false,false,false,false,false,false,false,false,false,false,false,false,false,false,false,false,false,false,false,false,false,false] rfl rfl (take_ofW HT_.out HW_.out (by kernel_rfl)) (fun _ _ _ h => h) (Or.inl ⟨by rfl, ?_⟩) hHeld ?_ ?_
     rotate_left
     ·rintro w' ⟨s0, s1, s2, s3, s4, s5, s6, s7, s8⟩
      go_simp
      with_reducible rfl
     rotate_left
     ·simp only [Act.put, List.setIfInBounds_toArray, List.set_cons_zero, List.set_cons_succ, i64_w, i32_w]
      rfl
     refine take_ (i := 1) (N := some 103) (v := ?_) (a' := ?_) #[true,true,false,false,true,false,false,false,false,false,false,false,false,false,false,false,false,false,false,false,false,false,false,false,false,false,false,false,false,false,false,false,false,false,false,false,false,false,false,false,false,false,false,false,false,false,false,false,false,false,false,false,false,false,false,false,false,false,false,false,false,false,false,false,false,false,false,false,false,false,false,false,false,false,false] rfl rfl (take_ofW HT_.out HW_.out (by kernel_rfl)) (fun _ _ _ h => h) (Or.inl ⟨by rfl, ?_⟩) hHeld ?_ ?_
     rotate_left
     ·rintro w' ⟨s0, s1, s2, s3, s4, s5, s6, s7, s8⟩
      go_simp
      with_reducible rfl
     rotate_left
     ·simp only [Act.put, List.setIfInBounds_toArray, List.set_cons_zero, List.set_cons_succ, i64_w, i32_w]
      rfl
     refine take_ (i := 2) (N := some 104) (v := ?_) (a' := ?_) #[true,true,true,false,true,false,false,false,false,false,false,false,false,false,false,false,false,false,false,false,false,false,false,false,false,false,false,false,false,false,false,false,false,false,false,false,false,false,false,false,false,false,false,false,false,false,false,false,false,false,false,false,false,false,false,false,false,false,false,false,false,false,false,false,false,false,false,false,false,false,false,false,false,false,false] rfl rfl (take_ofW HT_.out HW_.out (by kernel_rfl)) (fun _ _ _ h => h) (Or.inl ⟨by rfl, ?_⟩) hHeld ?_ ?_
     rotate_left
     ·rintro w' ⟨s0, s1, s2, s3, s4, s5, s6, s7, s8⟩
      go_simp
      with_reducible rfl
     rotate_left
     ·simp only [Act.put, List.setIfInBounds_toArray, List.set_cons_zero, List.set_cons_succ, i64_w, i32_w]
      rfl
     refine one_ (i := 3) (N := some 105) #[true,true,true,true,true,false,false,false,false,false,false,false,false,false,false,false,false,false,false,false,false,false,false,false,false,false,false,false,false,false,false,false,false,false,false,false,false,false,false,false,false,false,false,false,false,false,false,false,false,false,false,false,false,false,false,false,false,false,false,false,false,false,false,false,false,false,false,false,false,false,false,false,false,false,false] rfl rfl (one_of HT_.out (by kernel_rfl)) (by decide) (fun K hK => ?_)
     refine goes_ Try.func27 (by kernel_rfl) rfl #[.agg #[.int .i64 a0_2, .int .i64 a0_3], .agg #[.int .i64 a0_0, .int .i64 a0_1], .agg #[.int .i64 a1_0, .int .i64 a1_1, .int .i64 a1_2, .int .i64 a1_3, .int .i64 a1_4]] (by rfl) rfl rfl (by (try simp only [List.map_toArray, List.map_cons, List.map_nil]); first | done | rfl | (simp only [List.length_drop, List.length_take]; rfl)) ?_
     with_reducible refine (geometry_Crosses.calls k1 a0_2 a0_3 a0_0 a0_1 a1_0 a1_1 a1_2 a1_3 a1_4 t374 _ A91.out).mono ?_
     rintro e w124 ⟨rfl, hb⟩
     refine ⟨_, rfl, ?_⟩
     replace HO_29 := Aside0.mk (Kd.R_below (by (with_reducible repeat (first | apply Kd.R_alloc | apply Kd.R_drewN | apply Kd.R_drew)); exact HO_29.out) hb)
     replace BK350 := Aside0.mk (bkB (g := gb350) (o := .cells #[.int .i64 a0_0, .int .i64 a0_1, .int .i64 a0_2, .int .i64 a0_3] 51 (0, 0)) (by (with_reducible repeat (first | refine bkN ?_ _ | refine bkD ?_ | refine bkA ?_ _)); exact BK350.out) hb)
     replace BK351 := Aside0.mk (bkB (g := gb351) (o := .cells #[.int .i64 a1_0, .int .i64 a1_1, .int .i64 a1_2, .int .i64 a1_3, .int .i64 a1_4] 47 (0, 0)) (by (with_reducible repeat (first | refine bkN ?_ _ | refine bkD ?_ | refine bkA ?_ _)); exact BK351.out) hb)
     replace BK352 := Aside0.mk (bkB (g := gb352) (o := .cells #[.int .i64 a2_0, .int .i64 a2_1] 28 (0, 0)) (by (with_reducible repeat (first | refine bkN ?_ _ | refine bkD ?_ | refine bkA ?_ _)); exact BK352.out) hb)
     replace BK354 := Aside0.mk (bkB (g := gb354) (o := .cells #[.int .i64 a0_0, .int .i64 a0_1] 28 (0, 0)) (by (with_reducible repeat (first | refine bkN ?_ _ | refine bkD ?_ | refine bkA ?_ _)); exact BK354.out) hb)
     replace BK355 := Aside0.mk (bkB (g := gb355) (o := .cells #[.int .i64 a0_2, .int .i64 a0_3] 28 (0, 0)) (by (with_reducible repeat (first | refine bkN ?_ _ | refine bkD ?_ | refine bkA ?_ _)); exact BK355.out) hb)
     replace HB := Aside0.mk (below_step (by repeat (first | (with_reducible first | exact HB.out | apply blA | apply blN | apply blD | refine blS ?_ GE350.out | refine blS ?_ GE351.out | refine blS ?_ GE352.out | refine blS ?_ GE354.out | refine blS ?_ GE355.out) | exact HB.out)) hb)
     (try clear hb)
     refine hK.out _ _ ⟨(bkC BK355.out 0).trans rfl, (bkC BK355.out 1).trans rfl, (bkC BK354.out 0).trans rfl, (bkC BK354.out 1).trans rfl, (bkC BK351.out 0).trans rfl, (bkC BK351.out 1).trans rfl, (bkC BK351.out 2).trans rfl, (bkC BK351.out 3).trans rfl, (bkC BK351.out 4).trans rfl⟩ (fun hHeld => ?_)
     clear hK K
     refine norm_ (a' := ?_) ?_ ?_
     rotate_left
     ·show Act.put _ (some 105) _ = _
      simp only [Act.put, List.setIfInBounds_toArray, List.set_cons_zero, List.set_cons_succ, i64_w, i32_w]
      rfl
     refine pure_ (i := 5) (N := some 107) (v := ?_) (a' := ?_) #[true,true,true,true,true,true,false,false,false,false,false,false,false,false,false,false,false,false,false,false,false,false,false,false,false,false,false,false,false,false,false,false,false,false,false,false,false,false,false,false,false,false,false,false,false,false,false,false,false,false,false,false,false,false,false,false,false,false,false,false,false,false,false,false,false,false,false,false,false,false,false,false,false,false,false] rfl rfl (any_of HT_.out (by kernel_rfl)) (fun _ _ _ h => h) (Or.inl ⟨by rfl, ?_⟩) ?_ ?_
     rotate_left
     ·intro w'
      go_simp
      with_reducible rfl
     rotate_left
     ·simp only [Act.put, List.setIfInBounds_toArray, List.set_cons_zero, List.set_cons_succ, i64_w, i32_w]
      rfl
     refine pure_ (i := 6) (N := some 108) (v := ?_) (a' := ?_) #[true,true,true,true,true,true,true,false,false,false,false,false,false,false,false,false,false,false,false,false,false,false,false,false,false,false,false,false,false,false,false,false,false,false,false,false,false,false,false,false,false,false,false,false,false,false,false,false,false,false,false,false,false,false,false,false,false,false,false,false,false,false,false,false,false,false,false,false,false,false,false,false,false,false,false] rfl rfl (any_of HT_.out (by kernel_rfl)) (fun _ _ _ h => h) (Or.inl ⟨by rfl, ?_⟩) ?_ ?_
     rotate_left
     ·intro w'
      go_simp
      with_reducible rfl
     rotate_left
     ·simp only [Act.put, List.setIfInBounds_toArray, List.set_cons_zero, List.set_cons_succ, i64_w, i32_w]
      rfl
     refine pure_ (i := 9) (N := some 111) (v := ?_) (a' := ?_) #[true,true,true,true,true,true,true,false,false,true,false,false,false,false,false,false,false,false,false,false,false,false,false,false,false,false,false,false,false,false,false,false,false,false,false,false,false,false,false,false,false,false,false,false,false,false,false,false,false,false,false,false,false,false,false,false,false,false,false,false,false,false,false,false,false,false,false,false,false,false,false,false,false,false,false] rfl rfl (any_of HT_.out (by kernel_rfl)) (fun _ _ _ h => h) (Or.inl ⟨by rfl, ?_⟩) ?_ ?_
     rotate_left
     ·intro w'
      go_simp
      with_reducible rfl
     rotate_left
     ·simp only [Act.put, List.setIfInBounds_toArray, List.set_cons_zero, List.set_cons_succ, i64_w, i32_w]
      rfl
     refine pure_ (i := 10) (N := some 112) (v := ?_) (a' := ?_) #[true,true,true,true,true,true,true,false,false,true,true,false,false,false,false,false,false,false,false,false,false,false,false,false,false,false,false,false,false,false,false,false,false,false,false,false,false,false,false,false,false,false,false,false,false,false,false,false,false,false,false,false,false,false,false,false,false,false,false,false,false,false,false,false,false,false,false,false,false,false,false,false,false,false,false] rfl rfl (any_of HT_.out (by kernel_rfl)) (fun _ _ _ h => h) (Or.inl ⟨by rfl, ?_⟩) ?_ ?_
     rotate_left
     ·intro w'
      go_simp
      with_reducible rfl
     rotate_left
     ·simp only [Act.put, List.setIfInBounds_toArray, List.set_cons_zero, List.set_cons_succ, i64_w, i32_w]
      rfl
     refine pure_ (i := 12) (N := some 114) (v := ?_) (a' := ?_) #[true,true,true,true,true,true,true,false,false,true,true,false,true,false,false,false,false,false,false,false,false,false,false,false,false,false,false,false,false,false,false,false,false,false,false,false,false,false,false,false,false,false,false,false,false,false,false,false,false,false,false,false,false,false,false,false,false,false,false,false,false,false,false,false,false,false,false,false,false,false,false,false,false,false,false] rfl rfl (any_of HT_.out (by kernel_rfl)) (fun _ _ _ h => h) (Or.inl ⟨by rfl, ?_⟩) ?_ ?_
     rotate_left
     ·intro w'
      go_simp
      with_reducible rfl
     rotate_left
     ·simp only [Act.put, List.setIfInBounds_toArray, List.set_cons_zero, List.set_cons_succ, i64_w, i32_w]
      rfl
     refine pure_ (i := 16) (N := some 118) (v := ?_) (a' := ?_) #[true,true,true,true,true,true,true,false,false,true,true,false,true,false,false,false,true,false,false,false,false,false,false,false,false,false,false,false,false,false,false,false,false,false,false,false,false,false,false,false,false,false,false,false,false,false,false,false,false,false,false,false,false,false,false,false,false,false,false,false,false,false,false,false,false,false,false,false,false,false,false,false,false,false,false] rfl rfl (any_of HT_.out (by kernel_rfl)) (fun _ _ _ h => h) (Or.inl ⟨by rfl, ?_⟩) ?_ ?_
     rotate_left
     ·intro w'
      go_simp
      with_reducible rfl
     rotate_left
     ·simp only [Act.put, List.setIfInBounds_toArray, List.set_cons_zero, List.set_cons_succ, i64_w, i32_w]
      rfl
     refine take_ (i := 7) (N := some 109) (v := ?_) (a' := ?_) #[true,true,true,true,true,true,true,true,false,true,true,false,true,false,false,false,true,false,false,false,false,false,false,false,false,false,false,false,false,false,false,false,false,false,false,false,false,false,false,false,false,false,false,false,false,false,false,false,false,false,false,false,false,false,false,false,false,false,false,false,false,false,false,false,false,false,false,false,false,false,false,false,false,false,false] rfl rfl (take_ofW HT_.out HW_.out (by kernel_rfl)) (fun _ _ _ h => h) (Or.inl ⟨by rfl, ?_⟩) hHeld ?_ ?_
     rotate_left
     ·rintro w' ⟨s0, s1, s2, s3, s4, s5, s6, s7, s8⟩
      go_simp
      with_reducible rfl
     rotate_left
     ·simp only [Act.put, List.setIfInBounds_toArray, List.set_cons_zero, List.set_cons_succ, i64_w, i32_w]
      rfl
     refine take_ (i := 8) (N := some 110) (v := ?_) (a' := ?_) #[true,true,true,true,true,true,true,true,true,true,true,false,true,false,false,false,true,false,false,false,false,false,false,false,false,false,false,false,false,false,false,false,false,false,false,false,false,false,false,false,false,false,false,false,false,false,false,false,false,false,false,false,false,false,false,false,false,false,false,false,false,false,false,false,false,false,false,false,false,false,false,false,false,false,false] rfl rfl (take_ofW HT_.out HW_.out (by kernel_rfl)) (fun _ _ _ h => h) (Or.inl ⟨by rfl, ?_⟩) hHeld ?_ ?_
     rotate_left
     ·rintro w' ⟨s0, s1, s2, s3, s4, s5, s6, s7, s8⟩
      go_simp
      with_reducible rfl
     rotate_left
     ·simp only [Act.put, List.setIfInBounds_toArray, List.set_cons_zero, List.set_cons_succ, i64_w, i32_w]
      rfl
     refine take_ (i := 11) (N := some 113) (v := ?_) (a' := ?_) #[true,true,true,true,true,true,true,true,true,true,true,true,true,false,false,false,true,false,false,false,false,false,false,false,false,false,false,false,false,false,false,false,false,false,false,false,false,false,false,false,false,false,false,false,false,false,false,false,false,false,false,false,false,false,false,false,false,false,false,false,false,false,false,false,false,false,false,false,false,false,false,false,false,false,false] rfl rfl (take_ofW HT_.out HW_.out (by kernel_rfl)) (fun _ _ _ h => h) (Or.inl ⟨by rfl, ?_⟩) hHeld ?_ ?_
     rotate_left
     ·rintro w' ⟨s0, s1, s2, s3, s4, s5, s6, s7, s8⟩
      go_simp
      with_reducible rfl
     rotate_left
     ·simp only [Act.put, List.setIfInBounds_toArray, List.set_cons_zero, List.set_cons_succ, i64_w, i32_w]
      rfl
     refine take_ (i := 13) (N := some 115) (v := ?_) (a' := ?_) #[true,true,true,true,true,true,true,true,true,true,true,true,true,true,false,false,true,false,false,false,false,false,false,false,false,false,false,false,false,false,false,false,false,false,false,false,false,false,false,false,false,false,false,false,false,false,false,false,false,false,false,false,false,false,false,false,false,false,false,false,false,false,false,false,false,false,false,false,false,false,false,false,false,false,false] rfl rfl (take_ofW HT_.out HW_.out (by kernel_rfl)) (fun _ _ _ h => h) (Or.inl ⟨by rfl, ?_⟩) hHeld ?_ ?_
     rotate_left
     ·rintro w' ⟨s0, s1, s2, s3, s4, s5, s6, s7, s8⟩
      go_simp
      with_reducible rfl
     rotate_left
     ·simp only [Act.put, List.setIfInBounds_toArray, List.set_cons_zero, List.set_cons_succ, i64_w, i32_w]
      rfl
     refine one_ (i := 14) (N := some 116) #[true,true,true,true,true,true,true,true,true,true,true,true,true,true,true,false,true,false,false,false,false,false,false,false,false,false,false,false,false,false,false,false,false,false,false,false,false,false,false,false,false,false,false,false,false,false,false,false,false,false,false,false,false,false,false,false,false,false,false,false,false,false,false,false,false,false,false,false,false,false,false,false,false,false,false] rfl rfl (one_of HT_.out (by kernel_rfl)) (by decide) (fun K hK => ?_)
     refine goesv_ Try.func31 (by kernel_rfl) rfl #[.agg #[.int .i64 a1_2, .int .i64 a1_3], .agg #[.int .i64 a1_0, .int .i64 a1_1], .pointer (some ⟨gb351, 0, none⟩)] (by rfl) rfl rfl (by rfl) (by (try simp only [List.map_toArray, List.map_cons, List.map_nil]); first | done | rfl | (simp only [List.length_drop, List.length_take]; rfl)) ?_
     with_reducible refine (hopmeshlaw05_GeometryMoves_3.calls a1_2 a1_3 a1_0 a1_1 gb351 a1_0 a1_1 a1_2 a1_3 a1_4 t375 t376 t377 t378 t379 _ ?side1 A93.out).mono ?_
     (case side1 => (with_reducible repeat (first | refine bkN ?_ _ | refine bkD ?_ | refine bkA ?_ _)); exact BK351.out)
     rintro e w125 ⟨rfl, hb⟩
     refine ⟨_, rfl, ?_⟩
     replace HO_29 := Aside0.mk (Kd.R_below (by (with_reducible repeat (first | apply Kd.R_alloc | apply Kd.R_drewN | apply Kd.R_drew)); exact HO_29.out) hb)
     replace BK350 := Aside0.mk (bkB (g := gb350) (o := .cells #[.int .i64 a0_0, .int .i64 a0_1, .int .i64 a0_2, .int .i64 a0_3] 51 (0, 0)) (by (with_reducible repeat (first | refine bkN ?_ _ | refine bkD ?_ | refine bkA ?_ _)); exact BK350.out) hb)
     replace BK351 := Aside0.mk (bkB (g := gb351) (o := .cells #[.int .i64 a1_0, .int .i64 a1_1, .int .i64 a1_2, .int .i64 a1_3, .int .i64 a1_4] 47 (0, 0)) (by (with_reducible repeat (first | refine bkN ?_ _ | refine bkD ?_ | refine bkA ?_ _)); exact BK351.out) hb)
     replace BK352 := Aside0.mk (bkB (g := gb352) (o := .cells #[.int .i64 a2_0, .int .i64 a2_1] 28 (0, 0)) (by (with_reducible repeat (first | refine bkN ?_ _ | refine bkD ?_ | refine bkA ?_ _)); exact BK352.out) hb)
     replace BK354 := Aside0.mk (bkB (g := gb354) (o := .cells #[.int .i64 a0_0, .int .i64 a0_1] 28 (0, 0)) (by (with_reducible repeat (first | refine bkN ?_ _ | refine bkD ?_ | refine bkA ?_ _)); exact BK354.out) hb)
     replace BK355 := Aside0.mk (bkB (g := gb355) (o := .cells #[.int .i64 a0_2, .int .i64 a0_3] 28 (0, 0)) (by (with_reducible repeat (first | refine bkN ?_ _ | refine bkD ?_ | refine bkA ?_ _)); exact BK355.out) hb)
     replace HB := Aside0.mk (below_step (by repeat (first | (with_reducible first | exact HB.out | apply blA | apply blN | apply blD | refine blS ?_ GE350.out | refine blS ?_ GE351.out | refine blS ?_ GE352.out | refine blS ?_ GE354.out | refine blS ?_ GE355.out) | exact HB.out)) hb)
     (try clear hb)
     refine hK.out _ _ ⟨(bkC BK355.out 0).trans rfl, (bkC BK355.out 1).trans rfl, (bkC BK354.out 0).trans rfl, (bkC BK354.out 1).trans rfl, (bkC BK351.out 0).trans rfl, (bkC BK351.out 1).trans rfl, (bkC BK351.out 2).trans rfl, (bkC BK351.out 3).trans rfl, (bkC BK351.out 4).trans rfl⟩ (fun hHeld => ?_)
     clear hK K
     refine norm_ (a' := ?_) ?_ ?_
     rotate_left
     ·show Act.put _ (some 116) _ = _
      simp only [Act.put, List.setIfInBounds_toArray, List.set_cons_zero, List.set_cons_succ, i64_w, i32_w]
      rfl
     refine one_ (i := 15) (N := some 117) #[true,true,true,true,true,true,true,true,true,true,true,true,true,true,true,true,true,false,false,false,false,false,false,false,false,false,false,false,false,false,false,false,false,false,false,false,false,false,false,false,false,false,false,false,false,false,false,false,false,false,false,false,false,false,false,false,false,false,false,false,false,false,false,false,false,false,false,false,false,false,false,false,false,false,false] rfl rfl (one_of HT_.out (by kernel_rfl)) (by decide) (fun K hK => ?_)
     refine goes_ Try.func27 (by kernel_rfl) rfl #[.agg #[.int .i64 a0_0, .int .i64 a0_1], .agg #[.int .i64 a0_2, .int .i64 a0_3], .agg #[.int .i64 t375, .int .i64 t376, .int .i64 t377, .int .i64 t378, .int .i64 t379]] (by rfl) rfl rfl (by (try simp only [List.map_toArray, List.map_cons, List.map_nil]); first | done | rfl | (simp only [List.length_drop, List.length_take]; rfl)) ?_
     with_reducible refine (geometry_Crosses.calls k1 a0_0 a0_1 a0_2 a0_3 t375 t376 t377 t378 t379 t380 _ A94.out).mono ?_
     rintro e w126 ⟨rfl, hb⟩
     refine ⟨_, rfl, ?_⟩
     replace HO_29 := Aside0.mk (Kd.R_below (by (with_reducible repeat (first | apply Kd.R_alloc | apply Kd.R_drewN | apply Kd.R_drew)); exact HO_29.out) hb)
     replace BK350 := Aside0.mk (bkB (g := gb350) (o := .cells #[.int .i64 a0_0, .int .i64 a0_1, .int .i64 a0_2, .int .i64 a0_3] 51 (0, 0)) (by (with_reducible repeat (first | refine bkN ?_ _ | refine bkD ?_ | refine bkA ?_ _)); exact BK350.out) hb)
     replace BK351 := Aside0.mk (bkB (g := gb351) (o := .cells #[.int .i64 a1_0, .int .i64 a1_1, .int .i64 a1_2, .int .i64 a1_3, .int .i64 a1_4] 47 (0, 0)) (by (with_reducible repeat (first | refine bkN ?_ _ | refine bkD ?_ | refine bkA ?_ _)); exact BK351.out) hb)
     replace BK352 := Aside0.mk (bkB (g := gb352) (o := .cells #[.int .i64 a2_0, .int .i64 a2_1] 28 (0, 0)) (by (with_reducible repeat (first | refine bkN ?_ _ | refine bkD ?_ | refine bkA ?_ _)); exact BK352.out) hb)
     replace BK354 := Aside0.mk (bkB (g := gb354) (o := .cells #[.int .i64 a0_0, .int .i64 a0_1] 28 (0, 0)) (by (with_reducible repeat (first | refine bkN ?_ _ | refine bkD ?_ | refine bkA ?_ _)); exact BK354.out) hb)
     replace BK355 := Aside0.mk (bkB (g := gb355) (o := .cells #[.int .i64 a0_2, .int .i64 a0_3] 28 (0, 0)) (by (with_reducible repeat (first | refine bkN ?_ _ | refine bkD ?_ | refine bkA ?_ _)); exact BK355.out) hb)
     replace HB := Aside0.mk (below_step (by repeat (first | (with_reducible first | exact HB.out | apply blA | apply blN | apply blD | refine blS ?_ GE350.out | refine blS ?_ GE351.out | refine blS ?_ GE352.out | refine blS ?_ GE354.out | refine blS ?_ GE355.out) | exact HB.out)) hb)
     (try clear hb)
     refine hK.out _ _ ⟨(bkC BK355.out 0).trans rfl, (bkC BK355.out 1).trans rfl, (bkC BK354.out 0).trans rfl, (bkC BK354.out 1).trans rfl, (bkC BK351.out 0).trans rfl, (bkC BK351.out 1).trans rfl, (bkC BK351.out 2).trans rfl, (bkC BK351.out 3).trans rfl, (bkC BK351.out 4).trans rfl⟩ (fun hHeld => ?_)
     clear hK K
     refine norm_ (a' := ?_) ?_ ?_
     rotate_left
     ·show Act.put _ (some 117) _ = _
      simp only [Act.put, List.setIfInBounds_toArray, List.set_cons_zero, List.set_cons_succ, i64_w, i32_w]
      rfl
     refine pure_ (i := 17) (N := some 119) (v := ?_) (a' := ?_) #[true,true,true,true,true,true,true,true,true,true,true,true,true,true,true,true,true,true,false,false,false,false,false,false,false,false,false,false,false,false,false,false,false,false,false,false,false,false,false,false,false,false,false,false,false,false,false,false,false,false,false,false,false,false,false,false,false,false,false,false,false,false,false,false,false,false,false,false,false,false,false,false,false,false,false] rfl rfl (any_of HT_.out (by kernel_rfl)) (fun _ _ _ h => h) (Or.inl ⟨by rfl, ?_⟩) ?_ ?_
     rotate_left
     ·intro w'
      go_simp
      with_reducible rfl
     rotate_left
     ·simp only [Act.put, List.setIfInBounds_toArray, List.set_cons_zero, List.set_cons_succ, i64_w, i32_w]
      rfl
     refine pure_ (i := 18) (N := some 120) (v := ?_) (a' := ?_) #[true,true,true,true,true,true,true,true,true,true,true,true,true,true,true,true,true,true,true,false,false,false,false,false,false,false,false,false,false,false,false,false,false,false,false,false,false,false,false,false,false,false,false,false,false,false,false,false,false,false,false,false,false,false,false,false,false,false,false,false,false,false,false,false,false,false,false,false,false,false,false,false,false,false,false] rfl rfl (any_of HT_.out (by kernel_rfl)) (fun _ _ _ h => h) (Or.inl ⟨by rfl, ?_⟩) ?_ ?_
     rotate_left
     ·intro w'
      go_simp
      with_reducible rfl
     rotate_left
     ·simp only [Act.put, List.setIfInBounds_toArray, List.set_cons_zero, List.set_cons_succ, i64_w, i32_w]
      rfl
     refine pure_ (i := 19) (N := some 121) (v := ?_) (a' := ?_) #[true,true,true,true,true,true,true,true,true,true,true,true,true,true,true,true,true,true,true,true,false,false,false,false,false,false,false,false,false,false,false,false,false,false,false,false,false,false,false,false,false,false,false,false,false,false,false,false,false,false,false,false,false,false,false,false,false,false,false,false,false,false,false,false,false,false,false,false,false,false,false,false,false,false,false] rfl rfl (any_of HT_.out (by kernel_rfl)) (fun _ _ _ h => h) (Or.inl ⟨by rfl, ?_⟩) ?_ ?_
     rotate_left
     ·intro w'
      go_simp
      with_reducible rfl
     rotate_left
     ·simp only [Act.put, List.setIfInBounds_toArray, List.set_cons_zero, List.set_cons_succ, i64_w, i32_w]
      rfl
     refine pure_ (i := 20) (N := some 122) (v := ?_) (a' := ?_) #[true,true,true,true,true,true,true,true,true,true,true,true,true,true,true,true,true,true,true,true,true,false,false,false,false,false,false,false,false,false,false,false,false,false,false,false,false,false,false,false,false,false,false,false,false,false,false,false,false,false,false,false,false,false,false,false,false,false,false,false,false,false,false,false,false,false,false,false,false,false,false,false,false,false,false] rfl rfl (any_of HT_.out (by kernel_rfl)) (fun _ _ _ h => h) (Or.inl ⟨by rfl, ?_⟩) ?_ ?_
     rotate_left
     ·intro w'
      go_simp
      with_reducible rfl
     rotate_left
     ·simp only [Act.put, List.setIfInBounds_toArray, List.set_cons_zero, List.set_cons_succ, i64_w, i32_w]
      rfl
     refine pure_ (i := 22) (N := some 124) (v := ?_) (a' := ?_) #[true,true,true,true,true,true,true,true,true,true,true,true,true,true,true,true,true,true,true,true,true,false,true,false,false,false,false,false,false,false,false,false,false,false,false,false,false,false,false,false,false,false,false,false,false,false,false,false,false,false,false,false,false,false,false,false,false,false,false,false,false,false,false,false,false,false,false,false,false,false,false,false,false,false,false] rfl rfl (any_of HT_.out (by kernel_rfl)) (fun _ _ _ h => h) (Or.inl ⟨by rfl, ?_⟩) ?_ ?_
     rotate_left
     ·intro w'
      go_simp
      with_reducible rfl
     rotate_left
     ·simp only [Act.put, List.setIfInBounds_toArray, List.set_cons_zero, List.set_cons_succ, i64_w, i32_w]
      rfl
     refine pure_ (i := 24) (N := some 126) (v := ?_) (a' := ?_) #[true,true,true,true,true,true,true,true,true,true,true,true,true,true,true,true,true,true,true,true,true,false,true,false,true,false,false,false,false,false,false,false,false,false,false,false,false,false,false,false,false,false,false,false,false,false,false,false,false,false,false,false,false,false,false,false,false,false,false,false,false,false,false,false,false,false,false,false,false,false,false,false,false,false,false] rfl rfl (any_of HT_.out (by kernel_rfl)) (fun _ _ _ h => h) (Or.inl ⟨by rfl, ?_⟩) ?_ ?_
     rotate_left
     ·intro w'
      go_simp
      with_reducible rfl
     rotate_left
     ·simp only [Act.put, List.setIfInBounds_toArray, List.set_cons_zero, List.set_cons_succ, i64_w, i32_w]
      rfl
     refine pure_ (i := 29) (N := some 131) (v := ?_) (a' := ?_) #[true,true,true,true,true,true,true,true,true,true,true,true,true,true,true,true,true,true,true,true,true,false,true,false,true,false,false,false,false,true,false,false,false,false,false,false,false,false,false,false,false,false,false,false,false,false,false,false,false,false,false,false,false,false,false,false,false,false,false,false,false,false,false,false,false,false,false,false,false,false,false,false,false,false,false] rfl rfl (any_of HT_.out (by kernel_rfl)) (fun _ _ _ h => h) (Or.inl ⟨by rfl, ?_⟩) ?_ ?_
     rotate_left
     ·intro w'
      go_simp
      with_reducible rfl
     rotate_left
     ·simp only [Act.put, List.setIfInBounds_toArray, List.set_cons_zero, List.set_cons_succ, i64_w, i32_w]
      rfl
     refine take_ (i := 21) (N := some 123) (v := ?_) (a' := ?_) #[true,true,true,true,true,true,true,true,true,true,true,true,true,true,true,true,true,true,true,true,true,true,true,false,true,false,false,false,false,true,false,false,false,false,false,false,false,false,false,false,false,false,false,false,false,false,false,false,false,false,false,false,false,false,false,false,false,false,false,false,false,false,false,false,false,false,false,false,false,false,false,false,false,false,false] rfl rfl (take_ofW HT_.out HW_.out (by kernel_rfl)) (fun _ _ _ h => h) (Or.inl ⟨by rfl, ?_⟩) hHeld ?_ ?_
     rotate_left
     ·rintro w' ⟨s0, s1, s2, s3, s4, s5, s6, s7, s8⟩
      go_simp
      with_reducible rfl
     rotate_left
     ·simp only [Act.put, List.setIfInBounds_toArray, List.set_cons_zero, List.set_cons_succ, i64_w, i32_w]
      rfl
     refine take_ (i := 23) (N := some 125) (v := ?_) (a' := ?_) #[true,true,true,true,true,true,true,true,true,true,true,true,true,true,true,true,true,true,true,true,true,true,true,true,true,false,false,false,false,true,false,false,false,false,false,false,false,false,false,false,false,false,false,false,false,false,false,false,false,false,false,false,false,false,false,false,false,false,false,false,false,false,false,false,false,false,false,false,false,false,false,false,false,false,false] rfl rfl (take_ofW HT_.out HW_.out (by kernel_rfl)) (fun _ _ _ h => h) (Or.inl ⟨by rfl, ?_⟩) hHeld ?_ ?_
     rotate_left
     ·rintro w' ⟨s0, s1, s2, s3, s4, s5, s6, s7, s8⟩
      go_simp
      with_reducible rfl
     rotate_left
     ·simp only [Act.put, List.setIfInBounds_toArray, List.set_cons_zero, List.set_cons_succ, i64_w, i32_w]
      rfl
     refine take_ (i := 25) (N := some 127) (v := ?_) (a' := ?_) #[true,true,true,true,true,true,true,true,true,true,true,true,true,true,true,true,true,true,true,true,true,true,true,true,true,true,false,false,false,true,false,false,false,false,false,false,false,false,false,false,false,false,false,false,false,false,false,false,false,false,false,false,false,false,false,false,false,false,false,false,false,false,false,false,false,false,false,false,false,false,false,false,false,false,false] rfl rfl (take_ofW HT_.out HW_.out (by kernel_rfl)) (fun _ _ _ h => h) (Or.inl ⟨by rfl, ?_⟩) hHeld ?_ ?_
     rotate_left
     ·rintro w' ⟨s0, s1, s2, s3, s4, s5, s6, s7, s8⟩
      go_simp
      with_reducible rfl
     rotate_left
     ·simp only [Act.put, List.setIfInBounds_toArray, List.set_cons_zero, List.set_cons_succ, i64_w, i32_w]
      rfl
     refine take_ (i := 26) (N := some 128) (v := ?_) (a' := ?_) #[true,true,true,true,true,true,true,true,true,true,true,true,true,true,true,true,true,true,true,true,true,true,true,true,true,true,true,false,false,true,false,false,false,false,false,false,false,false,false,false,false,false,false,false,false,false,false,false,false,false,false,false,false,false,false,false,false,false,false,false,false,false,false,false,false,false,false,false,false,false,false,false,false,false,false] rfl rfl (take_ofW HT_.out HW_.out (by kernel_rfl)) (fun _ _ _ h => h) (Or.inl ⟨by rfl, ?_⟩) hHeld ?_ ?_
     rotate_left
     ·rintro w' ⟨s0, s1, s2, s3, s4, s5, s6, s7, s8⟩
      go_simp
      with_reducible rfl
     rotate_left
     ·simp only [Act.put, List.setIfInBounds_toArray, List.set_cons_zero, List.set_cons_succ, i64_w, i32_w]
      rfl
     refine one_ (i := 27) (N := some 129) #[true,true,true,true,true,true,true,true,true,true,true,true,true,true,true,true,true,true,true,true,true,true,true,true,true,true,true,true,false,true,false,false,false,false,false,false,false,false,false,false,false,false,false,false,false,false,false,false,false,false,false,false,false,false,false,false,false,false,false,false,false,false,false,false,false,false,false,false,false,false,false,false,false,false,false] rfl rfl (one_of HT_.out (by kernel_rfl)) (by decide) (fun K hK => ?_)
     refine goesv_ Try.func31 (by kernel_rfl) rfl #[.agg #[.int .i64 a0_0, .int .i64 a0_1], .agg #[.int .i64 a0_2, .int .i64 a0_3], .pointer (some ⟨gb351, 0, none⟩)] (by rfl) rfl rfl (by rfl) (by (try simp only [List.map_toArray, List.map_cons, List.map_nil]); first | done | rfl | (simp only [List.length_drop, List.length_take]; rfl)) ?_
     with_reducible refine (hopmeshlaw05_GeometryMoves_3.calls a0_0 a0_1 a0_2 a0_3 gb351 a1_0 a1_1 a1_2 a1_3 a1_4 t381 t382 t383 t384 t385 _ ?side1 A96.out).mono ?_
     (case side1 => (with_reducible repeat (first | refine bkN ?_ _ | refine bkD ?_ | refine bkA ?_ _)); exact BK351.out)
     rintro e w127 ⟨rfl, hb⟩
     refine ⟨_, rfl, ?_⟩
     replace HO_29 := Aside0.mk (Kd.R_below (by (with_reducible repeat (first | apply Kd.R_alloc | apply Kd.R_drewN | apply Kd.R_drew)); exact HO_29.out) hb)
     replace BK350 := Aside0.mk (bkB (g := gb350) (o := .cells #[.int .i64 a0_0, .int .i64 a0_1, .int .i64 a0_2, .int .i64 a0_3] 51 (0, 0)) (by (with_reducible repeat (first | refine bkN ?_ _ | refine bkD ?_ | refine bkA ?_ _)); exact BK350.out) hb)
     replace BK351 := Aside0.mk (bkB (g := gb351) (o := .cells #[.int .i64 a1_0, .int .i64 a1_1, .int .i64 a1_2, .int .i64 a1_3, .int .i64 a1_4] 47 (0, 0)) (by (with_reducible repeat (first | refine bkN ?_ _ | refine bkD ?_ | refine bkA ?_ _)); exact BK351.out) hb)
     replace BK352 := Aside0.mk (bkB (g := gb352) (o := .cells #[.int .i64 a2_0, .int .i64 a2_1] 28 (0, 0)) (by (with_reducible repeat (first | refine bkN ?_ _ | refine bkD ?_ | refine bkA ?_ _)); exact BK352.out) hb)
     replace BK354 := Aside0.mk (bkB (g := gb354) (o := .cells #[.int .i64 a0_0, .int .i64 a0_1] 28 (0, 0)) (by (with_reducible repeat (first | refine bkN ?_ _ | refine bkD ?_ | refine bkA ?_ _)); exact BK354.out) hb)
     replace BK355 := Aside0.mk (bkB (g := gb355) (o := .cells #[.int .i64 a0_2, .int .i64 a0_3] 28 (0, 0)) (by (with_reducible repeat (first | refine bkN ?_ _ | refine bkD ?_ | refine bkA ?_ _)); exact BK355.out) hb)
     replace HB := Aside0.mk (below_step (by repeat (first | (with_reducible first | exact HB.out | apply blA | apply blN | apply blD | refine blS ?_ GE350.out | refine blS ?_ GE351.out | refine blS ?_ GE352.out | refine blS ?_ GE354.out | refine blS ?_ GE355.out) | exact HB.out)) hb)
     (try clear hb)
     refine hK.out _ _ ⟨(bkC BK355.out 0).trans rfl, (bkC BK355.out 1).trans rfl, (bkC BK354.out 0).trans rfl, (bkC BK354.out 1).trans rfl, (bkC BK351.out 0).trans rfl, (bkC BK351.out 1).trans rfl, (bkC BK351.out 2).trans rfl, (bkC BK351.out 3).trans rfl, (bkC BK351.out 4).trans rfl⟩ (fun hHeld => ?_)
     clear hK K
     refine norm_ (a' := ?_) ?_ ?_
     rotate_left
     ·show Act.put _ (some 129) _ = _
      simp only [Act.put, List.setIfInBounds_toArray, List.set_cons_zero, List.set_cons_succ, i64_w, i32_w]
      rfl
     refine one_ (i := 28) (N := some 130) #[true,true,true,true,true,true,true,true,true,true,true,true,true,true,true,true,true,true,true,true,true,true,true,true,true,true,true,true,true,true,false,false,false,false,false,false,false,false,false,false,false,false,false,false,false,false,false,false,false,false,false,false,false,false,false,false,false,false,false,false,false,false,false,false,false,false,false,false,false,false,false,false,false,false,false] rfl rfl (one_of HT_.out (by kernel_rfl)) (by decide) (fun K hK => ?_)
     refine goes_ Try.func27 (by kernel_rfl) rfl #[.agg #[.int .i64 a1_0, .int .i64 a1_1], .agg #[.int .i64 a1_2, .int .i64 a1_3], .agg #[.int .i64 t381, .int .i64 t382, .int .i64 t383, .int .i64 t384, .int .i64 t385]] (by rfl) rfl rfl (by (try simp only [List.map_toArray, List.map_cons, List.map_nil]); first | done | rfl | (simp only [List.length_drop, List.length_take]; rfl)) ?_
     with_reducible refine (geometry_Crosses.calls k1 a1_0 a1_1 a1_2 a1_3 t381 t382 t383 t384 t385 t386 _ A97.out).mono ?_
     rintro e w128 ⟨rfl, hb⟩
     refine ⟨_, rfl, ?_⟩
     replace HO_29 := Aside0.mk (Kd.R_below (by (with_reducible repeat (first | apply Kd.R_alloc | apply Kd.R_drewN | apply Kd.R_drew)); exact HO_29.out) hb)
     replace BK350 := Aside0.mk (bkB (g := gb350) (o := .cells #[.int .i64 a0_0, .int .i64 a0_1, .int .i64 a0_2, .int .i64 a0_3] 51 (0, 0)) (by (with_reducible repeat (first | refine bkN ?_ _ | refine bkD ?_ | refine bkA ?_ _)); exact BK350.out) hb)
     replace BK351 := Aside0.mk (bkB (g := gb351) (o := .cells #[.int .i64 a1_0, .int .i64 a1_1, .int .i64 a1_2, .int .i64 a1_3, .int .i64 a1_4] 47 (0, 0)) (by (with_reducible repeat (first | refine bkN ?_ _ | refine bkD ?_ | refine bkA ?_ _)); exact BK351.out) hb)
     replace BK352 := Aside0.mk (bkB (g := gb352) (o := .cells #[.int .i64 a2_0, .int .i64 a2_1] 28 (0, 0)) (by (with_reducible repeat (first | refine bkN ?_ _ | refine bkD ?_ | refine bkA ?_ _)); exact BK352.out) hb)
     replace BK354 := Aside0.mk (bkB (g := gb354) (o := .cells #[.int .i64 a0_0, .int .i64 a0_1] 28 (0, 0)) (by (with_reducible repeat (first | refine bkN ?_ _ | refine bkD ?_ | refine bkA ?_ _)); exact BK354.out) hb)
     replace BK355 := Aside0.mk (bkB (g := gb355) (o := .cells #[.int .i64 a0_2, .int .i64 a0_3] 28 (0, 0)) (by (with_reducible repeat (first | refine bkN ?_ _ | refine bkD ?_ | refine bkA ?_ _)); exact BK355.out) hb)
     replace HB := Aside0.mk (below_step (by repeat (first | (with_reducible first | exact HB.out | apply blA | apply blN | apply blD | refine blS ?_ GE350.out | refine blS ?_ GE351.out | refine blS ?_ GE352.out | refine blS ?_ GE354.out | refine blS ?_ GE355.out) | exact HB.out)) hb)
     (try clear hb)
     refine hK.out _ _ ⟨(bkC BK355.out 0).trans rfl, (bkC BK355.out 1).trans rfl, (bkC BK354.out 0).trans rfl, (bkC BK354.out 1).trans rfl, (bkC BK351.out 0).trans rfl, (bkC BK351.out 1).trans rfl, (bkC BK351.out 2).trans rfl, (bkC BK351.out 3).trans rfl, (bkC BK351.out 4).trans rfl⟩ (fun hHeld => ?_)
     clear hK K
     refine norm_ (a' := ?_) ?_ ?_
     rotate_left
     ·show Act.put _ (some 130) _ = _
      simp only [Act.put, List.setIfInBounds_toArray, List.set_cons_zero, List.set_cons_succ, i64_w, i32_w]
      rfl
     refine pure_ (i := 30) (N := some 132) (v := ?_) (a' := ?_) #[true,true,true,true,true,true,true,true,true,true,true,true,true,true,true,true,true,true,true,true,true,true,true,true,true,true,true,true,true,true,true,false,false,false,false,false,false,false,false,false,false,false,false,false,false,false,false,false,false,false,false,false,false,false,false,false,false,false,false,false,false,false,false,false,false,false,false,false,false,false,false,false,false,false,false] rfl rfl (any_of HT_.out (by kernel_rfl)) (fun _ _ _ h => h) (Or.inl ⟨by rfl, ?_⟩) ?_ ?_
     rotate_left
     ·intro w'
      go_simp
      with_reducible rfl
     rotate_left
     ·simp only [Act.put, List.setIfInBounds_toArray, List.set_cons_zero, List.set_cons_succ, i64_w, i32_w]
      rfl
     refine pure_ (i := 31) (N := some 133) (v := ?_) (a' := ?_) #[true,true,true,true,true,true,true,true,true,true,true,true,true,true,true,true,true,true,true,true,true,true,true,true,true,true,true,true,true,true,true,true,false,false,false,false,false,false,false,false,false,false,false,false,false,false,false,false,false,false,false,false,false,false,false,false,false,false,false,false,false,false,false,false,false,false,false,false,false,false,false,false,false,false,false] rfl rfl (any_of HT_.out (by kernel_rfl)) (fun _ _ _ h => h) (Or.inl ⟨by rfl, ?_⟩) ?_ ?_
     rotate_left
     ·intro w'
      go_simp
      with_reducible rfl
     rotate_left
     ·simp only [Act.put, List.setIfInBounds_toArray, List.set_cons_zero, List.set_cons_succ, i64_w, i32_w]
      rfl
     refine pure_ (i := 32) (N := some 134) (v := ?_) (a' := ?_) #[true,true,true,true,true,true,true,true,true,true,true,true,true,true,true,true,true,true,true,true,true,true,true,true,true,true,true,true,true,true,true,true,true,false,false,false,false,false,false,false,false,false,false,false,false,false,false,false,false,false,false,false,false,false,false,false,false,false,false,false,false,false,false,false,false,false,false,false,false,false,false,false,false,false,false] rfl rfl (any_of HT_.out (by kernel_rfl)) (fun _ _ _ h => h) (Or.inl ⟨by rfl, ?_⟩) ?_ ?_
     rotate_left
     ·intro w'
      go_simp
      with_reducible rfl
     rotate_left
     ·simp only [Act.put, List.setIfInBounds_toArray, List.set_cons_zero, List.set_cons_succ, i64_w, i32_w]
      rfl
     refine pure_ (i := 33) (N := some 135) (v := ?_) (a' := ?_) #[true,true,true,true,true,true,true,true,true,true,true,true,true,true,true,true,true,true,true,true,true,true,true,true,true,true,true,true,true,true,true,true,true,true,false,false,false,false,false,false,false,false,false,false,false,false,false,false,false,false,false,false,false,false,false,false,false,false,false,false,false,false,false,false,false,false,false,false,false,false,false,false,false,false,false] rfl rfl (any_of HT_.out (by kernel_rfl)) (fun _ _ _ h => h) (Or.inl ⟨by rfl, ?_⟩) ?_ ?_
     rotate_left
     ·intro w'
      go_simp
      with_reducible rfl
     rotate_left
     ·simp only [Act.put, List.setIfInBounds_toArray, List.set_cons_zero, List.set_cons_succ, i64_w, i32_w]
      rfl
     refine pure_ (i := 36) (N := some 138) (v := ?_) (a' := ?_) #[true,true,true,true,true,true,true,true,true,true,true,true,true,true,true,true,true,true,true,true,true,true,true,true,true,true,true,true,true,true,true,true,true,true,false,false,true,false,false,false,false,false,false,false,false,false,false,false,false,false,false,false,false,false,false,false,false,false,false,false,false,false,false,false,false,false,false,false,false,false,false,false,false,false,false] rfl rfl (any_of HT_.out (by kernel_rfl)) (fun _ _ _ h => h) (Or.inl ⟨by rfl, ?_⟩) ?_ ?_
     rotate_left
     ·intro w'
      go_simp
      with_reducible rfl
     rotate_left
     ·simp only [Act.put, List.setIfInBounds_toArray, List.set_cons_zero, List.set_cons_succ, i64_w, i32_w]
      rfl
     refine pure_ (i := 39) (N := some 141) (v := ?_) (a' := ?_) #[true,true,true,true,true,true,true,true,true,true,true,true,true,true,true,true,true,true,true,true,true,true,true,true,true,true,true,true,true,true,true,true,true,true,false,false,true,false,false,true,false,false,false,false,false,false,false,false,false,false,false,false,false,false,false,false,false,false,false,false,false,false,false,false,false,false,false,false,false,false,false,false,false,false,false] rfl rfl (any_of HT_.out (by kernel_rfl)) (fun _ _ _ h => h) (Or.inl ⟨by rfl, ?_⟩) ?_ ?_
     rotate_left
     ·intro w'
      go_simp
      with_reducible rfl
     rotate_left
     ·simp only [Act.put, List.setIfInBounds_toArray, List.set_cons_zero, List.set_cons_succ, i64_w, i32_w]
      rfl
     refine pure_ (i := 40) (N := some 142) (v := ?_) (a' := ?_) #[true,true,true,true,true,true,true,true,true,true,true,true,true,true,true,true,true,true,true,true,true,true,true,true,true,true,true,true,true,true,true,true,true,true,false,false,true,false,false,true,true,false,false,false,false,false,false,false,false,false,false,false,false,false,false,false,false,false,false,false,false,false,false,false,false,false,false,false,false,false,false,false,false,false,false] rfl rfl (any_of HT_.out (by kernel_rfl)) (fun _ _ _ h => h) (Or.inl ⟨by rfl, ?_⟩) ?_ ?_
     rotate_left
     ·intro w'
      go_simp
      with_reducible rfl
     rotate_left
     ·simp only [Act.put, List.setIfInBounds_toArray, List.set_cons_zero, List.set_cons_succ, i64_w, i32_w]
      rfl
     refine pure_ (i := 41) (N := some 143) (v := ?_) (a' := ?_) #[true,true,true,true,true,true,true,true,true,true,true,true,true,true,true,true,true,true,true,true,true,true,true,true,true,true,true,true,true,true,true,true,true,true,false,false,true,false,false,true,true,true,false,false,false,false,false,false,false,false,false,false,false,false,false,false,false,false,false,false,false,false,false,false,false,false,false,false,false,false,false,false,false,false,false] rfl rfl (any_of HT_.out (by kernel_rfl)) (fun _ _ _ h => h) (Or.inl ⟨by rfl, ?_⟩) ?_ ?_
     rotate_left
     ·intro w'
      go_simp
      with_reducible rfl
     rotate_left
     ·simp only [Act.put, List.setIfInBounds_toArray, List.set_cons_zero, List.set_cons_succ, i64_w, i32_w]
      rfl
     refine pure_ (i := 44) (N := some 146) (v := ?_) (a' := ?_) #[true,true,true,true,true,true,true,true,true,true,true,true,true,true,true,true,true,true,true,true,true,true,true,true,true,true,true,true,true,true,true,true,true,true,false,false,true,false,false,true,true,true,false,false,true,false,false,false,false,false,false,false,false,false,false,false,false,false,false,false,false,false,false,false,false,false,false,false,false,false,false,false,false,false,false] rfl rfl (any_of HT_.out (by kernel_rfl)) (fun _ _ _ h => h) (Or.inl ⟨by rfl, ?_⟩) ?_ ?_
     rotate_left
     ·intro w'
      go_simp
      with_reducible rfl
     rotate_left
     ·simp only [Act.put, List.setIfInBounds_toArray, List.set_cons_zero, List.set_cons_succ, i64_w, i32_w]
      rfl
     refine pure_ (i := 45) (N := some 147) (v := ?_) (a' := ?_) #[true,true,true,true,true,true,true,true,true,true,true,true,true,true,true,true,true,true,true,true,true,true,true,true,true,true,true,true,true,true,true,true,true,true,false,false,true,false,false,true,true,true,false,false,true,true,false,false,false,false,false,false,false,false,false,false,false,false,false,false,false,false,false,false,false,false,false,false,false,false,false,false,false,false,false] rfl rfl (any_of HT_.out (by kernel_rfl)) (fun _ _ _ h => h) (Or.inl ⟨by rfl, ?_⟩) ?_ ?_
     rotate_left
     ·intro w'
      go_simp
      with_reducible rfl
     rotate_left
     ·simp only [Act.put, List.setIfInBounds_toArray, List.set_cons_zero, List.set_cons_succ, i64_w, i32_w]
      rfl
     refine pure_ (i := 50) (N := some 152) (v := ?_) (a' := ?_) #[true,true,true,true,true,true,true,true,true,true,true,true,true,true,true,true,true,true,true,true,true,true,true,true,true,true,true,true,true,true,true,true,true,true,false,false,true,false,false,true,true,true,false,false,true,true,false,false,false,false,true,false,false,false,false,false,false,false,false,false,false,false,false,false,false,false,false,false,false,false,false,false,false,false,false] rfl rfl (any_of HT_.out (by kernel_rfl)) (fun _ _ _ h => h) (Or.inl ⟨by rfl, ?_⟩) ?_ ?_
     rotate_left
     ·intro w'
      go_simp
      with_reducible rfl
     rotate_left
     ·simp only [Act.put, List.setIfInBounds_toArray, List.set_cons_zero, List.set_cons_succ, i64_w, i32_w]
      rfl
     refine take_ (i := 34) (N := some 136) (v := ?_) (a' := ?_) #[true,true,true,true,true,true,true,true,true,true,true,true,true,true,true,true,true,true,true,true,true,true,true,true,true,true,true,true,true,true,true,true,true,true,true,false,true,false,false,true,true,true,false,false,true,true,false,false,false,false,true,false,false,false,false,false,false,false,false,false,false,false,false,false,false,false,false,false,false,false,false,false,false,false,false] rfl rfl (take_ofW HT_.out HW_.out (by kernel_rfl)) (fun _ _ _ h => h) (Or.inl ⟨by rfl, ?_⟩) hHeld ?_ ?_
     rotate_left
     ·rintro w' ⟨s0, s1, s2, s3, s4, s5, s6, s7, s8⟩
      go_simp
      with_reducible rfl
     rotate_left
     ·simp only [Act.put, List.setIfInBounds_toArray, List.set_cons_zero, List.set_cons_succ, i64_w, i32_w]
      rfl
     refine take_ (i := 37) (N := some 139) (v := ?_) (a' := ?_) #[true,true,true,true,true,true,true,true,true,true,true,true,true,true,true,true,true,true,true,true,true,true,true,true,true,true,true,true,true,true,true,true,true,true,true,false,true,true,false,true,true,true,false,false,true,true,false,false,false,false,true,false,false,false,false,false,false,false,false,false,false,false,false,false,false,false,false,false,false,false,false,false,false,false,false] rfl rfl (take_ofW HT_.out HW_.out (by kernel_rfl)) (fun _ _ _ h => h) (Or.inl ⟨by rfl, ?_⟩) hHeld ?_ ?_
     rotate_left
     ·rintro w' ⟨s0, s1, s2, s3, s4, s5, s6, s7, s8⟩
      go_simp
      with_reducible rfl
     rotate_left
     ·simp only [Act.put, List.setIfInBounds_toArray, List.set_cons_zero, List.set_cons_succ, i64_w, i32_w]
      rfl
     refine take_ (i := 42) (N := some 144) (v := ?_) (a' := ?_) #[true,true,true,true,true,true,true,true,true,true,true,true,true,true,true,true,true,true,true,true,true,true,true,true,true,true,true,true,true,true,true,true,true,true,true,false,true,true,false,true,true,true,true,false,true,true,false,false,false,false,true,false,false,false,false,false,false,false,false,false,false,false,false,false,false,false,false,false,false,false,false,false,false,false,false] rfl rfl (take_ofW HT_.out HW_.out (by kernel_rfl)) (fun _ _ _ h => h) (Or.inl ⟨by rfl, ?_⟩) hHeld ?_ ?_
     rotate_left
     ·rintro w' ⟨s0, s1, s2, s3, s4, s5, s6, s7, s8⟩
      go_simp
      with_reducible rfl
     rotate_left
     ·simp only [Act.put, List.setIfInBounds_toArray, List.set_cons_zero, List.set_cons_succ, i64_w, i32_w]
      rfl
     refine take_ (i := 46) (N := some 148) (v := ?_) (a' := ?_) #[true,true,true,true,true,true,true,true,true,true,true,true,true,true,true,true,true,true,true,true,true,true,true,true,true,true,true,true,true,true,true,true,true,true,true,false,true,true,false,true,true,true,true,false,true,true,true,false,false,false,true,false,false,false,false,false,false,false,false,false,false,false,false,false,false,false,false,false,false,false,false,false,false,false,false] rfl rfl (take_ofW HT_.out HW_.out (by kernel_rfl)) (fun _ _ _ h => h) (Or.inl ⟨by rfl, ?_⟩) hHeld ?_ ?_
     rotate_left
     ·rintro w' ⟨s0, s1, s2, s3, s4, s5, s6, s7, s8⟩
      go_simp
      with_reducible rfl
     rotate_left
     ·simp only [Act.put, List.setIfInBounds_toArray, List.set_cons_zero, List.set_cons_succ, i64_w, i32_w]
      rfl
     refine one_ (i := 35) (N := some 137) #[true,true,true,true,true,true,true,true,true,true,true,true,true,true,true,true,true,true,true,true,true,true,true,true,true,true,true,true,true,true,true,true,true,true,true,true,true,true,false,true,true,true,true,false,true,true,true,false,false,false,true,false,false,false,false,false,false,false,false,false,false,false,false,false,false,false,false,false,false,false,false,false,false,false,false] rfl rfl (one_of HT_.out (by kernel_rfl)) (by decide) (fun K hK => ?_)
     refine goesv_ Try.func29 (by kernel_rfl) rfl #[.agg #[.int .i64 a0_0, .int .i64 a0_1], .pointer (some ⟨gb352, 0, none⟩)] (by rfl) rfl rfl (by rfl) (by (try simp only [List.map_toArray, List.map_cons, List.map_nil]); first | done | rfl | (simp only [List.length_drop, List.length_take]; rfl)) ?_
     with_reducible refine (hopmeshlaw05_GeometryMoves_1.calls a0_0 a0_1 gb352 a2_0 a2_1 t387 t388 _ ?side1 A99.out).mono ?_
     (case side1 => (with_reducible repeat (first | refine bkN ?_ _ | refine bkD ?_ | refine bkA ?_ _)); exact BK352.out)
     rintro e w129 ⟨rfl, hb⟩
     refine ⟨_, rfl, ?_⟩
     replace HO_29 := Aside0.mk (Kd.R_below (by (with_reducible repeat (first | apply Kd.R_alloc | apply Kd.R_drewN | apply Kd.R_drew)); exact HO_29.out) hb)
     replace BK350 := Aside0.mk (bkB (g := gb350) (o := .cells #[.int .i64 a0_0, .int .i64 a0_1, .int .i64 a0_2, .int .i64 a0_3] 51 (0, 0)) (by (with_reducible repeat (first | refine bkN ?_ _ | refine bkD ?_ | refine bkA ?_ _)); exact BK350.out) hb)
     replace BK351 := Aside0.mk (bkB (g := gb351) (o := .cells #[.int .i64 a1_0, .int .i64 a1_1, .int .i64 a1_2, .int .i64 a1_3, .int .i64 a1_4] 47 (0, 0)) (by (with_reducible repeat (first | refine bkN ?_ _ | refine bkD ?_ | refine bkA ?_ _)); exact BK351.out) hb)
     replace BK352 := Aside0.mk (bkB (g := gb352) (o := .cells #[.int .i64 a2_0, .int .i64 a2_1] 28 (0, 0)) (by (with_reducible repeat (first | refine bkN ?_ _ | refine bkD ?_ | refine bkA ?_ _)); exact BK352.out) hb)
     replace BK354 := Aside0.mk (bkB (g := gb354) (o := .cells #[.int .i64 a0_0, .int .i64 a0_1] 28 (0, 0)) (by (with_reducible repeat (first | refine bkN ?_ _ | refine bkD ?_ | refine bkA ?_ _)); exact BK354.out) hb)
     replace BK355 := Aside0.mk (bkB (g := gb355) (o := .cells #[.int .i64 a0_2, .int .i64 a0_3] 28 (0, 0)) (by (with_reducible repeat (first | refine bkN ?_ _ | refine bkD ?_ | refine bkA ?_ _)); exact BK355.out) hb)
     replace HB := Aside0.mk (below_step (by repeat (first | (with_reducible first | exact HB.out | apply blA | apply blN | apply blD | refine blS ?_ GE350.out | refine blS ?_ GE351.out | refine blS ?_ GE352.out | refine blS ?_ GE354.out | refine blS ?_ GE355.out) | exact HB.out)) hb)
     (try clear hb)
     refine hK.out _ _ ⟨(bkC BK355.out 0).trans rfl, (bkC BK355.out 1).trans rfl, (bkC BK354.out 0).trans rfl, (bkC BK354.out 1).trans rfl, (bkC BK351.out 0).trans rfl, (bkC BK351.out 1).trans rfl, (bkC BK351.out 2).trans rfl, (bkC BK351.out 3).trans rfl, (bkC BK351.out 4).trans rfl⟩ (fun hHeld => ?_)
     clear hK K
     refine norm_ (a' := ?_) ?_ ?_
     rotate_left
     ·show Act.put _ (some 137) _ = _
      simp only [Act.put, List.setIfInBounds_toArray, List.set_cons_zero, List.set_cons_succ, i64_w, i32_w]
      rfl
     refine one_ (i := 38) (N := some 140) #[true,true,true,true,true,true,true,true,true,true,true,true,true,true,true,true,true,true,true,true,true,true,true,true,true,true,true,true,true,true,true,true,true,true,true,true,true,true,true,true,true,true,true,false,true,true,true,false,false,false,true,false,false,false,false,false,false,false,false,false,false,false,false,false,false,false,false,false,false,false,false,false,false,false,false] rfl rfl (one_of HT_.out (by kernel_rfl)) (by decide) (fun K hK => ?_)
     refine goesv_ Try.func29 (by kernel_rfl) rfl #[.agg #[.int .i64 a0_2, .int .i64 a0_3], .pointer (some ⟨gb352, 0, none⟩)] (by rfl) rfl rfl (by rfl) (by (try simp only [List.map_toArray, List.map_cons, List.map_nil]); first | done | rfl | (simp only [List.length_drop, List.length_take]; rfl)) ?_
     with_reducible refine (hopmeshlaw05_GeometryMoves_1.calls a0_2 a0_3 gb352 a2_0 a2_1 t389 t390 _ ?side1 A100.out).mono ?_
     (case side1 => (with_reducible repeat (first | refine bkN ?_ _ | refine bkD ?_ | refine bkA ?_ _)); exact BK352.out)
     rintro e w130 ⟨rfl, hb⟩
     refine ⟨_, rfl, ?_⟩
     replace HO_29 := Aside0.mk (Kd.R_below (by (with_reducible repeat (first | apply Kd.R_alloc | apply Kd.R_drewN | apply Kd.R_drew)); exact HO_29.out) hb)
     replace BK350 := Aside0.mk (bkB (g := gb350) (o := .cells #[.int .i64 a0_0, .int .i64 a0_1, .int .i64 a0_2, .int .i64 a0_3] 51 (0, 0)) (by (with_reducible repeat (first | refine bkN ?_ _ | refine bkD ?_ | refine bkA ?_ _)); exact BK350.out) hb)
     replace BK351 := Aside0.mk (bkB (g := gb351) (o := .cells #[.int .i64 a1_0, .int .i64 a1_1, .int .i64 a1_2, .int .i64 a1_3, .int .i64 a1_4] 47 (0, 0)) (by (with_reducible repeat (first | refine bkN ?_ _ | refine bkD ?_ | refine bkA ?_ _)); exact BK351.out) hb)
     replace BK352 := Aside0.mk (bkB (g := gb352) (o := .cells #[.int .i64 a2_0, .int .i64 a2_1] 28 (0, 0)) (by (with_reducible repeat (first | refine bkN ?_ _ | refine bkD ?_ | refine bkA ?_ _)); exact BK352.out) hb)
     replace BK354 := Aside0.mk (bkB (g := gb354) (o := .cells #[.int .i64 a0_0, .int .i64 a0_1] 28 (0, 0)) (by (with_reducible repeat (first | refine bkN ?_ _ | refine bkD ?_ | refine bkA ?_ _)); exact BK354.out) hb)
     replace BK355 := Aside0.mk (bkB (g := gb355) (o := .cells #[.int .i64 a0_2, .int .i64 a0_3] 28 (0, 0)) (by (with_reducible repeat (first | refine bkN ?_ _ | refine bkD ?_ | refine bkA ?_ _)); exact BK355.out) hb)
     replace HB := Aside0.mk (below_step (by repeat (first | (with_reducible first | exact HB.out | apply blA | apply blN | apply blD | refine blS ?_ GE350.out | refine blS ?_ GE351.out | refine blS ?_ GE352.out | refine blS ?_ GE354.out | refine blS ?_ GE355.out) | exact HB.out)) hb)
     (try clear hb)
     refine hK.out _ _ ⟨(bkC BK355.out 0).trans rfl, (bkC BK355.out 1).trans rfl, (bkC BK354.out 0).trans rfl, (bkC BK354.out 1).trans rfl, (bkC BK351.out 0).trans rfl, (bkC BK351.out 1).trans rfl, (bkC BK351.out 2).trans rfl, (bkC BK351.out 3).trans rfl, (bkC BK351.out 4).trans rfl⟩ (fun hHeld => ?_)
     clear hK K
     refine norm_ (a' := ?_) ?_ ?_
     rotate_left
     ·show Act.put _ (some 140) _ = _
      simp only [Act.put, List.setIfInBounds_toArray, List.set_cons_zero, List.set_cons_succ, i64_w, i32_w]
      rfl
     refine one_ (i := 43) (N := some 145) #[true,true,true,true,true,true,true,true,true,true,true,true,true,true,true,true,true,true,true,true,true,true,true,true,true,true,true,true,true,true,true,true,true,true,true,true,true,true,true,true,true,true,true,true,true,true,true,false,false,false,true,false,false,false,false,false,false,false,false,false,false,false,false,false,false,false,false,false,false,false,false,false,false,false,false] rfl rfl (one_of HT_.out (by kernel_rfl)) (by decide) (fun K hK => ?_)
     refine goesv_ Try.func29 (by kernel_rfl) rfl #[.agg #[.int .i64 a1_0, .int .i64 a1_1], .pointer (some ⟨gb352, 0, none⟩)] (by rfl) rfl rfl (by rfl) (by (try simp only [List.map_toArray, List.map_cons, List.map_nil]); first | done | rfl | (simp only [List.length_drop, List.length_take]; rfl)) ?_
     with_reducible refine (hopmeshlaw05_GeometryMoves_1.calls a1_0 a1_1 gb352 a2_0 a2_1 t391 t392 _ ?side1 A101.out).mono ?_
     (case side1 => (with_reducible repeat (first | refine bkN ?_ _ | refine bkD ?_ | refine bkA ?_ _)); exact BK352.out)
     rintro e w131 ⟨rfl, hb⟩
     refine ⟨_, rfl, ?_⟩
     replace HO_29 := Aside0.mk (Kd.R_below (by (with_reducible repeat (first | apply Kd.R_alloc | apply Kd.R_drewN | apply Kd.R_drew)); exact HO_29.out) hb)
     replace BK350 := Aside0.mk (bkB (g := gb350) (o := .cells #[.int .i64 a0_0, .int .i64 a0_1, .int .i64 a0_2, .int .i64 a0_3] 51 (0, 0)) (by (with_reducible repeat (first | refine bkN ?_ _ | refine bkD ?_ | refine bkA ?_ _)); exact BK350.out) hb)
     replace BK351 := Aside0.mk (bkB (g := gb351) (o := .cells #[.int .i64 a1_0, .int .i64 a1_1, .int .i64 a1_2, .int .i64 a1_3, .int .i64 a1_4] 47 (0, 0)) (by (with_reducible repeat (first | refine bkN ?_ _ | refine bkD ?_ | refine bkA ?_ _)); exact BK351.out) hb)
     replace BK352 := Aside0.mk (bkB (g := gb352) (o := .cells #[.int .i64 a2_0, .int .i64 a2_1] 28 (0, 0)) (by (with_reducible repeat (first | refine bkN ?_ _ | refine bkD ?_ | refine bkA ?_ _)); exact BK352.out) hb)
     replace BK354 := Aside0.mk (bkB (g := gb354) (o := .cells #[.int .i64 a0_0, .int .i64 a0_1] 28 (0, 0)) (by (with_reducible repeat (first | refine bkN ?_ _ | refine bkD ?_ | refine bkA ?_ _)); exact BK354.out) hb)
     replace BK355 := Aside0.mk (bkB (g := gb355) (o := .cells #[.int .i64 a0_2, .int .i64 a0_3] 28 (0, 0)) (by (with_reducible repeat (first | refine bkN ?_ _ | refine bkD ?_ | refine bkA ?_ _)); exact BK355.out) hb)
     replace HB := Aside0.mk (below_step (by repeat (first | (with_reducible first | exact HB.out | apply blA | apply blN | apply blD | refine blS ?_ GE350.out | refine blS ?_ GE351.out | refine blS ?_ GE352.out | refine blS ?_ GE354.out | refine blS ?_ GE355.out) | exact HB.out)) hb)
     (try clear hb)
     refine hK.out _ _ ⟨(bkC BK355.out 0).trans rfl, (bkC BK355.out 1).trans rfl, (bkC BK354.out 0).trans rfl, (bkC BK354.out 1).trans rfl, (bkC BK351.out 0).trans rfl, (bkC BK351.out 1).trans rfl, (bkC BK351.out 2).trans rfl, (bkC BK351.out 3).trans rfl, (bkC BK351.out 4).trans rfl⟩ (fun hHeld => ?_)
     clear hK K
     refine norm_ (a' := ?_) ?_ ?_
     rotate_left
     ·show Act.put _ (some 145) _ = _
      simp only [Act.put, List.setIfInBounds_toArray, List.set_cons_zero, List.set_cons_succ, i64_w, i32_w]
      rfl
     refine one_ (i := 47) (N := some 149) #[true,true,true,true,true,true,true,true,true,true,true,true,true,true,true,true,true,true,true,true,true,true,true,true,true,true,true,true,true,true,true,true,true,true,true,true,true,true,true,true,true,true,true,true,true,true,true,true,false,false,true,false,false,false,false,false,false,false,false,false,false,false,false,false,false,false,false,false,false,false,false,false,false,false,false] rfl rfl (one_of HT_.out (by kernel_rfl)) (by decide) (fun K hK => ?_)
     refine goesv_ Try.func29 (by kernel_rfl) rfl #[.agg #[.int .i64 a1_2, .int .i64 a1_3], .pointer (some ⟨gb352, 0, none⟩)] (by rfl) rfl rfl (by rfl) (by (try simp only [List.map_toArray, List.map_cons, List.map_nil]); first | done | rfl | (simp only [List.length_drop, List.length_take]; rfl)) ?_
     with_reducible refine (hopmeshlaw05_GeometryMoves_1.calls a1_2 a1_3 gb352 a2_0 a2_1 t393 t394 _ ?side1 A102.out).mono ?_
     (case side1 => (with_reducible repeat (first | refine bkN ?_ _ | refine bkD ?_ | refine bkA ?_ _)); exact BK352.out)
     rintro e w132 ⟨rfl, hb⟩
     refine ⟨_, rfl, ?_⟩
     replace HO_29 := Aside0.mk (Kd.R_below (by (with_reducible repeat (first | apply Kd.R_alloc | apply Kd.R_drewN | apply Kd.R_drew)); exact HO_29.out) hb)
     replace BK350 := Aside0.mk (bkB (g := gb350) (o := .cells #[.int .i64 a0_0, .int .i64 a0_1, .int .i64 a0_2, .int .i64 a0_3] 51 (0, 0)) (by (with_reducible repeat (first | refine bkN ?_ _ | refine bkD ?_ | refine bkA ?_ _)); exact BK350.out) hb)
     replace BK351 := Aside0.mk (bkB (g := gb351) (o := .cells #[.int .i64 a1_0, .int .i64 a1_1, .int .i64 a1_2, .int .i64 a1_3, .int .i64 a1_4] 47 (0, 0)) (by (with_reducible repeat (first | refine bkN ?_ _ | refine bkD ?_ | refine bkA ?_ _)); exact BK351.out) hb)
     replace BK352 := Aside0.mk (bkB (g := gb352) (o := .cells #[.int .i64 a2_0, .int .i64 a2_1] 28 (0, 0)) (by (with_reducible repeat (first | refine bkN ?_ _ | refine bkD ?_ | refine bkA ?_ _)); exact BK352.out) hb)
     replace BK354 := Aside0.mk (bkB (g := gb354) (o := .cells #[.int .i64 a0_0, .int .i64 a0_1] 28 (0, 0)) (by (with_reducible repeat (first | refine bkN ?_ _ | refine bkD ?_ | refine bkA ?_ _)); exact BK354.out) hb)
     replace BK355 := Aside0.mk (bkB (g := gb355) (o := .cells #[.int .i64 a0_2, .int .i64 a0_3] 28 (0, 0)) (by (with_reducible repeat (first | refine bkN ?_ _ | refine bkD ?_ | refine bkA ?_ _)); exact BK355.out) hb)
     replace HB := Aside0.mk (below_step (by repeat (first | (with_reducible first | exact HB.out | apply blA | apply blN | apply blD | refine blS ?_ GE350.out | refine blS ?_ GE351.out | refine blS ?_ GE352.out | refine blS ?_ GE354.out | refine blS ?_ GE355.out) | exact HB.out)) hb)
     (try clear hb)
     refine hK.out _ _ ⟨(bkC BK355.out 0).trans rfl, (bkC BK355.out 1).trans rfl, (bkC BK354.out 0).trans rfl, (bkC BK354.out 1).trans rfl, (bkC BK351.out 0).trans rfl, (bkC BK351.out 1).trans rfl, (bkC BK351.out 2).trans rfl, (bkC BK351.out 3).trans rfl, (bkC BK351.out 4).trans rfl⟩ (fun hHeld => ?_)
     clear hK K
     refine norm_ (a' := ?_) ?_ ?_
     rotate_left
     ·show Act.put _ (some 149) _ = _
      simp only [Act.put, List.setIfInBounds_toArray, List.set_cons_zero, List.set_cons_succ, i64_w, i32_w]
      rfl
     refine one_ (i := 48) (N := some 150) #[true,true,true,true,true,true,true,true,true,true,true,true,true,true,true,true,true,true,true,true,true,true,true,true,true,true,true,true,true,true,true,true,true,true,true,true,true,true,true,true,true,true,true,true,true,true,true,true,true,false,true,false,false,false,false,false,false,false,false,false,false,false,false,false,false,false,false,false,false,false,false,false,false,false,false] rfl rfl (one_of HT_.out (by kernel_rfl)) (by decide) (fun K hK => ?_)
     refine goesv_ Try.func31 (by kernel_rfl) rfl #[.agg #[.int .i64 t391, .int .i64 t392], .agg #[.int .i64 t393, .int .i64 t394], .pointer (some ⟨gb351, 0, none⟩)] (by rfl) rfl rfl (by rfl) (by (try simp only [List.map_toArray, List.map_cons, List.map_nil]); first | done | rfl | (simp only [List.length_drop, List.length_take]; rfl)) ?_
     with_reducible refine (hopmeshlaw05_GeometryMoves_3.calls t391 t392 t393 t394 gb351 a1_0 a1_1 a1_2 a1_3 a1_4 t395 t396 t397 t398 t399 _ ?side1 A103.out).mono ?_
     (case side1 => (with_reducible repeat (first | refine bkN ?_ _ | refine bkD ?_ | refine bkA ?_ _)); exact BK351.out)
     rintro e w133 ⟨rfl, hb⟩
     refine ⟨_, rfl, ?_⟩
     replace HO_29 := Aside0.mk (Kd.R_below (by (with_reducible repeat (first | apply Kd.R_alloc | apply Kd.R_drewN | apply Kd.R_drew)); exact HO_29.out) hb)
     replace BK350 := Aside0.mk (bkB (g := gb350) (o := .cells #[.int .i64 a0_0, .int .i64 a0_1, .int .i64 a0_2, .int .i64 a0_3] 51 (0, 0)) (by (with_reducible repeat (first | refine bkN ?_ _ | refine bkD ?_ | refine bkA ?_ _)); exact BK350.out) hb)
     replace BK351 := Aside0.mk (bkB (g := gb351) (o := .cells #[.int .i64 a1_0, .int .i64 a1_1, .int .i64 a1_2, .int .i64 a1_3, .int .i64 a1_4] 47 (0, 0)) (by (with_reducible repeat (first | refine bkN ?_ _ | refine bkD ?_ | refine bkA ?_ _)); exact BK351.out) hb)
     replace BK352 := Aside0.mk (bkB (g := gb352) (o := .cells #[.int .i64 a2_0, .int .i64 a2_1] 28 (0, 0)) (by (with_reducible repeat (first | refine bkN ?_ _ | refine bkD ?_ | refine bkA ?_ _)); exact BK352.out) hb)
     replace BK354 := Aside0.mk (bkB (g := gb354) (o := .cells #[.int .i64 a0_0, .int .i64 a0_1] 28 (0, 0)) (by (with_reducible repeat (first | refine bkN ?_ _ | refine bkD ?_ | refine bkA ?_ _)); exact BK354.out) hb)
     replace BK355 := Aside0.mk (bkB (g := gb355) (o := .cells #[.int .i64 a0_2, .int .i64 a0_3] 28 (0, 0)) (by (with_reducible repeat (first | refine bkN ?_ _ | refine bkD ?_ | refine bkA ?_ _)); exact BK355.out) hb)
     replace HB := Aside0.mk (below_step (by repeat (first | (with_reducible first | exact HB.out | apply blA | apply blN | apply blD | refine blS ?_ GE350.out | refine blS ?_ GE351.out | refine blS ?_ GE352.out | refine blS ?_ GE354.out | refine blS ?_ GE355.out) | exact HB.out)) hb)
     (try clear hb)
     refine hK.out _ _ ⟨(bkC BK355.out 0).trans rfl, (bkC BK355.out 1).trans rfl, (bkC BK354.out 0).trans rfl, (bkC BK354.out 1).trans rfl, (bkC BK351.out 0).trans rfl, (bkC BK351.out 1).trans rfl, (bkC BK351.out 2).trans rfl, (bkC BK351.out 3).trans rfl, (bkC BK351.out 4).trans rfl⟩ (fun hHeld => ?_)
     clear hK K
     refine norm_ (a' := ?_) ?_ ?_
     rotate_left
     ·show Act.put _ (some 150) _ = _
      simp only [Act.put, List.setIfInBounds_toArray, List.set_cons_zero, List.set_cons_succ, i64_w, i32_w]
      rfl
     refine one_ (i := 49) (N := some 151) #[true,true,true,true,true,true,true,true,true,true,true,true,true,true,true,true,true,true,true,true,true,true,true,true,true,true,true,true,true,true,true,true,true,true,true,true,true,true,true,true,true,true,true,true,true,true,true,true,true,true,true,false,false,false,false,false,false,false,false,false,false,false,false,false,false,false,false,false,false,false,false,false,false,false,false] rfl rfl (one_of HT_.out (by kernel_rfl)) (by decide) (fun K hK => ?_)
     refine goes_ Try.func27 (by kernel_rfl) rfl #[.agg #[.int .i64 t387, .int .i64 t388], .agg #[.int .i64 t389, .int .i64 t390], .agg #[.int .i64 t395, .int .i64 t396, .int .i64 t397, .int .i64 t398, .int .i64 t399]] (by rfl) rfl rfl (by (try simp only [List.map_toArray, List.map_cons, List.map_nil]); first | done | rfl | (simp only [List.length_drop, List.length_take]; rfl)) ?_
     with_reducible refine (geometry_Crosses.calls k1 t387 t388 t389 t390 t395 t396 t397 t398 t399 t400 _ A104.out).mono ?_
     rintro e w134 ⟨rfl, hb⟩
     refine ⟨_, rfl, ?_⟩
     replace HO_29 := Aside0.mk (Kd.R_below (by (with_reducible repeat (first | apply Kd.R_alloc | apply Kd.R_drewN | apply Kd.R_drew)); exact HO_29.out) hb)
     replace BK350 := Aside0.mk (bkB (g := gb350) (o := .cells #[.int .i64 a0_0, .int .i64 a0_1, .int .i64 a0_2, .int .i64 a0_3] 51 (0, 0)) (by (with_reducible repeat (first | refine bkN ?_ _ | refine bkD ?_ | refine bkA ?_ _)); exact BK350.out) hb)
     replace BK351 := Aside0.mk (bkB (g := gb351) (o := .cells #[.int .i64 a1_0, .int .i64 a1_1, .int .i64 a1_2, .int .i64 a1_3, .int .i64 a1_4] 47 (0, 0)) (by (with_reducible repeat (first | refine bkN ?_ _ | refine bkD ?_ | refine bkA ?_ _)); exact BK351.out) hb)
     replace BK352 := Aside0.mk (bkB (g := gb352) (o := .cells #[.int .i64 a2_0, .int .i64 a2_1] 28 (0, 0)) (by (with_reducible repeat (first | refine bkN ?_ _ | refine bkD ?_ | refine bkA ?_ _)); exact BK352.out) hb)
     replace BK354 := Aside0.mk (bkB (g := gb354) (o := .cells #[.int .i64 a0_0, .int .i64 a0_1] 28 (0, 0)) (by (with_reducible repeat (first | refine bkN ?_ _ | refine bkD ?_ | refine bkA ?_ _)); exact BK354.out) hb)
     replace BK355 := Aside0.mk (bkB (g := gb355) (o := .cells #[.int .i64 a0_2, .int .i64 a0_3] 28 (0, 0)) (by (with_reducible repeat (first | refine bkN ?_ _ | refine bkD ?_ | refine bkA ?_ _)); exact BK355.out) hb)
     replace HB := Aside0.mk (below_step (by repeat (first | (with_reducible first | exact HB.out | apply blA | apply blN | apply blD | refine blS ?_ GE350.out | refine blS ?_ GE351.out | refine blS ?_ GE352.out | refine blS ?_ GE354.out | refine blS ?_ GE355.out) | exact HB.out)) hb)
     (try clear hb)
     refine hK.out _ _ ⟨(bkC BK355.out 0).trans rfl, (bkC BK355.out 1).trans rfl, (bkC BK354.out 0).trans rfl, (bkC BK354.out 1).trans rfl, (bkC BK351.out 0).trans rfl, (bkC BK351.out 1).trans rfl, (bkC BK351.out 2).trans rfl, (bkC BK351.out 3).trans rfl, (bkC BK351.out 4).trans rfl⟩ (fun hHeld => ?_)
     clear hK K
     refine norm_ (a' := ?_) ?_ ?_
     rotate_left
     ·show Act.put _ (some 151) _ = _
      simp only [Act.put, List.setIfInBounds_toArray, List.set_cons_zero, List.set_cons_succ, i64_w, i32_w]
      rfl
     refine pure_ (i := 51) (N := some 153) (v := ?_) (a' := ?_) #[true,true,true,true,true,true,true,true,true,true,true,true,true,true,true,true,true,true,true,true,true,true,true,true,true,true,true,true,true,true,true,true,true,true,true,true,true,true,true,true,true,true,true,true,true,true,true,true,true,true,true,true,false,false,false,false,false,false,false,false,false,false,false,false,false,false,false,false,false,false,false,false,false,false,false] rfl rfl (any_of HT_.out (by kernel_rfl)) (fun _ _ _ h => h) (Or.inl ⟨by rfl, ?_⟩) ?_ ?_
     rotate_left
     ·intro w'
      go_simp
      with_reducible rfl
     rotate_left
     ·simp only [Act.put, List.setIfInBounds_toArray, List.set_cons_zero, List.set_cons_succ, i64_w, i32_w]
      rfl
     refine pure_ (i := 52) (N := some 154) (v := ?_) (a' := ?_) #[true,true,true,true,true,true,true,true,true,true,true,true,true,true,true,true,true,true,true,true,true,true,true,true,true,true,true,true,true,true,true,true,true,true,true,true,true,true,true,true,true,true,true,true,true,true,true,true,true,true,true,true,true,false,false,false,false,false,false,false,false,false,false,false,false,false,false,false,false,false,false,false,false,false,false] rfl rfl (any_of HT_.out (by kernel_rfl)) (fun _ _ _ h => h) (Or.inl ⟨by rfl, ?_⟩) ?_ ?_
     rotate_left
     ·intro w'
      go_simp
      with_reducible rfl
     rotate_left
     ·simp only [Act.put, List.setIfInBounds_toArray, List.set_cons_zero, List.set_cons_succ, i64_w, i32_w]
      rfl
     refine pure_ (i := 53) (N := some 155) (v := ?_) (a' := ?_) #[true,true,true,true,true,true,true,true,true,true,true,true,true,true,true,true,true,true,true,true,true,true,true,true,true,true,true,true,true,true,true,true,true,true,true,true,true,true,true,true,true,true,true,true,true,true,true,true,true,true,true,true,true,true,false,false,false,false,false,false,false,false,false,false,false,false,false,false,false,false,false,false,false,false,false] rfl rfl (any_of HT_.out (by kernel_rfl)) (fun _ _ _ h => h) (Or.inl ⟨by rfl, ?_⟩) ?_ ?_
     rotate_left
     ·intro w'
      go_simp
      with_reducible rfl
     rotate_left
     ·simp only [Act.put, List.setIfInBounds_toArray, List.set_cons_zero, List.set_cons_succ, i64_w, i32_w]
      rfl
     refine pure_ (i := 54) (N := some 156) (v := ?_) (a' := ?_) #[true,true,true,true,true,true,true,true,true,true,true,true,true,true,true,true,true,true,true,true,true,true,true,true,true,true,true,true,true,true,true,true,true,true,true,true,true,true,true,true,true,true,true,true,true,true,true,true,true,true,true,true,true,true,true,false,false,false,false,false,false,false,false,false,false,false,false,false,false,false,false,false,false,false,false] rfl rfl (any_of HT_.out (by kernel_rfl)) (fun _ _ _ h => h) (Or.inl ⟨by rfl, ?_⟩) ?_ ?_
     rotate_left
     ·intro w'
      go_simp
      with_reducible rfl
     rotate_left
     ·simp only [Act.put, List.setIfInBounds_toArray, List.set_cons_zero, List.set_cons_succ, i64_w, i32_w]
      rfl
     refine pure_ (i := 57) (N := some 159) (v := ?_) (a' := ?_) #[true,true,true,true,true,true,true,true,true,true,true,true,true,true,true,true,true,true,true,true,true,true,true,true,true,true,true,true,true,true,true,true,true,true,true,true,true,true,true,true,true,true,true,true,true,true,true,true,true,true,true,true,true,true,true,false,false,true,false,false,false,false,false,false,false,false,false,false,false,false,false,false,false,false,false] rfl rfl (any_of HT_.out (by kernel_rfl)) (fun _ _ _ h => h) (Or.inl ⟨by rfl, ?_⟩) ?_ ?_
     rotate_left
     ·intro w'
      go_simp
      with_reducible rfl
     rotate_left
     ·simp only [Act.put, List.setIfInBounds_toArray, List.set_cons_zero, List.set_cons_succ, i64_w, i32_w]
      rfl
     refine pure_ (i := 60) (N := some 162) (v := ?_) (a' := ?_) #[true,true,true,true,true,true,true,true,true,true,true,true,true,true,true,true,true,true,true,true,true,true,true,true,true,true,true,true,true,true,true,true,true,true,true,true,true,true,true,true,true,true,true,true,true,true,true,true,true,true,true,true,true,true,true,false,false,true,false,false,true,false,false,false,false,false,false,false,false,false,false,false,false,false,false] rfl rfl (any_of HT_.out (by kernel_rfl)) (fun _ _ _ h => h) (Or.inl ⟨by rfl, ?_⟩) ?_ ?_
     rotate_left
     ·intro w'
      go_simp
      with_reducible rfl
     rotate_left
     ·simp only [Act.put, List.setIfInBounds_toArray, List.set_cons_zero, List.set_cons_succ, i64_w, i32_w]
      rfl
     refine pure_ (i := 61) (N := some 163) (v := ?_) (a' := ?_) #[true,true,true,true,true,true,true,true,true,true,true,true,true,true,true,true,true,true,true,true,true,true,true,true,true,true,true,true,true,true,true,true,true,true,true,true,true,true,true,true,true,true,true,true,true,true,true,true,true,true,true,true,true,true,true,false,false,true,false,false,true,true,false,false,false,false,false,false,false,false,false,false,false,false,false] rfl rfl (any_of HT_.out (by kernel_rfl)) (fun _ _ _ h => h) (Or.inl ⟨by rfl, ?_⟩) ?_ ?_
     rotate_left
     ·intro w'
      go_simp
      with_reducible rfl
     rotate_left
     ·simp only [Act.put, List.setIfInBounds_toArray, List.set_cons_zero, List.set_cons_succ, i64_w, i32_w]
      rfl
     refine pure_ (i := 62) (N := some 164) (v := ?_) (a' := ?_) #[true,true,true,true,true,true,true,true,true,true,true,true,true,true,true,true,true,true,true,true,true,true,true,true,true,true,true,true,true,true,true,true,true,true,true,true,true,true,true,true,true,true,true,true,true,true,true,true,true,true,true,true,true,true,true,false,false,true,false,false,true,true,true,false,false,false,false,false,false,false,false,false,false,false,false] rfl rfl (any_of HT_.out (by kernel_rfl)) (fun _ _ _ h => h) (Or.inl ⟨by rfl, ?_⟩) ?_ ?_
     rotate_left
     ·intro w'
      go_simp
      with_reducible rfl
     rotate_left
     ·simp only [Act.put, List.setIfInBounds_toArray, List.set_cons_zero, List.set_cons_succ, i64_w, i32_w]
      rfl
     refine pure_ (i := 65) (N := some 167) (v := ?_) (a' := ?_) #[true,true,true,true,true,true,true,true,true,true,true,true,true,true,true,true,true,true,true,true,true,true,true,true,true,true,true,true,true,true,true,true,true,true,true,true,true,true,true,true,true,true,true,true,true,true,true,true,true,true,true,true,true,true,true,false,false,true,false,false,true,true,true,false,false,true,false,false,false,false,false,false,false,false,false] rfl rfl (any_of HT_.out (by kernel_rfl)) (fun _ _ _ h => h) (Or.inl ⟨by rfl, ?_⟩) ?_ ?_
     rotate_left
     ·intro w'
      go_simp
      with_reducible rfl
     rotate_left
     ·simp only [Act.put, List.setIfInBounds_toArray, List.set_cons_zero, List.set_cons_succ, i64_w, i32_w]
      rfl
     refine pure_ (i := 66) (N := some 168) (v := ?_) (a' := ?_) #[true,true,true,true,true,true,true,true,true,true,true,true,true,true,true,true,true,true,true,true,true,true,true,true,true,true,true,true,true,true,true,true,true,true,true,true,true,true,true,true,true,true,true,true,true,true,true,true,true,true,true,true,true,true,true,false,false,true,false,false,true,true,true,false,false,true,true,false,false,false,false,false,false,false,false] rfl rfl (any_of HT_.out (by kernel_rfl)) (fun _ _ _ h => h) (Or.inl ⟨by rfl, ?_⟩) ?_ ?_
     rotate_left
     ·intro w'
      go_simp
      with_reducible rfl
     rotate_left
     ·simp only [Act.put, List.setIfInBounds_toArray, List.set_cons_zero, List.set_cons_succ, i64_w, i32_w]
      rfl
     refine pure_ (i := 71) (N := some 173) (v := ?_) (a' := ?_) #[true,true,true,true,true,true,true,true,true,true,true,true,true,true,true,true,true,true,true,true,true,true,true,true,true,true,true,true,true,true,true,true,true,true,true,true,true,true,true,true,true,true,true,true,true,true,true,true,true,true,true,true,true,true,true,false,false,true,false,false,true,true,true,false,false,true,true,false,false,false,false,true,false,false,false] rfl rfl (any_of HT_.out (by kernel_rfl)) (fun _ _ _ h => h) (Or.inl ⟨by rfl, ?_⟩) ?_ ?_
     rotate_left
     ·intro w'
      go_simp
      with_reducible rfl
     rotate_left
     ·simp only [Act.put, List.setIfInBounds_toArray, List.set_cons_zero, List.set_cons_succ, i64_w, i32_w]
      rfl
     refine take_ (i := 55) (N := some 157) (v := ?_) (a' := ?_) #[true,true,true,true,true,true,true,true,true,true,true,true,true,true,true,true,true,true,true,true,true,true,true,true,true,true,true,true,true,true,true,true,true,true,true,true,true,true,true,true,true,true,true,true,true,true,true,true,true,true,true,true,true,true,true,true,false,true,false,false,true,true,true,false,false,true,true,false,false,false,false,true,false,false,false] rfl rfl (take_ofW HT_.out HW_.out (by kernel_rfl)) (fun _ _ _ h => h) (Or.inl ⟨by rfl, ?_⟩) hHeld ?_ ?_
     rotate_left
     ·rintro w' ⟨s0, s1, s2, s3, s4, s5, s6, s7, s8⟩
      go_simp
      with_reducible rfl
     rotate_left
     ·simp only [Act.put, List.setIfInBounds_toArray, List.set_cons_zero, List.set_cons_succ, i64_w, i32_w]
      rfl
     refine take_ (i := 58) (N := some 160) (v := ?_) (a' := ?_) #[true,true,true,true,true,true,true,true,true,true,true,true,true,true,true,true,true,true,true,true,true,true,true,true,true,true,true,true,true,true,true,true,true,true,true,true,true,true,true,true,true,true,true,true,true,true,true,true,true,true,true,true,true,true,true,true,false,true,true,false,true,true,true,false,false,true,true,false,false,false,false,true,false,false,false] rfl rfl (take_ofW HT_.out HW_.out (by kernel_rfl)) (fun _ _ _ h => h) (Or.inl ⟨by rfl, ?_⟩) hHeld ?_ ?_
     rotate_left
     ·rintro w' ⟨s0, s1, s2, s3, s4, s5, s6, s7, s8⟩
      go_simp
      with_reducible rfl
     rotate_left
     ·simp only [Act.put, List.setIfInBounds_toArray, List.set_cons_zero, List.set_cons_succ, i64_w, i32_w]
      rfl
     refine take_ (i := 63) (N := some 165) (v := ?_) (a' := ?_) #[true,true,true,true,true,true,true,true,true,true,true,true,true,true,true,true,true,true,true,true,true,true,true,true,true,true,true,true,true,true,true,true,true,true,true,true,true,true,true,true,true,true,true,true,true,true,true,true,true,true,true,true,true,true,true,true,false,true,true,false,true,true,true,true,false,true,true,false,false,false,false,true,false,false,false] rfl rfl (take_ofW HT_.out HW_.out (by kernel_rfl)) (fun _ _ _ h => h) (Or.inl ⟨by rfl, ?_⟩) hHeld ?_ ?_
     rotate_left
     ·rintro w' ⟨s0, s1, s2, s3, s4, s5, s6, s7, s8⟩
      go_simp
      with_reducible rfl
     rotate_left
     ·simp only [Act.put, List.setIfInBounds_toArray, List.set_cons_zero, List.set_cons_succ, i64_w, i32_w]
      rfl
     refine take_ (i := 67) (N := some 169) (v := ?_) (a' := ?_) #[true,true,true,true,true,true,true,true,true,true,true,true,true,true,true,true,true,true,true,true,true,true,true,true,true,true,true,true,true,true,true,true,true,true,true,true,true,true,true,true,true,true,true,true,true,true,true,true,true,true,true,true,true,true,true,true,false,true,true,false,true,true,true,true,false,true,true,true,false,false,false,true,false,false,false] rfl rfl (take_ofW HT_.out HW_.out (by kernel_rfl)) (fun _ _ _ h => h) (Or.inl ⟨by rfl, ?_⟩) hHeld ?_ ?_
     rotate_left
     ·rintro w' ⟨s0, s1, s2, s3, s4, s5, s6, s7, s8⟩
      go_simp
      with_reducible rfl
     rotate_left
     ·simp only [Act.put, List.setIfInBounds_toArray, List.set_cons_zero, List.set_cons_succ, i64_w, i32_w]
      rfl
     refine one_ (i := 56) (N := some 158) #[true,true,true,true,true,true,true,true,true,true,true,true,true,true,true,true,true,true,true,true,true,true,true,true,true,true,true,true,true,true,true,true,true,true,true,true,true,true,true,true,true,true,true,true,true,true,true,true,true,true,true,true,true,true,true,true,true,true,true,false,true,true,true,true,false,true,true,true,false,false,false,true,false,false,false] rfl rfl (one_of HT_.out (by kernel_rfl)) (by decide) (fun K hK => ?_)
     refine goesv_ Try.func30 (by kernel_rfl) rfl #[.agg #[.int .i64 a0_0, .int .i64 a0_1]] (by rfl) rfl rfl (by rfl) (by (try simp only [List.map_toArray, List.map_cons, List.map_nil]); first | done | rfl | (simp only [List.length_drop, List.length_take]; rfl)) ?_
     with_reducible refine (hopmeshlaw05_GeometryMoves_2.calls a0_0 a0_1 t401 t402 _ A106.out).mono ?_
     rintro e w135 ⟨rfl, hb⟩
     refine ⟨_, rfl, ?_⟩
     replace HO_29 := Aside0.mk (Kd.R_below (by (with_reducible repeat (first | apply Kd.R_alloc | apply Kd.R_drewN | apply Kd.R_drew)); exact HO_29.out) hb)
     replace BK350 := Aside0.mk (bkB (g := gb350) (o := .cells #[.int .i64 a0_0, .int .i64 a0_1, .int .i64 a0_2, .int .i64 a0_3] 51 (0, 0)) (by (with_reducible repeat (first | refine bkN ?_ _ | refine bkD ?_ | refine bkA ?_ _)); exact BK350.out) hb)
     replace BK351 := Aside0.mk (bkB (g := gb351) (o := .cells #[.int .i64 a1_0, .int .i64 a1_1, .int .i64 a1_2, .int .i64 a1_3, .int .i64 a1_4] 47 (0, 0)) (by (with_reducible repeat (first | refine bkN ?_ _ | refine bkD ?_ | refine bkA ?_ _)); exact BK351.out) hb)
     replace BK352 := Aside0.mk (bkB (g := gb352) (o := .cells #[.int .i64 a2_0, .int .i64 a2_1] 28 (0, 0)) (by (with_reducible repeat (first | refine bkN ?_ _ | refine bkD ?_ | refine bkA ?_ _)); exact BK352.out) hb)
     replace BK354 := Aside0.mk (bkB (g := gb354) (o := .cells #[.int .i64 a0_0, .int .i64 a0_1] 28 (0, 0)) (by (with_reducible repeat (first | refine bkN ?_ _ | refine bkD ?_ | refine bkA ?_ _)); exact BK354.out) hb)
     replace BK355 := Aside0.mk (bkB (g := gb355) (o := .cells #[.int .i64 a0_2, .int .i64 a0_3] 28 (0, 0)) (by (with_reducible repeat (first | refine bkN ?_ _ | refine bkD ?_ | refine bkA ?_ _)); exact BK355.out) hb)
     replace HB := Aside0.mk (below_step (by repeat (first | (with_reducible first | exact HB.out | apply blA | apply blN | apply blD | refine blS ?_ GE350.out | refine blS ?_ GE351.out | refine blS ?_ GE352.out | refine blS ?_ GE354.out | refine blS ?_ GE355.out) | exact HB.out)) hb)
     (try clear hb)
     refine hK.out _ _ ⟨(bkC BK355.out 0).trans rfl, (bkC BK355.out 1).trans rfl, (bkC BK354.out 0).trans rfl, (bkC BK354.out 1).trans rfl, (bkC BK351.out 0).trans rfl, (bkC BK351.out 1).trans rfl, (bkC BK351.out 2).trans rfl, (bkC BK351.out 3).trans rfl, (bkC BK351.out 4).trans rfl⟩ (fun hHeld => ?_)
     clear hK K
     refine norm_ (a' := ?_) ?_ ?_
     rotate_left
     ·show Act.put _ (some 158) _ = _
      simp only [Act.put, List.setIfInBounds_toArray, List.set_cons_zero, List.set_cons_succ, i64_w, i32_w]
      rfl
     refine one_ (i := 59) (N := some 161) #[true,true,true,true,true,true,true,true,true,true,true,true,true,true,true,true,true,true,true,true,true,true,true,true,true,true,true,true,true,true,true,true,true,true,true,true,true,true,true,true,true,true,true,true,true,true,true,true,true,true,true,true,true,true,true,true,true,true,true,true,true,true,true,true,false,true,true,true,false,false,false,true,false,false,false] rfl rfl (one_of HT_.out (by kernel_rfl)) (by decide) (fun K hK => ?_)
     refine goesv_ Try.func30 (by kernel_rfl) rfl #[.agg #[.int .i64 a0_2, .int .i64 a0_3]] (by rfl) rfl rfl (by rfl) (by (try simp only [List.map_toArray, List.map_cons, List.map_nil]); first | done | rfl | (simp only [List.length_drop, List.length_take]; rfl)) ?_
     with_reducible refine (hopmeshlaw05_GeometryMoves_2.calls a0_2 a0_3 t403 t404 _ A107.out).mono ?_
     rintro e w136 ⟨rfl, hb⟩
     refine ⟨_, rfl, ?_⟩
     replace HO_29 := Aside0.mk (Kd.R_below (by (with_reducible repeat (first | apply Kd.R_alloc | apply Kd.R_drewN | apply Kd.R_drew)); exact HO_29.out) hb)
     replace BK350 := Aside0.mk (bkB (g := gb350) (o := .cells #[.int .i64 a0_0, .int .i64 a0_1, .int .i64 a0_2, .int .i64 a0_3] 51 (0, 0)) (by (with_reducible repeat (first | refine bkN ?_ _ | refine bkD ?_ | refine bkA ?_ _)); exact BK350.out) hb)
     replace BK351 := Aside0.mk (bkB (g := gb351) (o := .cells #[.int .i64 a1_0, .int .i64 a1_1, .int .i64 a1_2, .int .i64 a1_3, .int .i64 a1_4] 47 (0, 0)) (by (with_reducible repeat (first | refine bkN ?_ _ | refine bkD ?_ | refine bkA ?_ _)); exact BK351.out) hb)
     replace BK352 := Aside0.mk (bkB (g := gb352) (o := .cells #[.int .i64 a2_0, .int .i64 a2_1] 28 (0, 0)) (by (with_reducible repeat (first | refine bkN ?_ _ | refine bkD ?_ | refine bkA ?_ _)); exact BK352.out) hb)
     replace BK354 := Aside0.mk (bkB (g := gb354) (o := .cells #[.int .i64 a0_0, .int .i64 a0_1] 28 (0, 0)) (by (with_reducible repeat (first | refine bkN ?_ _ | refine bkD ?_ | refine bkA ?_ _)); exact BK354.out) hb)
     replace BK355 := Aside0.mk (bkB (g := gb355) (o := .cells #[.int .i64 a0_2, .int .i64 a0_3] 28 (0, 0)) (by (with_reducible repeat (first | refine bkN ?_ _ | refine bkD ?_ | refine bkA ?_ _)); exact BK355.out) hb)
     replace HB := Aside0.mk (below_step (by repeat (first | (with_reducible first | exact HB.out | apply blA | apply blN | apply blD | refine blS ?_ GE350.out | refine blS ?_ GE351.out | refine blS ?_ GE352.out | refine blS ?_ GE354.out | refine blS ?_ GE355.out) | exact HB.out)) hb)
     (try clear hb)
     refine hK.out _ _ ⟨(bkC BK355.out 0).trans rfl, (bkC BK355.out 1).trans rfl, (bkC BK354.out 0).trans rfl, (bkC BK354.out 1).trans rfl, (bkC BK351.out 0).trans rfl, (bkC BK351.out 1).trans rfl, (bkC BK351.out 2).trans rfl, (bkC BK351.out 3).trans rfl, (bkC BK351.out 4).trans rfl⟩ (fun hHeld => ?_)
     clear hK K
     refine norm_ (a' := ?_) ?_ ?_
     rotate_left
     ·show Act.put _ (some 161) _ = _
      simp only [Act.put, List.setIfInBounds_toArray, List.set_cons_zero, List.set_cons_succ, i64_w, i32_w]
      rfl
     refine one_ (i := 64) (N := some 166) #[true,true,true,true,true,true,true,true,true,true,true,true,true,true,true,true,true,true,true,true,true,true,true,true,true,true,true,true,true,true,true,true,true,true,true,true,true,true,true,true,true,true,true,true,true,true,true,true,true,true,true,true,true,true,true,true,true,true,true,true,true,true,true,true,true,true,true,true,false,false,false,true,false,false,false] rfl rfl (one_of HT_.out (by kernel_rfl)) (by decide) (fun K hK => ?_)
     refine goesv_ Try.func30 (by kernel_rfl) rfl #[.agg #[.int .i64 a1_0, .int .i64 a1_1]] (by rfl) rfl rfl (by rfl) (by (try simp only [List.map_toArray, List.map_cons, List.map_nil]); first | done | rfl | (simp only [List.length_drop, List.length_take]; rfl)) ?_
     with_reducible refine (hopmeshlaw05_GeometryMoves_2.calls a1_0 a1_1 t405 t406 _ A108.out).mono ?_
     rintro e w137 ⟨rfl, hb⟩
     refine ⟨_, rfl, ?_⟩
     replace HO_29 := Aside0.mk (Kd.R_below (by (with_reducible repeat (first | apply Kd.R_alloc | apply Kd.R_drewN | apply Kd.R_drew)); exact HO_29.out) hb)
     replace BK350 := Aside0.mk (bkB (g := gb350) (o := .cells #[.int .i64 a0_0, .int .i64 a0_1, .int .i64 a0_2, .int .i64 a0_3] 51 (0, 0)) (by (with_reducible repeat (first | refine bkN ?_ _ | refine bkD ?_ | refine bkA ?_ _)); exact BK350.out) hb)
     replace BK351 := Aside0.mk (bkB (g := gb351) (o := .cells #[.int .i64 a1_0, .int .i64 a1_1, .int .i64 a1_2, .int .i64 a1_3, .int .i64 a1_4] 47 (0, 0)) (by (with_reducible repeat (first | refine bkN ?_ _ | refine bkD ?_ | refine bkA ?_ _)); exact BK351.out) hb)
     replace BK352 := Aside0.mk (bkB (g := gb352) (o := .cells #[.int .i64 a2_0, .int .i64 a2_1] 28 (0, 0)) (by (with_reducible repeat (first | refine bkN ?_ _ | refine bkD ?_ | refine bkA ?_ _)); exact BK352.out) hb)
     replace BK354 := Aside0.mk (bkB (g := gb354) (o := .cells #[.int .i64 a0_0, .int .i64 a0_1] 28 (0, 0)) (by (with_reducible repeat (first | refine bkN ?_ _ | refine bkD ?_ | refine bkA ?_ _)); exact BK354.out) hb)
     replace BK355 := Aside0.mk (bkB (g := gb355) (o := .cells #[.int .i64 a0_2, .int .i64 a0_3] 28 (0, 0)) (by (with_reducible repeat (first | refine bkN ?_ _ | refine bkD ?_ | refine bkA ?_ _)); exact BK355.out) hb)
     replace HB := Aside0.mk (below_step (by repeat (first | (with_reducible first | exact HB.out | apply blA | apply blN | apply blD | refine blS ?_ GE350.out | refine blS ?_ GE351.out | refine blS ?_ GE352.out | refine blS ?_ GE354.out | refine blS ?_ GE355.out) | exact HB.out)) hb)
     (try clear hb)
     refine hK.out _ _ ⟨(bkC BK355.out 0).trans rfl, (bkC BK355.out 1).trans rfl, (bkC BK354.out 0).trans rfl, (bkC BK354.out 1).trans rfl, (bkC BK351.out 0).trans rfl, (bkC BK351.out 1).trans rfl, (bkC BK351.out 2).trans rfl, (bkC BK351.out 3).trans rfl, (bkC BK351.out 4).trans rfl⟩ (fun hHeld => ?_)
     clear hK K
     refine norm_ (a' := ?_) ?_ ?_
     rotate_left
     ·show Act.put _ (some 166) _ = _
      simp only [Act.put, List.setIfInBounds_toArray, List.set_cons_zero, List.set_cons_succ, i64_w, i32_w]
      rfl
     refine one_ (i := 68) (N := some 170) #[true,true,true,true,true,true,true,true,true,true,true,true,true,true,true,true,true,true,true,true,true,true,true,true,true,true,true,true,true,true,true,true,true,true,true,true,true,true,true,true,true,true,true,true,true,true,true,true,true,true,true,true,true,true,true,true,true,true,true,true,true,true,true,true,true,true,true,true,true,false,false,true,false,false,false] rfl rfl (one_of HT_.out (by kernel_rfl)) (by decide) (fun K hK => ?_)
     refine goesv_ Try.func30 (by kernel_rfl) rfl #[.agg #[.int .i64 a1_2, .int .i64 a1_3]] (by rfl) rfl rfl (by rfl) (by (try simp only [List.map_toArray, List.map_cons, List.map_nil]); first | done | rfl | (simp only [List.length_drop, List.length_take]; rfl)) ?_
     with_reducible refine (hopmeshlaw05_GeometryMoves_2.calls a1_2 a1_3 t407 t408 _ A109.out).mono ?_
     rintro e w138 ⟨rfl, hb⟩
     refine ⟨_, rfl, ?_⟩
     replace HO_29 := Aside0.mk (Kd.R_below (by (with_reducible repeat (first | apply Kd.R_alloc | apply Kd.R_drewN | apply Kd.R_drew)); exact HO_29.out) hb)
     replace BK350 := Aside0.mk (bkB (g := gb350) (o := .cells #[.int .i64 a0_0, .int .i64 a0_1, .int .i64 a0_2, .int .i64 a0_3] 51 (0, 0)) (by (with_reducible repeat (first | refine bkN ?_ _ | refine bkD ?_ | refine bkA ?_ _)); exact BK350.out) hb)
     replace BK351 := Aside0.mk (bkB (g := gb351) (o := .cells #[.int .i64 a1_0, .int .i64 a1_1, .int .i64 a1_2, .int .i64 a1_3, .int .i64 a1_4] 47 (0, 0)) (by (with_reducible repeat (first | refine bkN ?_ _ | refine bkD ?_ | refine bkA ?_ _)); exact BK351.out) hb)
     replace BK352 := Aside0.mk (bkB (g := gb352) (o := .cells #[.int .i64 a2_0, .int .i64 a2_1] 28 (0, 0)) (by (with_reducible repeat (first | refine bkN ?_ _ | refine bkD ?_ | refine bkA ?_ _)); exact BK352.out) hb)
     replace BK354 := Aside0.mk (bkB (g := gb354) (o := .cells #[.int .i64 a0_0, .int .i64 a0_1] 28 (0, 0)) (by (with_reducible repeat (first | refine bkN ?_ _ | refine bkD ?_ | refine bkA ?_ _)); exact BK354.out) hb)
     replace BK355 := Aside0.mk (bkB (g := gb355) (o := .cells #[.int .i64 a0_2, .int .i64 a0_3] 28 (0, 0)) (by (with_reducible repeat (first | refine bkN ?_ _ | refine bkD ?_ | refine bkA ?_ _)); exact BK355.out) hb)
     replace HB := Aside0.mk (below_step (by repeat (first | (with_reducible first | exact HB.out | apply blA | apply blN | apply blD | refine blS ?_ GE350.out | refine blS ?_ GE351.out | refine blS ?_ GE352.out | refine blS ?_ GE354.out | refine blS ?_ GE355.out) | exact HB.out)) hb)
     (try clear hb)
     refine hK.out _ _ ⟨(bkC BK355.out 0).trans rfl, (bkC BK355.out 1).trans rfl, (bkC BK354.out 0).trans rfl, (bkC BK354.out 1).trans rfl, (bkC BK351.out 0).trans rfl, (bkC BK351.out 1).trans rfl, (bkC BK351.out 2).trans rfl, (bkC BK351.out 3).trans rfl, (bkC BK351.out 4).trans rfl⟩ (fun hHeld => ?_)
     clear hK K
     refine norm_ (a' := ?_) ?_ ?_
     rotate_left
     ·show Act.put _ (some 170) _ = _
      simp only [Act.put, List.setIfInBounds_toArray, List.set_cons_zero, List.set_cons_succ, i64_w, i32_w]
      rfl
     refine one_ (i := 69) (N := some 171) #[true,true,true,true,true,true,true,true,true,true,true,true,true,true,true,true,true,true,true,true,true,true,true,true,true,true,true,true,true,true,true,true,true,true,true,true,true,true,true,true,true,true,true,true,true,true,true,true,true,true,true,true,true,true,true,true,true,true,true,true,true,true,true,true,true,true,true,true,true,true,false,true,false,false,false] rfl rfl (one_of HT_.out (by kernel_rfl)) (by decide) (fun K hK => ?_)
     refine goesv_ Try.func31 (by kernel_rfl) rfl #[.agg #[.int .i64 t405, .int .i64 t406], .agg #[.int .i64 t407, .int .i64 t408], .pointer (some ⟨gb351, 0, none⟩)] (by rfl) rfl rfl (by rfl) (by (try simp only [List.map_toArray, List.map_cons, List.map_nil]); first | done | rfl | (simp only [List.length_drop, List.length_take]; rfl)) ?_
     with_reducible refine (hopmeshlaw05_GeometryMoves_3.calls t405 t406 t407 t408 gb351 a1_0 a1_1 a1_2 a1_3 a1_4 t409 t410 t411 t412 t413 _ ?side1 A110.out).mono ?_
     (case side1 => (with_reducible repeat (first | refine bkN ?_ _ | refine bkD ?_ | refine bkA ?_ _)); exact BK351.out)
     rintro e w139 ⟨rfl, hb⟩
     refine ⟨_, rfl, ?_⟩
     replace HO_29 := Aside0.mk (Kd.R_below (by (with_reducible repeat (first | apply Kd.R_alloc | apply Kd.R_drewN | apply Kd.R_drew)); exact HO_29.out) hb)
     replace BK350 := Aside0.mk (bkB (g := gb350) (o := .cells #[.int .i64 a0_0, .int .i64 a0_1, .int .i64 a0_2, .int .i64 a0_3] 51 (0, 0)) (by (with_reducible repeat (first | refine bkN ?_ _ | refine bkD ?_ | refine bkA ?_ _)); exact BK350.out) hb)
     replace BK351 := Aside0.mk (bkB (g := gb351) (o := .cells #[.int .i64 a1_0, .int .i64 a1_1, .int .i64 a1_2, .int .i64 a1_3, .int .i64 a1_4] 47 (0, 0)) (by (with_reducible repeat (first | refine bkN ?_ _ | refine bkD ?_ | refine bkA ?_ _)); exact BK351.out) hb)
     replace BK352 := Aside0.mk (bkB (g := gb352) (o := .cells #[.int .i64 a2_0, .int .i64 a2_1] 28 (0, 0)) (by (with_reducible repeat (first | refine bkN ?_ _ | refine bkD ?_ | refine bkA ?_ _)); exact BK352.out) hb)
     replace BK354 := Aside0.mk (bkB (g := gb354) (o := .cells #[.int .i64 a0_0, .int .i64 a0_1] 28 (0, 0)) (by (with_reducible repeat (first | refine bkN ?_ _ | refine bkD ?_ | refine bkA ?_ _)); exact BK354.out) hb)
     replace BK355 := Aside0.mk (bkB (g := gb355) (o := .cells #[.int .i64 a0_2, .int .i64 a0_3] 28 (0, 0)) (by (with_reducible repeat (first | refine bkN ?_ _ | refine bkD ?_ | refine bkA ?_ _)); exact BK355.out) hb)
     replace HB := Aside0.mk (below_step (by repeat (first | (with_reducible first | exact HB.out | apply blA | apply blN | apply blD | refine blS ?_ GE350.out | refine blS ?_ GE351.out | refine blS ?_ GE352.out | refine blS ?_ GE354.out | refine blS ?_ GE355.out) | exact HB.out)) hb)
     (try clear hb)
     refine hK.out _ _ ⟨(bkC BK355.out 0).trans rfl, (bkC BK355.out 1).trans rfl, (bkC BK354.out 0).trans rfl, (bkC BK354.out 1).trans rfl, (bkC BK351.out 0).trans rfl, (bkC BK351.out 1).trans rfl, (bkC BK351.out 2).trans rfl, (bkC BK351.out 3).trans rfl, (bkC BK351.out 4).trans rfl⟩ (fun hHeld => ?_)
     clear hK K
     refine norm_ (a' := ?_) ?_ ?_
     rotate_left
     ·show Act.put _ (some 171) _ = _
      simp only [Act.put, List.setIfInBounds_toArray, List.set_cons_zero, List.set_cons_succ, i64_w, i32_w]
      rfl
     refine one_ (i := 70) (N := some 172) #[true,true,true,true,true,true,true,true,true,true,true,true,true,true,true,true,true,true,true,true,true,true,true,true,true,true,true,true,true,true,true,true,true,true,true,true,true,true,true,true,true,true,true,true,true,true,true,true,true,true,true,true,true,true,true,true,true,true,true,true,true,true,true,true,true,true,true,true,true,true,true,true,false,false,false] rfl rfl (one_of HT_.out (by kernel_rfl)) (by decide) (fun K hK => ?_)
     refine goes_ Try.func27 (by kernel_rfl) rfl #[.agg #[.int .i64 t401, .int .i64 t402], .agg #[.int .i64 t403, .int .i64 t404], .agg #[.int .i64 t409, .int .i64 t410, .int .i64 t411, .int .i64 t412, .int .i64 t413]] (by rfl) rfl rfl (by (try simp only [List.map_toArray, List.map_cons, List.map_nil]); first | done | rfl | (simp only [List.length_drop, List.length_take]; rfl)) ?_
     with_reducible refine (geometry_Crosses.calls k1 t401 t402 t403 t404 t409 t410 t411 t412 t413 t414 _ A111.out).mono ?_
     rintro e w140 ⟨rfl, hb⟩
     refine ⟨_, rfl, ?_⟩
     replace HO_29 := Aside0.mk (Kd.R_below (by (with_reducible repeat (first | apply Kd.R_alloc | apply Kd.R_drewN | apply Kd.R_drew)); exact HO_29.out) hb)
     replace BK350 := Aside0.mk (bkB (g := gb350) (o := .cells #[.int .i64 a0_0, .int .i64 a0_1, .int .i64 a0_2, .int .i64 a0_3] 51 (0, 0)) (by (with_reducible repeat (first | refine bkN ?_ _ | refine bkD ?_ | refine bkA ?_ _)); exact BK350.out) hb)
     replace BK351 := Aside0.mk (bkB (g := gb351) (o := .cells #[.int .i64 a1_0, .int .i64 a1_1, .int .i64 a1_2, .int .i64 a1_3, .int .i64 a1_4] 47 (0, 0)) (by (with_reducible repeat (first | refine bkN ?_ _ | refine bkD ?_ | refine bkA ?_ _)); exact BK351.out) hb)
     replace BK352 := Aside0.mk (bkB (g := gb352) (o := .cells #[.int .i64 a2_0, .int .i64 a2_1] 28 (0, 0)) (by (with_reducible repeat (first | refine bkN ?_ _ | refine bkD ?_ | refine bkA ?_ _)); exact BK352.out) hb)
     replace BK354 := Aside0.mk (bkB (g := gb354) (o := .cells #[.int .i64 a0_0, .int .i64 a0_1] 28 (0, 0)) (by (with_reducible repeat (first | refine bkN ?_ _ | refine bkD ?_ | refine bkA ?_ _)); exact BK354.out) hb)
     replace BK355 := Aside0.mk (bkB (g := gb355) (o := .cells #[.int .i64 a0_2, .int .i64 a0_3] 28 (0, 0)) (by (with_reducible repeat (first | refine bkN ?_ _ | refine bkD ?_ | refine bkA ?_ _)); exact BK355.out) hb)
     replace HB := Aside0.mk (below_step (by repeat (first | (with_reducible first | exact HB.out | apply blA | apply blN | apply blD | refine blS ?_ GE350.out | refine blS ?_ GE351.out | refine blS ?_ GE352.out | refine blS ?_ GE354.out | refine blS ?_ GE355.out) | exact HB.out)) hb)
     (try clear hb)
     refine hK.out _ _ ⟨(bkC BK355.out 0).trans rfl, (bkC BK355.out 1).trans rfl, (bkC BK354.out 0).trans rfl, (bkC BK354.out 1).trans rfl, (bkC BK351.out 0).trans rfl, (bkC BK351.out 1).trans rfl, (bkC BK351.out 2).trans rfl, (bkC BK351.out 3).trans rfl, (bkC BK351.out 4).trans rfl⟩ (fun hHeld => ?_)
     clear hK K
     refine norm_ (a' := ?_) ?_ ?_
     rotate_left
     ·show Act.put _ (some 172) _ = _
      simp only [Act.put, List.setIfInBounds_toArray, List.set_cons_zero, List.set_cons_succ, i64_w, i32_w]
      rfl
     refine pure_ (i := 72) (N := some 174) (v := ?_) (a' := ?_) #[true,true,true,true,true,true,true,true,true,true,true,true,true,true,true,true,true,true,true,true,true,true,true,true,true,true,true,true,true,true,true,true,true,true,true,true,true,true,true,true,true,true,true,true,true,true,true,true,true,true,true,true,true,true,true,true,true,true,true,true,true,true,true,true,true,true,true,true,true,true,true,true,true,false,false] rfl rfl (any_of HT_.out (by kernel_rfl)) (fun _ _ _ h => h) (Or.inl ⟨by rfl, ?_⟩) ?_ ?_
     rotate_left
     ·intro w'
      go_simp
      with_reducible rfl
     rotate_left
     ·simp only [Act.put, List.setIfInBounds_toArray, List.set_cons_zero, List.set_cons_succ, i64_w, i32_w]
      rfl
     refine pure_ (i := 73) (N := some 175) (v := ?_) (a' := ?_) #[true,true,true,true,true,true,true,true,true,true,true,true,true,true,true,true,true,true,true,true,true,true,true,true,true,true,true,true,true,true,true,true,true,true,true,true,true,true,true,true,true,true,true,true,true,true,true,true,true,true,true,true,true,true,true,true,true,true,true,true,true,true,true,true,true,true,true,true,true,true,true,true,true,true,false] rfl rfl (any_of HT_.out (by kernel_rfl)) (fun _ _ _ h => h) (Or.inl ⟨by rfl, ?_⟩) ?_ ?_
     rotate_left
     ·intro w'
      go_simp
      with_reducible rfl
     rotate_left
     ·simp only [Act.put, List.setIfInBounds_toArray, List.set_cons_zero, List.set_cons_succ, i64_w, i32_w]
      rfl
     refine pure_ (i := 74) (N := some 6) (v := ?_) (a' := ?_) #[true,true,true,true,true,true,true,true,true,true,true,true,true,true,true,true,true,true,true,true,true,true,true,true,true,true,true,true,true,true,true,true,true,true,true,true,true,true,true,true,true,true,true,true,true,true,true,true,true,true,true,true,true,true,true,true,true,true,true,true,true,true,true,true,true,true,true,true,true,true,true,true,true,true,true] rfl rfl (any_of HT_.out (by kernel_rfl)) (fun _ _ _ h => h) (Or.inl ⟨by rfl, ?_⟩) ?_ ?_
     rotate_left
     ·intro w'
      go_simp
      with_reducible rfl
     rotate_left
     ·simp only [Act.put, List.setIfInBounds_toArray, List.set_cons_zero, List.set_cons_succ, i64_w, i32_w]
      rfl
     refine done_ (done_of HT_.out (by kernel_rfl)) ?_
     try go_wp2
     go_ret
     exact ⟨by first | rfl | (simp [errW_none, errW_some] <;> rfl) | (simp [*, errW_none, errW_some] <;> rfl), by repeat (first | (with_reducible first | exact HB.out | apply blA | apply blN | apply blD | refine blS ?_ GE350.out | refine blS ?_ GE351.out | refine blS ?_ GE352.out | refine blS ?_ GE354.out | refine blS ?_ GE355.out) | exact HB.out)⟩
end Go.Proofs.Ytcdgpnjlaicbcaa.PA
