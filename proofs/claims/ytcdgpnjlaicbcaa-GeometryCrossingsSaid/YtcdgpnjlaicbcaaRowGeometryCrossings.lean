/- The row of GeometryCrossings: for every input the law returns true, and each argument reads behind the call as it read before. Written by a program of this session (rows.py) over the printed contract and the pure statement. -/
import Derived.Test.YtcdgpnjlaicbcaaRows
import Derived.Test.YtcdgpnjlaicbcaaPAx39
import Derived.Test.YtcdgpnjlaicbcaaOpen
import Derived.Test.YtcdgpnjlaicbcaaPureGeometryCrossings
import Derived.WalkKit
import Derived.ProofKit
import Derived.OpenShut
import Derived.ShutString
import Derived.ChangeOld
import Derived.Below
import Derived.SizedLaws
namespace Go.Proofs.Ytcdgpnjlaicbcaa.geometryCrossings
open Go.ChangeShapes Go.WideShapes Go.ChangeAt Go.RowKit Go.Proofs.YtcdgpnjlaicbcaaW.PrintWords Go.Proofs.Ytcdgpnjlaicbcaa.Opn Go.Proofs.Ytcdgpnjlaicbcaa.PA
theorem own : ownKnob Try.prog.godebug = none := by kernel_rfl
theorem laidOut : laidOutB Try.prog = true := by kernel_rfl
set_option maxRecDepth 100000 in
theorem lifted (os : Os) (started : os.Started) (H : Type) (enc : TypeId × Value → H) :
    ReturnsInHanded {} Try.checked os 7 .any (Rows.geometryCrossingsSpec.pre6 enc Try.prog Try.f7 Rows.geometryCrossingsRow.domain false) (Rows.geometryCrossingsSpec.post enc Try.prog Try.f7 false true false false) := by
  refine returnsInHanded_of_change_sized (C := Try.checked) own started (by kernel_rfl) Try.func7
    (ChangeSpec.witness6 (enc := enc) (C := Try.checked) false ⟨#[], #[.agg #[.int .i64 0, .int .i64 0], .agg #[.int .i64 0, .int .i64 0], .agg #[.int .i64 0, .int .i64 0, .int .i64 0, .int .i64 0, .int .i64 0]], []⟩ 8 (by kernel_rfl) (by kernel_rfl) (by kernel_rfl) (by kernel_rfl)) ?_
  intro W base args ds gs before hval0 hW hcnd hsz0 _
  clear hsz0 hcnd
  have hval : ∀ (j : Nat) t v, Try.f7.params[j]? = some t → args[j]? = some v → Value.okWide Try.prog W .any base t v := hval0
  have hW' := hW
  obtain ⟨p, q, hA0, hV, rfl, hfz, hnd⟩ := hW
  have hA : DataW.TrodAll enc Try.prog W 0 (fun _ => true) true Try.f7.params.toList args.toList ds p := hA0
  rw [Try.params7] at hA hval
  obtain ⟨v0, vs0, d0, ds0, p0, q0, hargs, rfl, rfl, h0, r0⟩ := trodAll_cons hA
  obtain ⟨v1, vs1, d1, ds1, p1, q1, rfl, rfl, rfl, h1, r1⟩ := trodAll_cons r0
  obtain ⟨v2, vs2, d2, ds2, p2, q2, rfl, rfl, rfl, h2, r2⟩ := trodAll_cons r1
  obtain ⟨rfl, rfl, rfl⟩ := trodAll_nil r2
  obtain rfl : args = #[v0, v1, v2] := by cases args; simp_all
  obtain ⟨rfl, rfl⟩ := trodVars_none hV
  have k0 := h0
  have lt0 : ∀ x ∈ p0, x.block < W.heap.size := by obtain ⟨m, hm⟩ := k0; exact DataW.trod_lt m _ _ _ hm
  obtain ⟨cs0, rfl, hsz0⟩ := okWide_struct Try.underlying28 (hval 0 28 v0 rfl rfl)
  obtain ⟨cl0⟩ := cs0
  obtain ⟨fuel0, hf0⟩ := h0
  obtain ⟨xs0, n0, rfl, hd0, hlen0, hxs0, hg0⟩ := DataW.trod_struct Try.underlying28 hf0
  replace hg0 : ∀ (i_ : Nat) (f_ : Field), _ = some f_ → DataW.trod enc Try.prog W 0 (fun _ => true) true n0 f_.type ((cl0.drop f_.offset).take (Try.prog.cellsOf f_.type)) = xs0[i_]? := hg0
  replace hlen0 : cl0.length = 2 := hlen0
  replace hxs0 : xs0.length = 2 := hxs0
  obtain ⟨c0_0, c0_1, rfl⟩ := cells2 hlen0
  obtain ⟨z0_0, hz0_0⟩ : ∃ z, xs0[0]? = some z := ⟨_, List.getElem?_eq_getElem (by omega)⟩
  obtain ⟨y0_0, K0_0, w0_0⟩ := (opens_int Try.underlying3) W enc n0 [c0_0] z0_0 ((hg0 0 _ rfl).trans hz0_0)
  obtain rfl : c0_0 = Value.int .i64 y0_0 := by simpa [Kd.int, Kd.bool, Kd.scalar] using K0_0
  obtain ⟨z0_1, hz0_1⟩ : ∃ z, xs0[1]? = some z := ⟨_, List.getElem?_eq_getElem (by omega)⟩
  obtain ⟨y0_1, K0_1, w0_1⟩ := (opens_int Try.underlying3) W enc n0 [c0_1] z0_1 ((hg0 1 _ rfl).trans hz0_1)
  obtain rfl : c0_1 = Value.int .i64 y0_1 := by simpa [Kd.int, Kd.bool, Kd.scalar] using K0_1
  have k1 := h1
  have lt1 : ∀ x ∈ p1, x.block < W.heap.size := by obtain ⟨m, hm⟩ := k1; exact DataW.trod_lt m _ _ _ hm
  obtain ⟨cs1, rfl, hsz1⟩ := okWide_struct Try.underlying28 (hval 1 28 v1 rfl rfl)
  obtain ⟨cl1⟩ := cs1
  obtain ⟨fuel1, hf1⟩ := h1
  obtain ⟨xs1, n1, rfl, hd1, hlen1, hxs1, hg1⟩ := DataW.trod_struct Try.underlying28 hf1
  replace hg1 : ∀ (i_ : Nat) (f_ : Field), _ = some f_ → DataW.trod enc Try.prog W 0 (fun _ => true) true n1 f_.type ((cl1.drop f_.offset).take (Try.prog.cellsOf f_.type)) = xs1[i_]? := hg1
  replace hlen1 : cl1.length = 2 := hlen1
  replace hxs1 : xs1.length = 2 := hxs1
  obtain ⟨c1_0, c1_1, rfl⟩ := cells2 hlen1
  obtain ⟨z1_0, hz1_0⟩ : ∃ z, xs1[0]? = some z := ⟨_, List.getElem?_eq_getElem (by omega)⟩
  obtain ⟨y1_0, K1_0, w1_0⟩ := (opens_int Try.underlying3) W enc n1 [c1_0] z1_0 ((hg1 0 _ rfl).trans hz1_0)
  obtain rfl : c1_0 = Value.int .i64 y1_0 := by simpa [Kd.int, Kd.bool, Kd.scalar] using K1_0
  obtain ⟨z1_1, hz1_1⟩ : ∃ z, xs1[1]? = some z := ⟨_, List.getElem?_eq_getElem (by omega)⟩
  obtain ⟨y1_1, K1_1, w1_1⟩ := (opens_int Try.underlying3) W enc n1 [c1_1] z1_1 ((hg1 1 _ rfl).trans hz1_1)
  obtain rfl : c1_1 = Value.int .i64 y1_1 := by simpa [Kd.int, Kd.bool, Kd.scalar] using K1_1
  have k2 := h2
  have lt2 : ∀ x ∈ p2, x.block < W.heap.size := by obtain ⟨m, hm⟩ := k2; exact DataW.trod_lt m _ _ _ hm
  obtain ⟨cs2, rfl, hsz2⟩ := okWide_struct Try.underlying47 (hval 2 47 v2 rfl rfl)
  obtain ⟨cl2⟩ := cs2
  obtain ⟨fuel2, hf2⟩ := h2
  obtain ⟨xs2, n2, rfl, hd2, hlen2, hxs2, hg2⟩ := DataW.trod_struct Try.underlying47 hf2
  replace hg2 : ∀ (i_ : Nat) (f_ : Field), _ = some f_ → DataW.trod enc Try.prog W 0 (fun _ => true) true n2 f_.type ((cl2.drop f_.offset).take (Try.prog.cellsOf f_.type)) = xs2[i_]? := hg2
  replace hlen2 : cl2.length = 5 := hlen2
  replace hxs2 : xs2.length = 3 := hxs2
  obtain ⟨c2_0, c2_1, c2_2, c2_3, c2_4, rfl⟩ := cells5 hlen2
  obtain ⟨z2_0, hz2_0⟩ : ∃ z, xs2[0]? = some z := ⟨_, List.getElem?_eq_getElem (by omega)⟩
  obtain ⟨y2_0, K2_0, w2_0⟩ := opens28 W enc n2 [c2_0, c2_1] z2_0 ((hg2 0 _ rfl).trans hz2_0)
  obtain ⟨rfl, rfl⟩ : c2_0 = Value.int .i64 y2_0.f0 ∧ c2_1 = Value.int .i64 y2_0.f1 := by simpa using k28_open K2_0
  obtain ⟨z2_1, hz2_1⟩ : ∃ z, xs2[1]? = some z := ⟨_, List.getElem?_eq_getElem (by omega)⟩
  obtain ⟨y2_1, K2_1, w2_1⟩ := opens28 W enc n2 [c2_2, c2_3] z2_1 ((hg2 1 _ rfl).trans hz2_1)
  obtain ⟨rfl, rfl⟩ : c2_2 = Value.int .i64 y2_1.f0 ∧ c2_3 = Value.int .i64 y2_1.f1 := by simpa using k28_open K2_1
  obtain ⟨z2_2, hz2_2⟩ : ∃ z, xs2[2]? = some z := ⟨_, List.getElem?_eq_getElem (by omega)⟩
  obtain ⟨y2_2, K2_2, w2_2⟩ := (opens_int Try.underlying3) W enc n2 [c2_4] z2_2 ((hg2 2 _ rfl).trans hz2_2)
  obtain rfl : c2_4 = Value.int .i64 y2_2 := by simpa [Kd.int, Kd.bool, Kd.scalar] using K2_2
  clear hA0 hval0
  obtain ⟨kk, hk⟩ := Pure.GeometryCrossings y0_0 y0_1 y1_0 y1_1 y2_0 y2_1 y2_2 w0_0 w0_1 w1_0 w1_1 w2_0 w2_1 w2_2
  refine (hopmeshlaw05_GeometryCrossings.calls kk y0_0 y0_1 y1_0 y1_1 y2_0.f0 y2_0.f1 y2_1.f0 y2_1.f1 y2_2 true W  hk rfl).mono fun e W' ⟨he, bel⟩ => ?_
  subst he
  exact ⟨_, rfl, _, _, _, [], _, [], hW', trodAll_mk1 (shut_bool Try.underlying4 _), (trodAll_cons_mk (Below.trod laidOut (by kernel_rfl) (of_decide_eq_true (by kernel_rfl)) k0 bel lt0) (trodAll_cons_mk (Below.trod laidOut (by kernel_rfl) (of_decide_eq_true (by kernel_rfl)) k1 bel lt1) (trodAll_cons_mk (Below.trod laidOut (by kernel_rfl) (of_decide_eq_true (by kernel_rfl)) k2 bel lt2) trodAll_mk0))), rfl, bel.frame _, fun h => by cases h⟩
theorem over : Rows.geometryCrossingsRow.holds Try.pinned (OpenSpec.ofChange Rows.geometryCrossingsSpec) :=
  OpenClaim.holds_of_wide 7 Try.f7 rfl rfl rfl rfl rfl rfl rfl ⟨rfl, rfl, rfl, rfl, rfl⟩ rfl rfl rfl rfl rfl (by kernel_rfl) Try.func7 (by kernel_rfl)
    (of_decide_eq_true (by kernel_rfl)) (by unfold Func.isWrapper; first | (rw [if_pos (by decide +kernel)]; kernel_rfl) | (rw [if_neg (by decide +kernel)]; exact ⟨rfl, rfl⟩))
    (fun os started H enc _ => lifted os started H enc)
end Go.Proofs.Ytcdgpnjlaicbcaa.geometryCrossings
namespace Go.Proofs.Ytcdgpnjlaicbcaa
/-- The claim. -/
theorem geometryCrossings_holds : Rows.GeometryCrossingsSaid := geometryCrossings.over
#print axioms geometryCrossings_holds
end Go.Proofs.Ytcdgpnjlaicbcaa
