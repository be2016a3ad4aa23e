/- The row of HopLeaves: for every input the law returns true, and each argument reads behind the call as it read before. Written by a program of this session (rows.py) over the printed contract and the pure statement. -/
import Derived.Test.YtddcacomphkeiaaRows
import Derived.Test.YtddcacomphkeiaaPAx15
import Derived.Test.YtddcacomphkeiaaOpen
import Derived.Test.YtddcacomphkeiaaPureHopLeaves
import Derived.WalkKit
import Derived.ProofKit
import Derived.OpenShut
import Derived.ShutString
import Derived.ChangeOld
import Derived.Below
import Derived.SizedLaws
namespace Go.Proofs.Ytddcacomphkeiaa.hopLeaves
open Go.ChangeShapes Go.WideShapes Go.ChangeAt Go.RowKit Go.Proofs.YtddcacomphkeiaaW.PrintWords Go.Proofs.Ytddcacomphkeiaa.Opn Go.Proofs.Ytddcacomphkeiaa.PA
theorem own : ownKnob Try.prog.godebug = none := by kernel_rfl
theorem laidOut : laidOutB Try.prog = true := by kernel_rfl
set_option maxRecDepth 100000 in
theorem lifted (os : Os) (started : os.Started) (H : Type) (enc : TypeId × Value → H) :
    ReturnsInHanded {} Try.checked os 5 .any (Rows.hopLeavesSpec.pre6 enc Try.prog Try.f5 Rows.hopLeavesRow.domain false) (Rows.hopLeavesSpec.post enc Try.prog Try.f5 false true false false) := by
  refine returnsInHanded_of_change_sized (C := Try.checked) own started (by kernel_rfl) Try.func5
    (ChangeSpec.witness6 (enc := enc) (C := Try.checked) false ⟨#[], #[.agg #[.int .i64 0, .int .i64 0, .int .i64 0, .slice none 0 0], .agg #[.slice none 0 0, .slice none 0 0, .int .i64 0], .int .i64 0], []⟩ 8 (by kernel_rfl) (by kernel_rfl) (by kernel_rfl) (by kernel_rfl)) ?_
  intro W base args ds gs before hval0 hW hcnd hsz0 _
  clear hsz0 hcnd
  have hval : ∀ (j : Nat) t v, Try.f5.params[j]? = some t → args[j]? = some v → Value.okWide Try.prog W .any base t v := hval0
  have hW' := hW
  obtain ⟨p, q, hA0, hV, rfl, hfz, hnd⟩ := hW
  have hA : DataW.TrodAll enc Try.prog W 0 (fun _ => true) true Try.f5.params.toList args.toList ds p := hA0
  rw [Try.params5] at hA hval
  obtain ⟨v0, vs0, d0, ds0, p0, q0, hargs, rfl, rfl, h0, r0⟩ := trodAll_cons hA
  obtain ⟨v1, vs1, d1, ds1, p1, q1, rfl, rfl, rfl, h1, r1⟩ := trodAll_cons r0
  obtain ⟨v2, vs2, d2, ds2, p2, q2, rfl, rfl, rfl, h2, r2⟩ := trodAll_cons r1
  obtain ⟨rfl, rfl, rfl⟩ := trodAll_nil r2
  obtain rfl : args = #[v0, v1, v2] := by cases args; simp_all
  obtain ⟨rfl, rfl⟩ := trodVars_none hV
  have k0 := h0
  have lt0 : ∀ x ∈ p0, x.block < W.heap.size := by obtain ⟨m, hm⟩ := k0; exact DataW.trod_lt m _ _ _ hm
  obtain ⟨cs0, rfl, hsz0⟩ := okWide_struct Try.underlying24 (hval 0 24 v0 rfl rfl)
  obtain ⟨cl0⟩ := cs0
  obtain ⟨fuel0, hf0⟩ := h0
  obtain ⟨xs0, n0, rfl, hd0, hlen0, hxs0, hg0⟩ := DataW.trod_struct Try.underlying24 hf0
  replace hg0 : ∀ (i_ : Nat) (f_ : Field), _ = some f_ → DataW.trod enc Try.prog W 0 (fun _ => true) true n0 f_.type ((cl0.drop f_.offset).take (Try.prog.cellsOf f_.type)) = xs0[i_]? := hg0
  replace hlen0 : cl0.length = 4 := hlen0
  replace hxs0 : xs0.length = 4 := hxs0
  obtain ⟨c0_0, c0_1, c0_2, c0_3, rfl⟩ := cells4 hlen0
  obtain ⟨z0_0, hz0_0⟩ : ∃ z, xs0[0]? = some z := ⟨_, List.getElem?_eq_getElem (by omega)⟩
  obtain ⟨y0_0, K0_0, w0_0⟩ := (opens_int Try.underlying3) W enc n0 [c0_0] z0_0 ((hg0 0 _ rfl).trans hz0_0)
  obtain rfl : c0_0 = Value.int .i64 y0_0 := by simpa [Kd.int, Kd.bool, Kd.scalar] using K0_0
  obtain ⟨z0_1, hz0_1⟩ : ∃ z, xs0[1]? = some z := ⟨_, List.getElem?_eq_getElem (by omega)⟩
  obtain ⟨y0_1, K0_1, w0_1⟩ := (opens_int Try.underlying3) W enc n0 [c0_1] z0_1 ((hg0 1 _ rfl).trans hz0_1)
  obtain rfl : c0_1 = Value.int .i64 y0_1 := by simpa [Kd.int, Kd.bool, Kd.scalar] using K0_1
  obtain ⟨z0_2, hz0_2⟩ : ∃ z, xs0[2]? = some z := ⟨_, List.getElem?_eq_getElem (by omega)⟩
  obtain ⟨y0_2, K0_2, w0_2⟩ := (opens_int Try.underlying3) W enc n0 [c0_2] z0_2 ((hg0 2 _ rfl).trans hz0_2)
  obtain rfl : c0_2 = Value.int .i64 y0_2 := by simpa [Kd.int, Kd.bool, Kd.scalar] using K0_2
  obtain ⟨z0_3, hz0_3⟩ : ∃ z, xs0[3]? = some z := ⟨_, List.getElem?_eq_getElem (by omega)⟩
  obtain ⟨y0_3, K0_3, w0_3⟩ := (opens_slice Try.underlying22 (by kernel_rfl : Try.prog.cellsOf 3 = (Kd.int .i64).sz) (opens_int Try.underlying3)) W enc n0 [c0_3] z0_3 ((hg0 3 _ rfl).trans hz0_3)
  obtain ⟨A0_3, q0_3, he0_3, hc0_3, hr0_3⟩ := K0_3
  obtain rfl : c0_3 = .slice A0_3 y0_3.length q0_3 := by simpa using he0_3
  have k1 := h1
  have lt1 : ∀ x ∈ p1, x.block < W.heap.size := by obtain ⟨m, hm⟩ := k1; exact DataW.trod_lt m _ _ _ hm
  obtain ⟨cs1, rfl, hsz1⟩ := okWide_struct Try.underlying32 (hval 1 32 v1 rfl rfl)
  obtain ⟨cl1⟩ := cs1
  obtain ⟨fuel1, hf1⟩ := h1
  obtain ⟨xs1, n1, rfl, hd1, hlen1, hxs1, hg1⟩ := DataW.trod_struct Try.underlying32 hf1
  replace hg1 : ∀ (i_ : Nat) (f_ : Field), _ = some f_ → DataW.trod enc Try.prog W 0 (fun _ => true) true n1 f_.type ((cl1.drop f_.offset).take (Try.prog.cellsOf f_.type)) = xs1[i_]? := hg1
  replace hlen1 : cl1.length = 3 := hlen1
  replace hxs1 : xs1.length = 3 := hxs1
  obtain ⟨c1_0, c1_1, c1_2, rfl⟩ := cells3 hlen1
  obtain ⟨z1_0, hz1_0⟩ : ∃ z, xs1[0]? = some z := ⟨_, List.getElem?_eq_getElem (by omega)⟩
  obtain ⟨y1_0, K1_0, w1_0⟩ := (opens_slice Try.underlying22 (by kernel_rfl : Try.prog.cellsOf 3 = (Kd.int .i64).sz) (opens_int Try.underlying3)) W enc n1 [c1_0] z1_0 ((hg1 0 _ rfl).trans hz1_0)
  obtain ⟨A1_0, q1_0, he1_0, hc1_0, hr1_0⟩ := K1_0
  obtain rfl : c1_0 = .slice A1_0 y1_0.length q1_0 := by simpa using he1_0
  obtain ⟨z1_1, hz1_1⟩ : ∃ z, xs1[1]? = some z := ⟨_, List.getElem?_eq_getElem (by omega)⟩
  obtain ⟨y1_1, K1_1, w1_1⟩ := (opens_slice Try.underlying22 (by kernel_rfl : Try.prog.cellsOf 3 = (Kd.int .i64).sz) (opens_int Try.underlying3)) W enc n1 [c1_1] z1_1 ((hg1 1 _ rfl).trans hz1_1)
  obtain ⟨A1_1, q1_1, he1_1, hc1_1, hr1_1⟩ := K1_1
  obtain rfl : c1_1 = .slice A1_1 y1_1.length q1_1 := by simpa using he1_1
  obtain ⟨z1_2, hz1_2⟩ : ∃ z, xs1[2]? = some z := ⟨_, List.getElem?_eq_getElem (by omega)⟩
  obtain ⟨y1_2, K1_2, w1_2⟩ := (opens_int Try.underlying3) W enc n1 [c1_2] z1_2 ((hg1 2 _ rfl).trans hz1_2)
  obtain rfl : c1_2 = Value.int .i64 y1_2 := by simpa [Kd.int, Kd.bool, Kd.scalar] using K1_2
  obtain ⟨a2, rfl, rfl, rfl, w2⟩ := open_int Try.underlying3 (hval 2 3 v2 rfl rfl) h2
  clear hA0 hval0
  obtain ⟨kk, hk⟩ := Pure.HopLeaves y0_0 y0_1 y0_2 y0_3 y1_0 y1_1 y1_2 a2 w0_0 w0_1 w0_2 w0_3 w1_0 w1_1 w1_2 w2
  refine (hopmeshlaw11_HopLeaves.calls kk y0_0 y0_1 y0_2 _ _ y0_3 _ _ y1_0 _ _ y1_1 y1_2 a2 true W hr0_3 hc0_3 hr1_0 hc1_0 hr1_1 hc1_1 hk rfl).mono fun e W' ⟨he, bel⟩ => ?_
  subst he
  exact ⟨_, rfl, _, _, _, [], _, [], hW', trodAll_mk1 (shut_bool Try.underlying4 _), (trodAll_cons_mk (Below.trod laidOut (by kernel_rfl) (of_decide_eq_true (by kernel_rfl)) k0 bel lt0) (trodAll_cons_mk (Below.trod laidOut (by kernel_rfl) (of_decide_eq_true (by kernel_rfl)) k1 bel lt1) (trodAll_cons_mk (shut_int Try.underlying3 w2) trodAll_mk0))), rfl, bel.frame _, fun h => by cases h⟩
theorem over : Rows.hopLeavesRow.holds Try.pinned (OpenSpec.ofChange Rows.hopLeavesSpec) :=
  OpenClaim.holds_of_wide 5 Try.f5 rfl rfl rfl rfl rfl rfl rfl ⟨rfl, rfl, rfl, rfl, rfl⟩ rfl rfl rfl rfl rfl (by kernel_rfl) Try.func5 (by kernel_rfl)
    (of_decide_eq_true (by kernel_rfl)) (by unfold Func.isWrapper; first | (rw [if_pos (by decide +kernel)]; kernel_rfl) | (rw [if_neg (by decide +kernel)]; exact ⟨rfl, rfl⟩))
    (fun os started H enc _ => lifted os started H enc)
end Go.Proofs.Ytddcacomphkeiaa.hopLeaves
namespace Go.Proofs.Ytddcacomphkeiaa
/-- The claim. -/
theorem hopLeaves_holds : Rows.HopLeavesSaid := hopLeaves.over
#print axioms hopLeaves_holds
end Go.Proofs.Ytddcacomphkeiaa
