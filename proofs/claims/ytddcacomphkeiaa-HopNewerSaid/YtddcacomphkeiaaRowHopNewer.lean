/- The row of HopNewer: for every input the law returns true, and each argument reads behind the call as it read before. Written by a program of this session (rows.py) over the printed contract and the pure statement. -/
import Derived.Test.YtddcacomphkeiaaRows
import Derived.Test.YtddcacomphkeiaaPAx22
import Derived.Test.YtddcacomphkeiaaOpen
import Derived.Test.YtddcacomphkeiaaPureHopNewer
import Derived.WalkKit
import Derived.ProofKit
import Derived.OpenShut
import Derived.ShutString
import Derived.ChangeOld
import Derived.Below
import Derived.SizedLaws
namespace Go.Proofs.Ytddcacomphkeiaa.hopNewer
open Go.ChangeShapes Go.WideShapes Go.ChangeAt Go.RowKit Go.Proofs.YtddcacomphkeiaaW.PrintWords Go.Proofs.Ytddcacomphkeiaa.Opn Go.Proofs.Ytddcacomphkeiaa.PA
theorem own : ownKnob Try.prog.godebug = none := by kernel_rfl
theorem laidOut : laidOutB Try.prog = true := by kernel_rfl
set_option maxRecDepth 100000 in
theorem lifted (os : Os) (started : os.Started) (H : Type) (enc : TypeId × Value → H) :
    ReturnsInHanded {} Try.checked os 8 .any (Rows.hopNewerSpec.pre6 enc Try.prog Try.f8 Rows.hopNewerRow.domain false) (Rows.hopNewerSpec.post enc Try.prog Try.f8 false true false false) := by
  refine returnsInHanded_of_change_sized (C := Try.checked) own started (by kernel_rfl) Try.func8
    (ChangeSpec.witness6 (enc := enc) (C := Try.checked) false ⟨#[], #[.agg #[.int .i64 0, .int .i64 0, .int .i64 0, .slice none 0 0], .int .i64 0, .agg #[.int .i64 0, .int .i64 0]], []⟩ 8 (by kernel_rfl) (by kernel_rfl) (by kernel_rfl) (by kernel_rfl)) ?_
  intro W base args ds gs before hval0 hW hcnd hsz0 _
  clear hsz0 hcnd
  have hval : ∀ (j : Nat) t v, Try.f8.params[j]? = some t → args[j]? = some v → Value.okWide Try.prog W .any base t v := hval0
  have hW' := hW
  obtain ⟨p, q, hA0, hV, rfl, hfz, hnd⟩ := hW
  have hA : DataW.TrodAll enc Try.prog W 0 (fun _ => true) true Try.f8.params.toList args.toList ds p := hA0
  rw [Try.params8] at hA hval
  obtain ⟨v0, vs0, d0, ds0, p0, q0, hargs, rfl, rfl, h0, r0⟩ := trodAll_cons hA
  obtain ⟨v1, vs1, d1, ds1, p1, q1, rfl, rfl, rfl, h1, r1⟩ := trodAll_cons r0
  obtain ⟨v2, vs2, d2, ds2, p2, q2, rfl, rfl, rfl, h2, r2⟩ := trodAll_cons r1
  obtain ⟨rfl, rfl, rfl⟩ := trodAll_nil r2
  obtain rfl : args = #[v0, v1, v2] := by cases args; simp_all
  obtain ⟨rfl, rfl⟩ := trodVars_none hV
  have k0 := h0
  have lt0 : ∀ x ∈ p0, x.block < W.heap.size := by obtain ⟨m, hm⟩ := k0; exact DataW.trod_lt m _ _ _ hm
  obtain ⟨cs0, rfl, hsz0⟩ := okWide_struct Try.underlying24 (hval 0 24 v0 rfl rfl)
  obtain ⟨cl0⟩ := cs0
  obtain ⟨fuel0, hf0⟩ := h0
  obtain ⟨xs0, n0, rfl, hd0, hlen0, hxs0, hg0⟩ := DataW.trod_struct Try.underlying24 hf0
  replace hg0 : ∀ (i_ : Nat) (f_ : Field), _ = some f_ → DataW.trod enc Try.prog W 0 (fun _ => true) true n0 f_.type ((cl0.drop f_.offset).take (Try.prog.cellsOf f_.type)) = xs0[i_]? := hg0
  replace hlen0 : cl0.length = 4 := hlen0
  replace hxs0 : xs0.length = 4 := hxs0
  obtain ⟨c0_0, c0_1, c0_2, c0_3, rfl⟩ := cells4 hlen0
  obtain ⟨z0_0, hz0_0⟩ : ∃ z, xs0[0]? = some z := ⟨_, List.getElem?_eq_getElem (by omega)⟩
  obtain ⟨y0_0, K0_0, w0_0⟩ := (opens_int Try.underlying3) W enc n0 [c0_0] z0_0 ((hg0 0 _ rfl).trans hz0_0)
  obtain rfl : c0_0 = Value.int .i64 y0_0 := by simpa [Kd.int, Kd.bool, Kd.scalar] using K0_0
  obtain ⟨z0_1, hz0_1⟩ : ∃ z, xs0[1]? = some z := ⟨_, List.getElem?_eq_getElem (by omega)⟩
  obtain ⟨y0_1, K0_1, w0_1⟩ := (opens_int Try.underlying3) W enc n0 [c0_1] z0_1 ((hg0 1 _ rfl).trans hz0_1)
  obtain rfl : c0_1 = Value.int .i64 y0_1 := by simpa [Kd.int, Kd.bool, Kd.scalar] using K0_1
  obtain ⟨z0_2, hz0_2⟩ : ∃ z, xs0[2]? = some z := ⟨_, List.getElem?_eq_getElem (by omega)⟩
  obtain ⟨y0_2, K0_2, w0_2⟩ := (opens_int Try.underlying3) W enc n0 [c0_2] z0_2 ((hg0 2 _ rfl).trans hz0_2)
  obtain rfl : c0_2 = Value.int .i64 y0_2 := by simpa [Kd.int, Kd.bool, Kd.scalar] using K0_2
  obtain ⟨z0_3, hz0_3⟩ : ∃ z, xs0[3]? = some z := ⟨_, List.getElem?_eq_getElem (by omega)⟩
  obtain ⟨y0_3, K0_3, w0_3⟩ := (opens_slice Try.underlying22 (by kernel_rfl : Try.prog.cellsOf 3 = (Kd.int .i64).sz) (opens_int Try.underlying3)) W enc n0 [c0_3] z0_3 ((hg0 3 _ rfl).trans hz0_3)
  obtain ⟨A0_3, q0_3, he0_3, hc0_3, hr0_3⟩ := K0_3
  obtain rfl : c0_3 = .slice A0_3 y0_3.length q0_3 := by simpa using he0_3
  obtain ⟨a1, rfl, rfl, rfl, w1⟩ := open_int Try.underlying3 (hval 1 3 v1 rfl rfl) h1
  have k2 := h2
  have lt2 : ∀ x ∈ p2, x.block < W.heap.size := by obtain ⟨m, hm⟩ := k2; exact DataW.trod_lt m _ _ _ hm
  obtain ⟨cs2, rfl, hsz2⟩ := okWide_array Try.underlying48 (hval 2 48 v2 rfl rfl)
  obtain ⟨cl2⟩ := cs2
  obtain ⟨fuel2, hf2⟩ := h2
  obtain ⟨xs2, n2, rfl, hd2, hlen2, hxs2, hg2⟩ := DataW.trod_array Try.underlying48 hf2
  have hce2 : Try.prog.cellsOf 3 = 1 := by kernel_rfl
  rw [hce2] at hg2
  replace hlen2 : cl2.length = 2 := hlen2
  obtain ⟨c2_0, c2_1, rfl⟩ := cells2 hlen2
  obtain ⟨z2_0, hz2_0⟩ : ∃ z, xs2[0]? = some z := ⟨_, List.getElem?_eq_getElem (by omega)⟩
  obtain ⟨y2_0, K2_0, w2_0⟩ := (opens_int Try.underlying3) W enc n2 [c2_0] z2_0 ((hg2 0 (by omega)).trans hz2_0)
  obtain rfl : c2_0 = Value.int .i64 y2_0 := by simpa [Kd.int, Kd.bool, Kd.scalar] using K2_0
  obtain ⟨z2_1, hz2_1⟩ : ∃ z, xs2[1]? = some z := ⟨_, List.getElem?_eq_getElem (by omega)⟩
  obtain ⟨y2_1, K2_1, w2_1⟩ := (opens_int Try.underlying3) W enc n2 [c2_1] z2_1 ((hg2 1 (by omega)).trans hz2_1)
  obtain rfl : c2_1 = Value.int .i64 y2_1 := by simpa [Kd.int, Kd.bool, Kd.scalar] using K2_1
  clear hA0 hval0
  obtain ⟨kk, hk⟩ := Pure.HopNewer y0_0 y0_1 y0_2 y0_3 a1 y2_0 y2_1 w0_0 w0_1 w0_2 w0_3 w1 w2_0 w2_1
  refine (hopmeshlaw11_HopNewer.calls kk y0_0 y0_1 y0_2 _ _ y0_3 a1 y2_0 y2_1 true W hr0_3 hc0_3 hk rfl).mono fun e W' ⟨he, bel⟩ => ?_
  subst he
  exact ⟨_, rfl, _, _, _, [], _, [], hW', trodAll_mk1 (shut_bool Try.underlying4 _), (trodAll_cons_mk (Below.trod laidOut (by kernel_rfl) (of_decide_eq_true (by kernel_rfl)) k0 bel lt0) (trodAll_cons_mk (shut_int Try.underlying3 w1) (trodAll_cons_mk (Below.trod laidOut (by kernel_rfl) (of_decide_eq_true (by kernel_rfl)) k2 bel lt2) trodAll_mk0))), rfl, bel.frame _, fun h => by cases h⟩
theorem over : Rows.hopNewerRow.holds Try.pinned (OpenSpec.ofChange Rows.hopNewerSpec) :=
  OpenClaim.holds_of_wide 8 Try.f8 rfl rfl rfl rfl rfl rfl rfl ⟨rfl, rfl, rfl, rfl, rfl⟩ rfl rfl rfl rfl rfl (by kernel_rfl) Try.func8 (by kernel_rfl)
    (of_decide_eq_true (by kernel_rfl)) (by unfold Func.isWrapper; first | (rw [if_pos (by decide +kernel)]; kernel_rfl) | (rw [if_neg (by decide +kernel)]; exact ⟨rfl, rfl⟩))
    (fun os started H enc _ => lifted os started H enc)
end Go.Proofs.Ytddcacomphkeiaa.hopNewer
namespace Go.Proofs.Ytddcacomphkeiaa
/-- The claim. -/
theorem hopNewer_holds : Rows.HopNewerSaid := hopNewer.over
#print axioms hopNewer_holds
end Go.Proofs.Ytddcacomphkeiaa
