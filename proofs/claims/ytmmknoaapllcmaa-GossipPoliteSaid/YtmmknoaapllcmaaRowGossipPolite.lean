/- The row of GossipPolite: for every input the law returns true, and each argument reads behind the call as it read before. Written by a program of this session (rows.py) over the printed contract and the pure statement. -/
import Derived.Test.YtmmknoaapllcmaaRows
import Derived.Test.YtmmknoaapllcmaaPAx17
import Derived.Test.YtmmknoaapllcmaaOpen
import Derived.Test.YtmmknoaapllcmaaPureGossipPolite
import Derived.WalkKit
import Derived.ProofKit
import Derived.OpenShut
import Derived.ShutString
import Derived.ChangeOld
import Derived.Below
import Derived.SizedLaws
namespace Go.Proofs.Ytmmknoaapllcmaa.gossipPolite
open Go.ChangeShapes Go.WideShapes Go.ChangeAt Go.RowKit Go.Proofs.YtmmknoaapllcmaaW.PrintWords Go.Proofs.Ytmmknoaapllcmaa.Opn Go.Proofs.Ytmmknoaapllcmaa.PA
theorem own : ownKnob Try.prog.godebug = none := by kernel_rfl
theorem laidOut : laidOutB Try.prog = true := by kernel_rfl
set_option maxRecDepth 100000 in
theorem lifted (os : Os) (started : os.Started) (H : Type) (enc : TypeId × Value → H) :
    ReturnsInHanded {} Try.checked os 7 .any (Rows.gossipPoliteSpec.pre6 enc Try.prog Try.f7 Rows.gossipPoliteRow.domain false) (Rows.gossipPoliteSpec.post enc Try.prog Try.f7 false true false false) := by
  refine returnsInHanded_of_change_sized (C := Try.checked) own started (by kernel_rfl) Try.func7
    (ChangeSpec.witness6 (enc := enc) (C := Try.checked) false ⟨#[], #[.agg #[.int .i64 0, .int .i64 0, .int .i64 0], .slice none 0 0], []⟩ 8 (by kernel_rfl) (by kernel_rfl) (by kernel_rfl) (by kernel_rfl)) ?_
  intro W base args ds gs before hval0 hW hcnd hsz0 _
  clear hsz0 hcnd
  have hval : ∀ (j : Nat) t v, Try.f7.params[j]? = some t → args[j]? = some v → Value.okWide Try.prog W .any base t v := hval0
  have hW' := hW
  obtain ⟨p, q, hA0, hV, rfl, hfz, hnd⟩ := hW
  have hA : DataW.TrodAll enc Try.prog W 0 (fun _ => true) true Try.f7.params.toList args.toList ds p := hA0
  rw [Try.params7] at hA hval
  obtain ⟨v0, vs0, d0, ds0, p0, q0, hargs, rfl, rfl, h0, r0⟩ := trodAll_cons hA
  obtain ⟨v1, vs1, d1, ds1, p1, q1, rfl, rfl, rfl, h1, r1⟩ := trodAll_cons r0
  obtain ⟨rfl, rfl, rfl⟩ := trodAll_nil r1
  obtain rfl : args = #[v0, v1] := by cases args; simp_all
  obtain ⟨rfl, rfl⟩ := trodVars_none hV
  have k0 := h0
  have lt0 : ∀ x ∈ p0, x.block < W.heap.size := by obtain ⟨m, hm⟩ := k0; exact DataW.trod_lt m _ _ _ hm
  obtain ⟨cs0, rfl, hsz0⟩ := okWide_struct Try.underlying23 (hval 0 23 v0 rfl rfl)
  obtain ⟨cl0⟩ := cs0
  obtain ⟨fuel0, hf0⟩ := h0
  obtain ⟨xs0, n0, rfl, hd0, hlen0, hxs0, hg0⟩ := DataW.trod_struct Try.underlying23 hf0
  replace hg0 : ∀ (i_ : Nat) (f_ : Field), _ = some f_ → DataW.trod enc Try.prog W 0 (fun _ => true) true n0 f_.type ((cl0.drop f_.offset).take (Try.prog.cellsOf f_.type)) = xs0[i_]? := hg0
  replace hlen0 : cl0.length = 3 := hlen0
  replace hxs0 : xs0.length = 3 := hxs0
  obtain ⟨c0_0, c0_1, c0_2, rfl⟩ := cells3 hlen0
  obtain ⟨z0_0, hz0_0⟩ : ∃ z, xs0[0]? = some z := ⟨_, List.getElem?_eq_getElem (by omega)⟩
  obtain ⟨y0_0, K0_0, w0_0⟩ := (opens_int Try.underlying3) W enc n0 [c0_0] z0_0 ((hg0 0 _ rfl).trans hz0_0)
  obtain rfl : c0_0 = Value.int .i64 y0_0 := by simpa [Kd.int, Kd.bool, Kd.scalar] using K0_0
  obtain ⟨z0_1, hz0_1⟩ : ∃ z, xs0[1]? = some z := ⟨_, List.getElem?_eq_getElem (by omega)⟩
  obtain ⟨y0_1, K0_1, w0_1⟩ := (opens_int Try.underlying3) W enc n0 [c0_1] z0_1 ((hg0 1 _ rfl).trans hz0_1)
  obtain rfl : c0_1 = Value.int .i64 y0_1 := by simpa [Kd.int, Kd.bool, Kd.scalar] using K0_1
  obtain ⟨z0_2, hz0_2⟩ : ∃ z, xs0[2]? = some z := ⟨_, List.getElem?_eq_getElem (by omega)⟩
  obtain ⟨y0_2, K0_2, w0_2⟩ := (opens_int Try.underlying3) W enc n0 [c0_2] z0_2 ((hg0 2 _ rfl).trans hz0_2)
  obtain rfl : c0_2 = Value.int .i64 y0_2 := by simpa [Kd.int, Kd.bool, Kd.scalar] using K0_2
  have k1 := h1
  have lt1 : ∀ x ∈ p1, x.block < W.heap.size := by obtain ⟨m, hm⟩ := k1; exact DataW.trod_lt m _ _ _ hm
  obtain ⟨A1, len1, c1, rfl⟩ := okWide_slice Try.underlying40 (hval 1 40 v1 rfl rfl)
  obtain ⟨fuel1, hf1⟩ := h1
  obtain ⟨l1, ⟨A1', c1', he1, hc1, hr1⟩, w1⟩ := (opens_slice Try.underlying40 (by kernel_rfl : Try.prog.cellsOf 24 = (Kd.int .u32).sz) (opens_int Try.underlying24)) W enc _ _ _ hf1
  obtain ⟨rfl, rfl, rfl⟩ : A1 = A1' ∧ len1 = l1.length ∧ c1 = c1' := by simpa [Value.cells] using he1
  clear hA0 hval0
  obtain ⟨kk, hk⟩ := Pure.GossipPolite y0_0 y0_1 y0_2 l1 w0_0 w0_1 w0_2 w1
  refine (hopmeshlaw47_GossipPolite.calls kk y0_0 y0_1 y0_2 _ _ l1 true W hr1 hc1 hk rfl).mono fun e W' ⟨he, bel⟩ => ?_
  subst he
  exact ⟨_, rfl, _, _, _, [], _, [], hW', trodAll_mk1 (shut_bool Try.underlying4 _), (trodAll_cons_mk (Below.trod laidOut (by kernel_rfl) (of_decide_eq_true (by kernel_rfl)) k0 bel lt0) (trodAll_cons_mk (Below.trod laidOut (by kernel_rfl) (of_decide_eq_true (by kernel_rfl)) k1 bel lt1) trodAll_mk0)), rfl, bel.frame _, fun h => by cases h⟩
theorem over : Rows.gossipPoliteRow.holds Try.pinned (OpenSpec.ofChange Rows.gossipPoliteSpec) :=
  OpenClaim.holds_of_wide 7 Try.f7 rfl rfl rfl rfl rfl rfl rfl ⟨rfl, rfl, rfl, rfl, rfl⟩ rfl rfl rfl rfl rfl (by kernel_rfl) Try.func7 (by kernel_rfl)
    (of_decide_eq_true (by kernel_rfl)) (by unfold Func.isWrapper; first | (rw [if_pos (by decide +kernel)]; kernel_rfl) | (rw [if_neg (by decide +kernel)]; exact ⟨rfl, rfl⟩))
    (fun os started H enc _ => lifted os started H enc)
end Go.Proofs.Ytmmknoaapllcmaa.gossipPolite
namespace Go.Proofs.Ytmmknoaapllcmaa
/-- The claim. -/
theorem gossipPolite_holds : Rows.GossipPoliteSaid := gossipPolite.over
#print axioms gossipPolite_holds
end Go.Proofs.Ytmmknoaapllcmaa
