/- The row of HopStays: for every input the law returns true, and each argument reads behind the call as it read before. Written by a program of this session (rows.py) over the printed contract and the pure statement. -/
import Derived.Test.YtddcacomphkeiaaRows
import Derived.Test.YtddcacomphkeiaaPAx8
import Derived.Test.YtddcacomphkeiaaOpen
import Derived.Test.YtddcacomphkeiaaPureHopStays
import Derived.WalkKit
import Derived.ProofKit
import Derived.OpenShut
import Derived.ShutString
import Derived.ChangeOld
import Derived.Below
import Derived.SizedLaws
namespace Go.Proofs.Ytddcacomphkeiaa.hopStays
open Go.ChangeShapes Go.WideShapes Go.ChangeAt Go.RowKit Go.Proofs.YtddcacomphkeiaaW.PrintWords Go.Proofs.Ytddcacomphkeiaa.Opn Go.Proofs.Ytddcacomphkeiaa.PA
theorem own : ownKnob Try.prog.godebug = none := by kernel_rfl
theorem laidOut : laidOutB Try.prog = true := by kernel_rfl
set_option maxRecDepth 100000 in
theorem lifted (os : Os) (started : os.Started) (H : Type) (enc : TypeId × Value → H) :
    ReturnsInHanded {} Try.checked os 4 .any (Rows.hopStaysSpec.pre6 enc Try.prog Try.f4 Rows.hopStaysRow.domain false) (Rows.hopStaysSpec.post enc Try.prog Try.f4 false true false false) := by
  refine returnsInHanded_of_change_sized (C := Try.checked) own started (by kernel_rfl) Try.func4
    (ChangeSpec.witness6 (enc := enc) (C := Try.checked) false ⟨#[], #[.agg #[.slice none 0 0, .slice none 0 0, .int .i64 0]], []⟩ 8 (by kernel_rfl) (by kernel_rfl) (by kernel_rfl) (by kernel_rfl)) ?_
  intro W base args ds gs before hval0 hW hcnd hsz0 _
  clear hsz0 hcnd
  have hval : ∀ (j : Nat) t v, Try.f4.params[j]? = some t → args[j]? = some v → Value.okWide Try.prog W .any base t v := hval0
  have hW' := hW
  obtain ⟨p, q, hA0, hV, rfl, hfz, hnd⟩ := hW
  have hA : DataW.TrodAll enc Try.prog W 0 (fun _ => true) true Try.f4.params.toList args.toList ds p := hA0
  rw [Try.params4] at hA hval
  obtain ⟨v0, vs0, d0, ds0, p0, q0, hargs, rfl, rfl, h0, r0⟩ := trodAll_cons hA
  obtain ⟨rfl, rfl, rfl⟩ := trodAll_nil r0
  obtain rfl : args = #[v0] := by cases args; simp_all
  obtain ⟨rfl, rfl⟩ := trodVars_none hV
  have k0 := h0
  have lt0 : ∀ x ∈ p0, x.block < W.heap.size := by obtain ⟨m, hm⟩ := k0; exact DataW.trod_lt m _ _ _ hm
  obtain ⟨cs0, rfl, hsz0⟩ := okWide_struct Try.underlying32 (hval 0 32 v0 rfl rfl)
  obtain ⟨cl0⟩ := cs0
  obtain ⟨fuel0, hf0⟩ := h0
  obtain ⟨xs0, n0, rfl, hd0, hlen0, hxs0, hg0⟩ := DataW.trod_struct Try.underlying32 hf0
  replace hg0 : ∀ (i_ : Nat) (f_ : Field), _ = some f_ → DataW.trod enc Try.prog W 0 (fun _ => true) true n0 f_.type ((cl0.drop f_.offset).take (Try.prog.cellsOf f_.type)) = xs0[i_]? := hg0
  replace hlen0 : cl0.length = 3 := hlen0
  replace hxs0 : xs0.length = 3 := hxs0
  obtain ⟨c0_0, c0_1, c0_2, rfl⟩ := cells3 hlen0
  obtain ⟨z0_0, hz0_0⟩ : ∃ z, xs0[0]? = some z := ⟨_, List.getElem?_eq_getElem (by omega)⟩
  obtain ⟨y0_0, K0_0, w0_0⟩ := (opens_slice Try.underlying22 (by kernel_rfl : Try.prog.cellsOf 3 = (Kd.int .i64).sz) (opens_int Try.underlying3)) W enc n0 [c0_0] z0_0 ((hg0 0 _ rfl).trans hz0_0)
  obtain ⟨A0_0, q0_0, he0_0, hc0_0, hr0_0⟩ := K0_0
  obtain rfl : c0_0 = .slice A0_0 y0_0.length q0_0 := by simpa using he0_0
  obtain ⟨z0_1, hz0_1⟩ : ∃ z, xs0[1]? = some z := ⟨_, List.getElem?_eq_getElem (by omega)⟩
  obtain ⟨y0_1, K0_1, w0_1⟩ := (opens_slice Try.underlying22 (by kernel_rfl : Try.prog.cellsOf 3 = (Kd.int .i64).sz) (opens_int Try.underlying3)) W enc n0 [c0_1] z0_1 ((hg0 1 _ rfl).trans hz0_1)
  obtain ⟨A0_1, q0_1, he0_1, hc0_1, hr0_1⟩ := K0_1
  obtain rfl : c0_1 = .slice A0_1 y0_1.length q0_1 := by simpa using he0_1
  obtain ⟨z0_2, hz0_2⟩ : ∃ z, xs0[2]? = some z := ⟨_, List.getElem?_eq_getElem (by omega)⟩
  obtain ⟨y0_2, K0_2, w0_2⟩ := (opens_int Try.underlying3) W enc n0 [c0_2] z0_2 ((hg0 2 _ rfl).trans hz0_2)
  obtain rfl : c0_2 = Value.int .i64 y0_2 := by simpa [Kd.int, Kd.bool, Kd.scalar] using K0_2
  clear hA0 hval0
  obtain ⟨kk, hk⟩ := Pure.HopStays y0_0 y0_1 y0_2 w0_0 w0_1 w0_2
  refine (hopmeshlaw11_HopStays.calls kk _ _ y0_0 _ _ y0_1 y0_2 true W hr0_0 hc0_0 hr0_1 hc0_1 hk rfl).mono fun e W' ⟨he, bel⟩ => ?_
  subst he
  exact ⟨_, rfl, _, _, _, [], _, [], hW', trodAll_mk1 (shut_bool Try.underlying4 _), (trodAll_cons_mk (Below.trod laidOut (by kernel_rfl) (of_decide_eq_true (by kernel_rfl)) k0 bel lt0) trodAll_mk0), rfl, bel.frame _, fun h => by cases h⟩
theorem over : Rows.hopStaysRow.holds Try.pinned (OpenSpec.ofChange Rows.hopStaysSpec) :=
  OpenClaim.holds_of_wide 4 Try.f4 rfl rfl rfl rfl rfl rfl rfl ⟨rfl, rfl, rfl, rfl, rfl⟩ rfl rfl rfl rfl rfl (by kernel_rfl) Try.func4 (by kernel_rfl)
    (of_decide_eq_true (by kernel_rfl)) (by unfold Func.isWrapper; first | (rw [if_pos (by decide +kernel)]; kernel_rfl) | (rw [if_neg (by decide +kernel)]; exact ⟨rfl, rfl⟩))
    (fun os started H enc _ => lifted os started H enc)
end Go.Proofs.Ytddcacomphkeiaa.hopStays
namespace Go.Proofs.Ytddcacomphkeiaa
/-- The claim. -/
theorem hopStays_holds : Rows.HopStaysSaid := hopStays.over
#print axioms hopStays_holds
end Go.Proofs.Ytddcacomphkeiaa
