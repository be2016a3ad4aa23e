-- Written by a program of this session (mkprint.py: the kit's print, changed) for this claim. Not trusted: Lean checks it.
import Derived.Test.YtcdgpnjlaicbcaaPAx0
import Derived.Test.YtcdgpnjlaicbcaaPAx45
import Derived.Test.YtcdgpnjlaicbcaaHof
namespace Go.Proofs.Ytcdgpnjlaicbcaa.PA
open Go.RowKit Go.Proofs.YtcdgpnjlaicbcaaW.PrintWords Go.Proofs.YtcdgpnjlaicbcaaW.PrintLast Go.Proofs.YtcdgpnjlaicbcaaW.PrintMore
attribute [local go_sem] max2_int min2_int max_two min_two max_three min_three max_four min_four   -- for this text's walks alone
set_option linter.unusedVariables false
set_option linter.unusedSimpArgs false

/-! ### slices_EqualFunc_int_int_int_int__slices_Equal_int_int: function 37 -/
-- (own)
-- IMPORT Derived.Test.YtcdgpnjlaicbcaaHof
open Go.Shelf
theorem own_eq17 (A0 : Option Addr) (c0 : Nat) (l0 : List Int) (A1 : Option Addr) (c1 : Nat) (l1 : List Int) (w : World) (hr0 : Kd.C (Kd.int .i64) w A0 l0.length l0) (hc0 : l0.length ≤ c0) (hr1 : Kd.C (Kd.int .i64) w A1 l1.length l1) (hc1 : l1.length ≤ c1) :
    Calls Try.prog 17 #[.slice A0 l0.length c0, .slice A1 l1.length c1] w fun e w' => e = .returned (.bool (decide (l0 = l1))) ∧ Below w.heap.size w w' :=
  (slices_Equal_int_int.calls (l0.length + 1) A0 c0 l0 A1 c1 l1 _ w hr0 hc0 hr1 hc1 (eqL l0 l1 (by have := hr0.2.1; omega))).mono fun e w' ⟨h1, h2⟩ => ⟨h1, h2.below⟩
def slices_EqualFunc_int_int_int_int__slices_Equal_int_int.f (l0 l1 : List (List Int)) : Option Bool := some (decide (l0 = l1))
set_option maxHeartbeats 4000000 in
theorem slices_EqualFunc_int_int_int_int__slices_Equal_int_int.calls (A0 : Option Addr) (c0 : Nat) (l0 : List (List Int)) (A1 : Option Addr) (c1 : Nat) (l1 : List (List Int)) (r : Bool) (w : World) (hr0 : Kd.C (Kd.slice 3 (Kd.int .i64)) w A0 l0.length l0) (_hc0 : l0.length ≤ c0) (hr1 : Kd.C (Kd.slice 3 (Kd.int .i64)) w A1 l1.length l1) (_hc1 : l1.length ≤ c1) (h : slices_EqualFunc_int_int_int_int__slices_Equal_int_int.f l0 l1 = some r) :
    Calls Try.prog 37 #[.slice A0 l0.length c0, .slice A1 l1.length c1, .func (.func 17) #[] #[]] w fun e w' => e = .returned (.bool r) ∧ Below w.heap.size w w' := by
  obtain rfl := Option.some.inj h
  clear h
  have HR0 := Aside0.mk hr0
  have HR1 := Aside0.mk hr1
  have HL := Aside0.mk hr0.2.1
  clear hr0 hr1
  by_cases hl : l0.length = l1.length
  · have hl' := hl.symm
    rw [hl'] at HR1 ⊢
    have HLE := Aside0.mk hl
    clear hl hl'
    go_enter Try.func37, Try.ntmps37
    go_wp2
    go_loopg [7, 8, 9, 17] l0.length (fun gg v7 v8 v9 v17 wr => ∃ kk : Nat, Aside0 (kk ≤ l0.length) ∧ Aside0 (l0.length - kk ≤ gg) ∧ v17 = .int .i64 kk ∧ Aside0 (Below w.heap.size w wr) ∧ Aside0 (∀ j, j < kk → l0[j]? = l1[j]?))
    case atStart => exact ⟨0, ⟨Nat.zero_le _⟩, ⟨by omega⟩, rfl, ⟨Below.refl _ w⟩, ⟨fun j hj => absurd hj (Nat.not_lt_zero _)⟩⟩
    case round =>
      obtain ⟨kk, hkk, hg, rfl, HB, HA⟩ := hrel
      by_cases hlt : kk < l0.length
      · have hm := HL.out
        have hltz : (kk : Int) < (l0.length : Int) := by omega
        obtain ⟨ad, B0, d0, e, hc0, hd0, hk0⟩ := at_L3 (Kd.C_below HR0.out HB.out) (kk : Int) (by omega) hltz
        obtain ⟨ad1, B1, d1, e1, hc1, hd1, hk1⟩ := at_L3 (Kd.C_below HR1.out HB.out) (kk : Int) (by omega) hltz
        subst e e1
        have hcall := own_eq17 B0 d0 _ B1 d1 _ wr hk0 hd0 hk1 hd1
        have hrd : rd_L3 l0 (kk : Int) = l0[kk] := by unfold rd_L3; rw [List.getD_eq_getElem?_getD, Int.toNat_natCast, List.getElem?_eq_getElem hlt]; rfl
        have hrd1 : rd_L3 l1 (kk : Int) = l1[kk]'(by have := HLE.out; omega) := by unfold rd_L3; rw [List.getD_eq_getElem?_getD, Int.toNat_natCast, List.getElem?_eq_getElem (by have := HLE.out; omega)]; rfl
        rw [hrd, Int.toNat_natCast] at hc0
        rw [hrd1, Int.toNat_natCast] at hc1
        rw [hrd, hrd1] at hcall
        clear hrd hrd1 hk0 hk1
        have HY := Aside0.mk (show l0[kk]? = some l0[kk] from List.getElem?_eq_getElem hlt)
        have HZ := Aside0.mk (show l1[kk]? = some (l1[kk]'(by have := HLE.out; omega)) from List.getElem?_eq_getElem (by have := HLE.out; omega))
        generalize l0[kk] = y at hc0 hcall HY
        generalize l1[kk]'(by have := HLE.out; omega) = z at hc1 hcall HZ
        by_cases hq : y = z
        · have HQ := Aside0.mk hq
          rw [decide_eq_true hq] at hcall
          clear hq
          go_wp2_with (go_at_call 17; refine hcall.mono ?_; rintro e w' ⟨rfl, hb'⟩)
          go_roundg (l0.length - (kk + 1))
          case measure => have := hg.out; omega
          case rel => exact ⟨kk + 1, ⟨by omega⟩, ⟨by omega⟩, by go_num, ⟨below_step HB.out hb'⟩, ⟨fun j hj => by
            rcases Nat.lt_or_ge j kk with h | h
            · exact HA.out j h
            · obtain rfl : j = kk := by omega
              rw [HY.out, HZ.out, HQ.out]⟩⟩
        · have HQ := Aside0.mk hq
          rw [decide_eq_false hq] at hcall
          clear hq
          go_wp2_with (go_at_call 17; refine hcall.mono ?_; rintro e w' ⟨rfl, hb'⟩)
          go_ret
          exact ⟨ret_b (decide_eq_false fun e => by have := HY.out; rw [e, HZ.out] at this; exact HQ.out (Option.some.inj this).symm).symm, below_step HB.out hb'⟩
      · have hd0 : decide (kk < l0.length) = false := decide_eq_false hlt
        have hd1 : decide ((kk : Int) < (l0.length : Int)) = false := decide_eq_false (by omega)
        have HG := Aside0.mk hlt
        clear hlt
        go_wp2
        go_ret
        exact ⟨ret_b (decide_eq_true (List.ext_getElem? fun j => by
          rcases Nat.lt_or_ge j kk with h | h
          · exact HA.out j h
          · have := HG.out
            have := HLE.out
            rw [List.getElem?_eq_none (by omega), List.getElem?_eq_none (by omega)])).symm, HB.out⟩
  · have hlz : ¬ (l0.length : Int) = (l1.length : Int) := by omega
    have hd : decide ((l0.length : Int) = (l1.length : Int)) = false := decide_eq_false hlz
    go_enter Try.func37, Try.ntmps37
    go_wp2
    go_ret
    exact ⟨ret_b (decide_eq_false fun e => hl (by rw [e])).symm, Below.refl _ _⟩

end Go.Proofs.Ytcdgpnjlaicbcaa.PA
