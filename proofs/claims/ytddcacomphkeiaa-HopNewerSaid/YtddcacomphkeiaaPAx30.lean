-- Written by a program of this session (mkprint.py: the kit's print, changed) for this claim. Not trusted: Lean checks it.
import Derived.Test.YtddcacomphkeiaaPAx0
import Derived.Lib.SliceRun
namespace Go.Proofs.Ytddcacomphkeiaa.PA
open Go.RowKit Go.Proofs.YtddcacomphkeiaaW.PrintWords Go.Proofs.YtddcacomphkeiaaW.PrintLast Go.Proofs.YtddcacomphkeiaaW.PrintMore
attribute [local go_sem] max2_int min2_int max_two min_two max_three min_three max_four min_four   -- for this text's walks alone
set_option linter.unusedVariables false
set_option linter.unusedSimpArgs false

/-! ### slices_Clone_int_int: function 15 -/
-- (own)
-- IMPORT Derived.Lib.SliceRun
def slices_Clone_int_int.f (l0 : List Int) : Option (List Int) := if l0.length < 17592186044416 then some l0 else none
set_option maxHeartbeats 2000000 in
theorem slices_Clone_int_int.calls (A0 : Option Addr) (c0 : Nat) (l0 : List Int) (r : List Int) (w : World) (hr0 : Kd.C (Kd.int .i64) w A0 l0.length l0) (_hc0 : l0.length ≤ c0) (h : slices_Clone_int_int.f l0 = some r) :
    Calls Try.prog 15 #[.slice A0 l0.length c0] w fun e w' => ∃ v0_ : Value, e = .returned v0_ ∧ Kd.R (Kd.int .i64) 3 w' w.heap.size (fun _ => True) v0_ r ∧ Below w.heap.size w w' := by
  unfold slices_Clone_int_int.f at h
  split at h
  · rename_i hlt
    obtain rfl := Option.some.inj h
    clear h
    have HR := Aside0.mk hr0
    have HL := Aside0.mk hlt
    clear hr0 hlt _hc0
    have u24 := Try.underlying22
    have q24 : ∀ (w : World) (a : Option Addr) (n c n' c' : Nat), (binOp .eql 22 (.slice a n c) (.slice none n' c')).run Try.prog w = .ok (.bool a.isNone) w := fun w a n c n' c' => Go.Lib.run_eql_slice_nil w _ _ a n c n' c' Try.underlying22
    rcases A0 with _ | ad
    · have h0 : l0 = [] := by
        rcases Nat.eq_zero_or_pos l0.length with h | h
        · exact List.eq_nil_of_length_eq_zero h
        · obtain ⟨ad, e, _⟩ := HR.out.2.2 h
          cases e
      subst h0
      go_enter Try.func15, Try.ntmps15
      go_wp2
      go_ret
      exact ⟨_, rfl, Kd.R_nil _ _ _ _ _, Below.refl _ _⟩
    · go_enter Try.func15, Try.ntmps15
      go_wp2_with (at_builtin; refine Aside0.out ?_)
      constructor
      refine Kd.R_append_rows (Kd.int .i64) (Rr := (Kd.int .i64).K (w.alloc (.cells #[] 3))) (w0 := w) w.heap.size rfl (.tmp 5) (.tmp 6) 22 3 (.int .i64 0) 8 rfl Try.underlying22 info3 rfl (by decide) (by omega) (.slice (some ⟨w.heap.size, 0, none⟩) 0 0) [] l0 _ _ _ (fun _ => True) (fun _ => False) rfl rfl ?aO ?aR ?aK (fun _ h => h.elim) (fun _ _ => trivial) ?aB ?aS ?aL ?_
      case aO => exact ⟨fun _ _ => trivial, [], World.ownsRow_made w #[] 0 (Nat.le_refl _) (Nat.zero_le _) (by simp), Reps.none _ _⟩
      case aR => exact Kd.C_below HR.out ((Below.refl _ w).alloc (Nat.le_refl _) _)
      case aK => exact fun x cs h => h
      case aB => exact (Below.refl _ w).alloc (Nat.le_refl _) _
      case aS => simp
      case aL => have := HL.out; simp; omega
      intro v1 w1 hown hb _ _
      go_wp2
      go_ret
      exact ⟨_, rfl, hown, hb⟩
  · cases h

end Go.Proofs.Ytddcacomphkeiaa.PA
