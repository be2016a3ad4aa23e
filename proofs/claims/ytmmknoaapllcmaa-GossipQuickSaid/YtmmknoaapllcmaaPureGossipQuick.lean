/- The plain law of GossipQuick: what the printed functions compute answers true. By this session. -/
import Derived.Test.YtmmknoaapllcmaaPAx15
import Derived.Test.YtmmknoaapllcmaaBase
namespace Go.Proofs.Ytmmknoaapllcmaa.Pure
open Go.RowKit Go.Proofs.YtmmknoaapllcmaaW.PrintWords Go.Proofs.YtmmknoaapllcmaaW.PrintLast Go.Proofs.YtmmknoaapllcmaaW.PrintMore Go.Proofs.Ytmmknoaapllcmaa.PA Go.Proofs.Ytmmknoaapllcmaa.Base
/-- The announcement comes at the interval's Point. -/
theorem Quick_l0 {L D E P s r : Int} (hG : okG L D E) (hR : okR L D L s P 0) (s1 : s ≤ 536870912) (d : Nat) : ∀ (k : Nat) (x : Int), 0 ≤ x → s + x ≤ P → (P - s - x).toNat = d → 2 * d + 16 ≤ k →
    hopmeshlaw47_GossipQuick.l0 k s r L x L D E L s P 0 = some true := by
  have hL := hG.2.1
  have b0 := hR.2.1
  have p1 := hR.2.2.2.1
  have p2 := hR.2.2.2.2.1
  have e0 := hG.2.2.2.2.1
  induction d with
  | zero =>
    intro k x h0 h1 hd hk
    obtain ⟨k, rfl⟩ : ∃ m, k = m + 1 := ⟨k - 1, by omega⟩
    simp only [hopmeshlaw47_GossipQuick.l0]
    rw [if_pos (by omega), w64 (x := s + x) (by omega) (by omega), step_in hG hR (by omega) (by omega) (by omega) (by omega) (by omega)]
    have hf : decide (s + x = P ∧ (E = 0 ∨ 0 < E)) = true := decide_eq_true (by omega)
    simp only [Option.bind_some, hf, if_true, bne_self_eq_false]
    obtain ⟨k, rfl⟩ : ∃ m, k = m + 1 := ⟨k - 1, by omega⟩
    simp [hopmeshlaw47_GossipQuick.j3]
  | succ d ih =>
    intro k x h0 h1 hd hk
    obtain ⟨k, rfl⟩ : ∃ m, k = m + 1 := ⟨k - 1, by omega⟩
    simp only [hopmeshlaw47_GossipQuick.l0]
    rw [if_pos (by omega), w64 (x := s + x) (by omega) (by omega), step_in hG hR (by omega) (by omega) (by omega) (by omega) (by omega)]
    have hf : decide (s + x = P ∧ (E = 0 ∨ 0 < E)) = false := decide_eq_false (by omega)
    simp only [Option.bind_some, hf, if_true, bne_self_eq_false]
    obtain ⟨k, rfl⟩ : ∃ m, k = m + 1 := ⟨k - 1, by omega⟩
    simp only [hopmeshlaw47_GossipQuick.j3, Bool.false_eq_true, if_false]
    rw [w64 (x := x + 1) (by omega) (by omega)]
    exact ih k (x + 1) (by omega) (by omega) (by omega) (by omega)
theorem Quick_yes (k : Nat) (s r L D E I B P H : Int) : hopmeshlaw47_GossipQuick.j0 (k + 1) s r true L D E I B P H = some true := rfl

theorem GossipQuick (y0_0 : Int) (y0_1 : Int) (y0_2 : Int) (y1_0 : Int) (y1_1 : Int) (y1_2 : Int) (y1_3 : Int) (a2 : Int) (a3 : Int) (_w0_0 : (Lit.int .i64 y0_0).wf = true) (_w0_1 : (Lit.int .i64 y0_1).wf = true) (_w0_2 : (Lit.int .i64 y0_2).wf = true) (_w1_0 : (Lit.int .i64 y1_0).wf = true) (_w1_1 : (Lit.int .i64 y1_1).wf = true) (_w1_2 : (Lit.int .i64 y1_2).wf = true) (_w1_3 : (Lit.int .i64 y1_3).wf = true) (_w2 : (Lit.int .i64 a2).wf = true) (w3 : (Lit.int .u32 a3).wf = true) : ∃ k, hopmeshlaw47_GossipQuick.f k y0_0 y0_1 y0_2 y1_0 y1_1 y1_2 y1_3 a2 a3 = some true := by
  refine ⟨2100, ?_⟩
  obtain ⟨r0, r1⟩ := u32_ w3
  unfold hopmeshlaw47_GossipQuick.f
  rw [awake_]
  simp only [Option.bind_some, if_true]
  rcases valid_some y0_0 y0_1 y0_2 y1_0 y1_1 y1_2 y1_3 (k := 2100) (by omega) with ⟨hG, hR, hv⟩ | ⟨e, he, hv⟩
  · rw [hv]
    simp only [Option.bind_some, if_true]
    have hL := hG.2.1
    have hL' := hG.1
    have b0 := hR.2.1
    have b1 := hR.2.2.1
    obtain ⟨l1, l2⟩ := len_le hG hR.1
    by_cases h1 : a2 < y1_1
    · rw [if_pos h1, Quick_yes]
    · rw [if_neg h1]
      by_cases h2 : a2 > 536870912
      · rw [if_pos h2, Quick_yes]
      · rw [if_neg h2, w64 (x := y1_1 + y1_0) (by omega) (by omega)]
        by_cases h3 : a2 ≥ y1_1 + y1_0
        · rw [decide_eq_true h3, Quick_yes]
        · rw [decide_eq_false h3]
          simp only [hopmeshlaw47_GossipQuick.j0, Bool.false_eq_true, if_false]
          by_cases h4 : y1_0 = y0_0
          · rw [hear_same hG hR (by omega) (by omega) (by omega) (by omega) (by omega)]
            simp only [Option.bind_some, if_true, h4, BEq.rfl, Bool.not_true, Bool.or_self]
            simp [hopmeshlaw47_GossipQuick.j1]
          · rw [hear_new hG hR (by omega) (by omega) (by omega) (by omega) r0 r1 (by omega)]
            simp only [Option.bind_some, if_true, if_neg h4]
            simp only [hopmeshlaw47_GossipQuick.j1, Bool.false_eq_true, if_false, if_neg h4]
            have hR' := begin_valid (r := a3) hG (len_L hG) (show 0 ≤ a2 by omega) (show a2 ≤ 1073741824 by omega)
            have p1 := hR'.2.2.2.1
            have p2 := hR'.2.2.2.2.1
            exact Quick_l0 hG hR' (by omega) (y0_0 / 2 + a3 % (y0_0 - y0_0 / 2)).toNat 2098 0 (by omega) (by omega) (by omega) (by omega)
  · rw [hv]
    simp only [Option.bind_some, if_neg he]
    exact Quick_yes _ _ _ _ _ _ _ _ _ _
end Go.Proofs.Ytmmknoaapllcmaa.Pure
