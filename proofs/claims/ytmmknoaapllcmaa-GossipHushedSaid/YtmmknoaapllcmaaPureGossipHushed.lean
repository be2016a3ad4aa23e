/- The plain law of GossipHushed: what the printed functions compute answers true. By this session. -/
import Derived.Test.YtmmknoaapllcmaaPAx19
import Derived.Test.YtmmknoaapllcmaaBase
namespace Go.Proofs.Ytmmknoaapllcmaa.Pure
open Go.RowKit Go.Proofs.YtmmknoaapllcmaaW.PrintWords Go.Proofs.YtmmknoaapllcmaaW.PrintLast Go.Proofs.YtmmknoaapllcmaaW.PrintMore Go.Proofs.Ytmmknoaapllcmaa.PA Go.Proofs.Ytmmknoaapllcmaa.Base
/-- No announcement is made in the rest of the interval. -/
theorem Hushed_l1 {L D E P H s r : Int} (hG : okG L D E) (hE : E ≠ 0) (hH : E ≤ H) (hR : okR L D L s P H) (s1 : s ≤ 1048576) (d : Nat) : ∀ (k : Nat) (x : Int), 0 ≤ x → x ≤ L → (L - x).toNat = d → d + 13 ≤ k →
    hopmeshlaw47_GossipHushed.l1 k s r L x L D E L s P H = some true := by
  have hL := hG.2.1
  have b0 := hR.2.1
  induction d with
  | zero =>
    intro k x h0 h1 hd hk
    obtain ⟨k, rfl⟩ : ∃ m, k = m + 1 := ⟨k - 1, by omega⟩
    simp only [hopmeshlaw47_GossipHushed.l1]
    rw [if_neg (by omega)]
  | succ d ih =>
    intro k x h0 h1 hd hk
    obtain ⟨k, rfl⟩ : ∃ m, k = m + 1 := ⟨k - 1, by omega⟩
    simp only [hopmeshlaw47_GossipHushed.l1]
    rw [if_pos (by omega), w64 (x := s + x) (by omega) (by omega), step_in hG hR (by omega) (by omega) (by omega) (by omega) (by omega)]
    have hf : decide (s + x = P ∧ (E = 0 ∨ H < E)) = false := decide_eq_false (by omega)
    simp only [Option.bind_some, hf, Bool.false_eq_true, if_false, if_true]
    rw [w64 (x := x + 1) (by omega) (by omega)]
    exact ih k (x + 1) (by omega) (by omega) (by omega) (by omega)
/-- Equal announcements are counted. -/
theorem Hushed_l0 {L D E P s r n : Int} (hG : okG L D E) (hE : E ≠ 0) (hn : E ≤ n) (hn' : n ≤ 19) (s1 : s ≤ 1048576) (d : Nat) : ∀ (k : Nat) (x : Int), 0 ≤ x → x ≤ n → (n - x).toNat = d → d + 1100 ≤ k → okR L D L s P x →
    hopmeshlaw47_GossipHushed.l0 k s r n x L D E L s P x = some true := by
  have hL := hG.2.1
  have hL' := hG.1
  induction d with
  | zero =>
    intro k x h0 h1 hd hk hR
    have b0 := hR.2.1
    obtain ⟨k, rfl⟩ : ∃ m, k = m + 1 := ⟨k - 1, by omega⟩
    simp only [hopmeshlaw47_GossipHushed.l0]
    rw [if_neg (by omega), w64 (x := s + L) (by omega) (by omega)]
    have hdue : gossip_Due.f k L D E L s P x s (s + L) = some (0, false, 0) := by
      unfold gossip_Due.f
      rw [valid_ok hG hR (by omega)]
      simp only [Option.bind_some, if_true]
      rw [if_neg (by omega)]
      obtain ⟨k, rfl⟩ : ∃ m, k = m + 1 := ⟨k - 1, by omega⟩
      simp only [gossip_Due.j0]
      have p1 := hR.2.2.2.1
      have p2 := hR.2.2.2.2.1
      rw [if_neg (by simp; omega), if_neg (by omega), if_neg (by omega), quiet_ok]
      have hf : decide (E = 0 ∨ x < E) = false := decide_eq_false (by omega)
      simp [hf]
    rw [hdue]
    simp only [Option.bind_some, Bool.false_eq_true, if_false, bne_self_eq_false]
    obtain ⟨k, rfl⟩ : ∃ m, k = m + 1 := ⟨k - 1, by omega⟩
    simp only [hopmeshlaw47_GossipHushed.j2, Bool.false_eq_true, if_false]
    exact Hushed_l1 hG hE (by omega) hR s1 L.toNat k 0 (by omega) (by omega) (by omega) (by omega)
  | succ d ih =>
    intro k x h0 h1 hd hk hR
    have b0 := hR.2.1
    obtain ⟨k, rfl⟩ : ∃ m, k = m + 1 := ⟨k - 1, by omega⟩
    simp only [hopmeshlaw47_GossipHushed.l0]
    rw [if_pos (by omega), hear_eq hG hR (by omega) (by omega) (by omega) (by omega)]
    simp only [Option.bind_some, if_true]
    rw [Int.min_eq_left (by omega), w64 (x := x + 1) (by omega) (by omega)]
    exact ih k (x + 1) (by omega) (by omega) (by omega) (by omega) (okR_heard hR (by omega) (by omega))
theorem Hushed_yes (k : Nat) (s r m L D E : Int) : hopmeshlaw47_GossipHushed.j0 (k + 1) s r m true L D E = some true := rfl

theorem GossipHushed (y0_0 : Int) (y0_1 : Int) (y0_2 : Int) (a1 : Int) (a2 : Int) (a3 : Int) (_w0_0 : (Lit.int .i64 y0_0).wf = true) (_w0_1 : (Lit.int .i64 y0_1).wf = true) (_w0_2 : (Lit.int .i64 y0_2).wf = true) (_w1 : (Lit.int .i64 a1).wf = true) (w2 : (Lit.int .u32 a2).wf = true) (w3 : (Lit.int .u8 a3).wf = true) : ∃ k, hopmeshlaw47_GossipHushed.f k y0_0 y0_1 y0_2 a1 a2 a3 = some true := by
  refine ⟨1200, ?_⟩
  obtain ⟨r0, r1⟩ := u32_ w2
  unfold hopmeshlaw47_GossipHushed.f
  rw [awake_]
  simp only [Option.bind_some, if_true]
  by_cases hG : okG y0_0 y0_1 y0_2
  · rw [check_ok hG]
    simp only [Option.bind_some, if_true]
    have hE := hG.2.2.2.2
    by_cases h1 : y0_2 = 0
    · rw [if_pos h1, Hushed_yes]
    · rw [if_neg h1]
      by_cases h2 : a1 < 0
      · rw [if_pos h2, Hushed_yes]
      · rw [if_neg h2]
        by_cases h3 : a1 > 1048576
        · rw [decide_eq_true h3, Hushed_yes]
        · rw [decide_eq_false h3]
          simp only [hopmeshlaw47_GossipHushed.j0, Bool.false_eq_true, if_false]
          rw [start_ok hG (by omega) (by omega) r0 r1]
          simp only [Option.bind_some, if_true]
          have a0 : 0 ≤ a3 ∧ a3 ≤ 255 := by
            have h1 : IntKind.u8.min = 0 := rfl
            have h2 : IntKind.u8.max = 255 := rfl
            simp [Lit.wf] at w3
            omega
          rw [tmod_ a0.1, w64 (x := a3 % 4) (by omega) (by omega), w64 (x := y0_2 + a3 % 4) (by omega) (by omega)]
          exact Hushed_l0 hG h1 (by omega) (by omega) (by omega) (y0_2 + a3 % 4).toNat 1199 0 (by omega) (by omega) (by omega) (by omega) (begin_valid hG (len_L hG) (by omega) (by omega))
  · rw [check_bad hG]
    simp only [Option.bind_some]
    rw [if_neg (by omega), Hushed_yes]
end Go.Proofs.Ytmmknoaapllcmaa.Pure
