/- The plain law of GossipSpeaks: what the printed functions compute answers true. By this session. -/
import Derived.Test.YtmmknoaapllcmaaPAx14
import Derived.Test.YtmmknoaapllcmaaBase
namespace Go.Proofs.Ytmmknoaapllcmaa.Pure
open Go.RowKit Go.Proofs.YtmmknoaapllcmaaW.PrintWords Go.Proofs.YtmmknoaapllcmaaW.PrintLast Go.Proofs.YtmmknoaapllcmaaW.PrintMore Go.Proofs.Ytmmknoaapllcmaa.PA Go.Proofs.Ytmmknoaapllcmaa.Base
theorem rd_u32 {l : List Int} (hl : ∀ y ∈ l, (Lit.int .u32 y).wf = true) (i : Int) : 0 ≤ rd l i ∧ rd l i ≤ 4294967295 := by
  unfold rd
  rw [List.getD_eq_getElem?_getD]
  cases h : l[i.toNat]? with
  | none => simp
  | some y => exact u32_ (hl y (List.mem_of_getElem? h))
/-- The rest of an interval, from its slot j on. -/
theorem Speaks_in {l : List Int} {L D E I B P n i : Int} (hG : okG L D E) (hR : okR L D I B P 0) (h2 : B ≤ 2000000) (hI : I ≤ 600) (hi : 0 ≤ i) (hn : i < (l.length : Int)) (d : Nat) : ∀ (k : Nat) (j : Int), 12 ≤ k → 0 ≤ j → j ≤ I → (I - j).toNat = d →
    hopmeshlaw47_GossipSpeaks.l1 (k + 2 * d) l I (B + j) i (if P < B + j then 1 else 0) n i I j L D E I B P 0 = hopmeshlaw47_GossipSpeaks.l1 k l I (B + I) i 1 n i I I L D E I B P 0 := by
  have b0 := hR.2.1
  have p1 := hR.2.2.2.1
  have p2 := hR.2.2.2.2.1
  have e0 := hG.2.2.2.2.1
  induction d with
  | zero =>
    intro k j hk h0 h1 hd
    obtain rfl : j = I := by omega
    rw [if_pos p2]
    rfl
  | succ d ih =>
    intro k j hk h0 h1 hd
    have e : k + 2 * (d + 1) = (k + 2 * d + 1) + 1 := by omega
    rw [e]
    have hs := step_in (r := rd l i) (s := B + j) hG hR (by omega) (by omega) (by omega) (by omega) (k := k + 2 * d + 1) (by omega)
    rw [hopmeshlaw47_GossipSpeaks.l1, if_pos (by omega), if_pos hi, if_pos hn, hs]
    simp only [Option.bind_some, if_true, bne_self_eq_false]
    rw [hopmeshlaw47_GossipSpeaks.j3]
    simp only [Bool.false_eq_true, if_false]
    rw [w64 (x := B + j + 1) (by omega) (by omega), w64 (x := j + 1) (by omega) (by omega)]
    have ih' := ih k (j + 1) hk (by omega) (by omega) (by omega)
    rw [show B + (j + 1) = B + j + 1 by omega] at ih'
    by_cases hp : B + j = P
    · have hf : decide (B + j = P ∧ (E = 0 ∨ 0 < E)) = true := decide_eq_true (by omega)
      rw [if_pos (by rw [hf]), if_neg (by omega), w64 (by omega) (by omega)]
      rw [if_pos (by omega)] at ih'
      exact ih'
    · have hf : decide (B + j = P ∧ (E = 0 ∨ 0 < E)) = false := decide_eq_false (by omega)
      rw [if_neg (by rw [hf]; simp)]
      by_cases hq : P < B + j
      · rw [if_pos hq]
        rw [if_pos (by omega)] at ih'
        exact ih'
      · rw [if_neg hq]
        rw [if_neg (by omega)] at ih'
        exact ih'
/-- One interval after the other. -/
theorem Speaks_l0 {l : List Int} {L D E : Int} (hG : okG L D E) (hT : L * 2 ^ D.toNat ≤ 600) (hl : ∀ y ∈ l, (Lit.int .u32 y).wf = true) (h5 : (l.length : Int) ≤ 5) (d : Nat) : ∀ (k : Nat) (i len at_ I B P H : Int),
    0 ≤ i → i ≤ (l.length : Int) → ((l.length : Int) - i).toNat = d → 1400 * d + 20 ≤ k → 0 ≤ at_ → at_ ≤ 1048576 + 600 * i → okR L D I B P H → ((I = len ∧ B = at_ ∧ H = 0) ∨ (B + I = at_ ∧ len = nextI L D I)) →
    hopmeshlaw47_GossipSpeaks.l0 k l len at_ (l.length : Int) i L D E I B P H = some true := by
  have hL := hG.1
  induction d with
  | zero =>
    intro k i len at_ I B P H h0 h1 hd hk a0 a1 hR hC
    obtain ⟨k, rfl⟩ : ∃ m, k = m + 1 := ⟨k - 1, by omega⟩
    rw [hopmeshlaw47_GossipSpeaks.l0, if_neg (by omega)]
  | succ d ih =>
    intro k i len at_ I B P H h0 h1 hd hk a0 a1 hR hC
    obtain ⟨r0, r1⟩ := rd_u32 hl i
    obtain ⟨k, rfl⟩ : ∃ m, k = m + 1 := ⟨k - 1, by omega⟩
    rw [hopmeshlaw47_GossipSpeaks.l0, if_pos (by omega)]
    -- the first slot of the interval
    have hb0 := hR.2.1
    have first : ∃ P', okR L D len at_ P' 0 ∧ ∀ k, 12 ≤ k → gossip_Step.f k L D E I B P H at_ (rd l i) = some (len, at_, P', 0, false, 0) := by
      rcases hC with ⟨rfl, rfl, rfl⟩ | ⟨rfl, rfl⟩
      · have p1 := hR.2.2.2.1
        obtain ⟨l1, l2⟩ := len_le hG hR.1
        refine ⟨P, hR, fun k hk => ?_⟩
        rw [step_in hG hR (by omega) (by omega) (by omega) (by omega) hk, decide_eq_false (by omega)]
      · obtain ⟨l1, l2⟩ := len_le hG hR.1
        exact ⟨_, begin_valid hG (len_next hG hR.1).1 a0 (by omega), fun k hk => step_new hG hR a0 (by omega) (by omega) (by omega) r0 r1 hk⟩
    obtain ⟨P', hR', hs⟩ := first
    obtain ⟨l1, l2⟩ := len_le hG hR'.1
    have top := (len_next hG hR'.1).2
    have p1 := hR'.2.2.2.1
    have p2 := hR'.2.2.2.2.1
    obtain ⟨k, rfl⟩ : ∃ m, k = m + 2 := ⟨k - 2, by omega⟩
    have hstep : hopmeshlaw47_GossipSpeaks.l1 (k + 2) l len at_ i 0 (l.length : Int) i len 0 L D E I B P H = hopmeshlaw47_GossipSpeaks.l1 k l len (at_ + 1) i 0 (l.length : Int) i len 1 L D E len at_ P' 0 := by
      rw [hopmeshlaw47_GossipSpeaks.l1, if_pos (by omega), if_pos h0, if_pos (by omega), hs (k + 1) (by omega)]
      simp only [Option.bind_some, if_true, bne_self_eq_false]
      rw [hopmeshlaw47_GossipSpeaks.j3]
      simp only [Bool.false_eq_true, if_false]
      rw [w64 (x := at_ + 1) (by omega) (by omega), w64 (x := 0 + 1) (by omega) (by omega)]
      rfl
    rw [hstep]
    obtain ⟨q, rfl⟩ : ∃ q, k = q + 2 * (len - 1).toNat := ⟨k - 2 * (len - 1).toNat, by omega⟩
    have hin := Speaks_in (l := l) (n := (l.length : Int)) hG hR' (by omega) (by omega) h0 (by omega) (len - 1).toNat q 1 (by omega) (by omega) (by omega) rfl
    rw [if_neg (by omega)] at hin
    rw [hin]
    obtain ⟨q, rfl⟩ : ∃ m, q = m + 1 := ⟨q - 1, by omega⟩
    rw [hopmeshlaw47_GossipSpeaks.l1, if_neg (by omega), if_pos rfl, Greatest_ok hG]
    simp only [Option.bind_some]
    rw [mn_eq, w64 (x := 2 * len) (by omega) (by omega), w64 (x := i + 1) (by omega) (by omega)]
    exact ih q (i + 1) _ (at_ + len) len at_ P' 0 (by omega) (by omega) (by omega) (by omega) (by omega) (by omega) hR' (.inr ⟨rfl, rfl⟩)
theorem Speaks_yes (k : Nat) (s : Int) (l : List Int) (L D E : Int) : hopmeshlaw47_GossipSpeaks.j0 (k + 1) s l true L D E = some true := rfl

theorem GossipSpeaks (y0_0 : Int) (y0_1 : Int) (y0_2 : Int) (a1 : Int) (l2 : (List Int)) (_w0_0 : (Lit.int .i64 y0_0).wf = true) (_w0_1 : (Lit.int .i64 y0_1).wf = true) (_w0_2 : (Lit.int .i64 y0_2).wf = true) (_w1 : (Lit.int .i64 a1).wf = true) (w2 : (∀ y ∈ l2, (Lit.int .u32 y).wf = true)) : ∃ k, hopmeshlaw47_GossipSpeaks.f k y0_0 y0_1 y0_2 a1 l2 = some true := by
  refine ⟨9001, ?_⟩
  unfold hopmeshlaw47_GossipSpeaks.f
  rw [awake_]
  simp only [Option.bind_some, if_true]
  by_cases h1 : (l2.length : Int) = 0
  · rw [if_pos h1, Speaks_yes]
  · rw [if_neg h1]
    by_cases h2 : (l2.length : Int) > 5
    · rw [if_pos h2, Speaks_yes]
    · rw [if_neg h2]
      by_cases hG : okG y0_0 y0_1 y0_2
      · rw [check_ok hG]
        simp only [Option.bind_some, if_true]
        by_cases h3 : a1 < 0
        · rw [if_pos h3, Speaks_yes]
        · rw [if_neg h3]
          by_cases h4 : a1 > 1048576
          · rw [if_pos h4, Speaks_yes]
          · rw [if_neg h4, Greatest_ok hG]
            simp only [Option.bind_some]
            by_cases h5 : y0_0 * 2 ^ y0_1.toNat > 600
            · rw [decide_eq_true h5, Speaks_yes]
            · rw [decide_eq_false h5]
              obtain ⟨r0, r1⟩ := rd_u32 w2 0
              rw [hopmeshlaw47_GossipSpeaks.j0]
              simp only [Bool.false_eq_true, if_false]
              rw [if_pos (by omega), start_ok hG (by omega) (by omega) r0 r1]
              simp only [Option.bind_some, if_true]
              exact Speaks_l0 hG (by omega) w2 (by omega) l2.length 9000 0 _ _ _ _ _ _ (by omega) (by omega) (by omega) (by omega) (by omega) (by omega) (begin_valid hG (len_L hG) (by omega) (by omega)) (.inl ⟨rfl, rfl, rfl⟩)
      · rw [check_bad hG]
        simp only [Option.bind_some]
        rw [if_neg (by omega), Speaks_yes]
end Go.Proofs.Ytmmknoaapllcmaa.Pure
