/- The plain law of gossip: what Check, Valid, Start, Step and Hear compute of valid parameters and states. By this session. -/
import Derived.Test.YtmmknoaapllcmaaPAx6
import Derived.Test.YtmmknoaapllcmaaPAx7
namespace Go.Proofs.Ytmmknoaapllcmaa.Base
open Go.RowKit Go.Proofs.YtmmknoaapllcmaaW.PrintWords Go.Proofs.YtmmknoaapllcmaaW.PrintLast Go.Proofs.YtmmknoaapllcmaaW.PrintMore Go.Proofs.Ytmmknoaapllcmaa.PA

/-- Valid parameters. -/
def okG (L D E : Int) : Prop := 2 ≤ L ∧ L ≤ 1024 ∧ 0 ≤ D ∧ D ≤ 8 ∧ 0 ≤ E ∧ E ≤ 16
/-- A length of the parameters. -/
def len (L D I : Int) : Prop := ∃ i : Nat, (i : Int) ≤ D ∧ I = L * 2 ^ i
/-- A valid state. -/
def okR (L D I B P H : Int) : Prop := len L D I ∧ 0 ≤ B ∧ B ≤ 1073741824 ∧ B + I / 2 ≤ P ∧ P < B + I ∧ 0 ≤ H ∧ H ≤ 1048576

theorem w64 {x : Int} (h : -9223372036854775808 ≤ x) (h' : x ≤ 9223372036854775807) : wrap64 x = x := by
  unfold wrap64; omega
theorem tdiv2 {x : Int} (h : 0 ≤ x) : Int.tdiv x 2 = x / 2 := by
  rw [Int.tdiv_eq_ediv_of_nonneg h]
theorem tmod_ {x y : Int} (h : 0 ≤ x) : Int.tmod x y = x % y := by
  rw [Int.tmod_eq_emod_of_nonneg h]
theorem pow_le {i : Nat} {D : Int} (h : (i : Int) ≤ D) (hD : D ≤ 8) : (1 : Int) ≤ 2 ^ i ∧ (2 : Int) ^ i ≤ 256 := by
  have h8 : i ≤ 8 := by omega
  match i, h8 with
  | 0, _ => decide
  | 1, _ => decide
  | 2, _ => decide
  | 3, _ => decide
  | 4, _ => decide
  | 5, _ => decide
  | 6, _ => decide
  | 7, _ => decide
  | 8, _ => decide
theorem mul_le {L p : Int} (h1 : 2 ≤ L) (h2 : L ≤ 1024) (p1 : 1 ≤ p) (p2 : p ≤ 256) : L ≤ L * p ∧ L * p ≤ 262144 := by
  constructor
  · have := Int.mul_le_mul_of_nonneg_left p1 (show 0 ≤ L by omega); omega
  · have h3 := Int.mul_le_mul_of_nonneg_left p2 (show 0 ≤ L by omega)
    have h4 := Int.mul_le_mul_of_nonneg_right h2 (show (0:Int) ≤ 256 by omega)
    omega
theorem len_le {L D E I : Int} (hG : okG L D E) (h : len L D I) : L ≤ I ∧ I ≤ 262144 := by
  obtain ⟨i, hi, rfl⟩ := h
  obtain ⟨p1, p2⟩ := pow_le hi hG.2.2.2.1
  exact mul_le hG.1 hG.2.1 p1 p2
theorem shl_ {L D E : Int} (hG : okG L D E) {x : Int} (h0 : 0 ≤ x) (h : x ≤ D) : shl .i64 L x = L * 2 ^ x.toNat := by
  have hD := hG.2.2.2.1
  unfold shl
  rw [Nat.min_eq_left (by simp [IntKind.bits]; omega), i64_w]
  obtain ⟨p1, p2⟩ := pow_le (i := x.toNat) (by omega) hD
  obtain ⟨m1, m2⟩ := mul_le hG.1 hG.2.1 p1 p2
  exact w64 (by have := hG.1; omega) (by omega)

theorem check_ok {L D E : Int} (hG : okG L D E) : gossip_Check.f L D E = some 0 := by
  obtain ⟨h1, h2, h3, h4, h5, h6⟩ := hG
  unfold gossip_Check.f gossip_Check_1.f
  simp [h1, h2, h3, h4, h5, h6]
theorem check_bad {L D E : Int} (hG : ¬ okG L D E) : gossip_Check.f L D E = some 2 := by
  unfold gossip_Check.f gossip_Check_1.f
  by_cases h1 : 2 ≤ L <;> by_cases h2 : L ≤ 1024 <;> by_cases h3 : 0 ≤ D <;> by_cases h4 : D ≤ 8 <;> by_cases h5 : 0 ≤ E <;> by_cases h6 : E ≤ 16 <;> simp [h1, h2, h3, h4, h5, h6]
  exact hG ⟨h1, h2, h3, h4, h5, h6⟩
theorem check_0 {L D E : Int} (h : gossip_Check.f L D E = some 0) : okG L D E := by
  by_cases hG : okG L D E
  · exact hG
  · rw [check_bad hG] at h; simp at h

theorem begin_ok {a s r : Int} (h1 : 2 ≤ a) (h2 : a ≤ 262144) (s0 : 0 ≤ s) (s1 : s ≤ 1073741824) (r0 : 0 ≤ r) (_r1 : r ≤ 4294967295) :
    gossip_begin.f a s r = some (a, s, s + a / 2 + r % (a - a / 2), 0) := by
  have e1 : wrap64 (Int.tdiv a 2) = a / 2 := by rw [tdiv2 (by omega), w64 (by omega) (by omega)]
  have e2 : wrap64 (a - a / 2) = a - a / 2 := w64 (by omega) (by omega)
  have e3 : (a - a / 2) % 4294967296 = a - a / 2 := Int.emod_eq_of_lt (by omega) (by omega)
  have m1 := Int.emod_nonneg r (show a - a / 2 ≠ 0 by omega)
  have m2 := Int.emod_lt_of_pos r (show 0 < a - a / 2 by omega)
  unfold gossip_begin.f
  rw [e1, e2, e3, tmod_ r0, w64 (x := s + a / 2) (by omega) (by omega), w64 (x := r % (a - a / 2)) (by omega) (by omega), w64 (x := s + a / 2 + r % (a - a / 2)) (by omega) (by omega)]
  rw [if_neg (by omega)]

/-- The state in which an interval begins is valid. -/
theorem begin_valid {L D E a s r : Int} (hG : okG L D E) (ha : len L D a) (s0 : 0 ≤ s) (s1 : s ≤ 1073741824) : okR L D a s (s + a / 2 + r % (a - a / 2)) 0 := by
  obtain ⟨h1, h2⟩ := len_le hG ha
  have := hG.1
  have m1 := Int.emod_nonneg r (show a - a / 2 ≠ 0 by omega)
  have m2 := Int.emod_lt_of_pos r (show 0 < a - a / 2 by omega)
  exact ⟨ha, s0, s1, by omega, by omega, by omega, by omega⟩

theorem len_L {L D E : Int} (hG : okG L D E) : len L D L := ⟨0, by have := hG.2.2.1; omega, by simp⟩
theorem len_top {L D E : Int} (hG : okG L D E) : len L D (L * 2 ^ D.toNat) := ⟨D.toNat, by have := hG.2.2.1; omega, rfl⟩
theorem len_next {L D E I : Int} (hG : okG L D E) (h : len L D I) : len L D (min (2 * I) (L * 2 ^ D.toNat)) ∧ I ≤ L * 2 ^ D.toNat := by
  obtain ⟨i, hi, rfl⟩ := h
  have hD := hG.2.2.1
  have hL := hG.1
  have key : ∀ j q : Nat, j ≤ q → L * 2 ^ j ≤ L * 2 ^ q := by
    intro j q h
    apply Int.mul_le_mul_of_nonneg_left _ (by omega)
    have : (2 : Nat) ^ j ≤ 2 ^ q := Nat.pow_le_pow_right (by omega) h
    exact_mod_cast this
  refine ⟨?_, key i D.toNat (by omega)⟩
  by_cases h : i < D.toNat
  · have h2 := key (i + 1) D.toNat (by omega)
    have e : L * 2 ^ (i + 1) = 2 * (L * 2 ^ i) := by rw [Int.pow_succ]; grind
    rw [Int.min_eq_left (by omega)]
    exact ⟨i + 1, by omega, e.symm⟩
  · have e : i = D.toNat := by omega
    subst e
    have := key 0 D.toNat (by omega)
    simp only [Int.pow_zero, Int.mul_one] at this
    rw [Int.min_eq_right (by omega)]
    exact len_top hG

theorem start_ok {L D E s r : Int} (hG : okG L D E) (s0 : 0 ≤ s) (s1 : s ≤ 1073741824) (r0 : 0 ≤ r) (r1 : r ≤ 4294967295) :
    gossip_Start.f L D E s r = some (L, s, s + L / 2 + r % (L - L / 2), 0, 0) := by
  unfold gossip_Start.f
  rw [check_ok hG]
  simp only [Option.bind_some]
  rw [if_pos trivial, if_neg (by omega), if_neg (by omega), begin_ok hG.1 (by have := hG.2.1; omega) s0 s1 r0 r1]
  rfl
theorem start_bad {L D E s r : Int} (h : ¬ (okG L D E ∧ 0 ≤ s ∧ s ≤ 1073741824)) : gossip_Start.f L D E s r = some (0, 0, 0, 0, 2) := by
  unfold gossip_Start.f
  by_cases hG : okG L D E
  · rw [check_ok hG]
    simp only [Option.bind_some]
    rw [if_pos trivial]
    by_cases h0 : s < 0
    · rw [if_pos h0]
    · rw [if_neg h0, if_pos (by have : ¬ (s ≤ 1073741824) := fun h1 => h ⟨hG, by omega, h1⟩; omega)]
  · rw [check_bad hG]
    simp only [Option.bind_some]
    rw [if_neg (by omega)]

/-- What follows the loop of Valid. -/
def rest (b : Bool) (I B P H : Int) : Option Int :=
  if b = true then (if 0 ≤ B ∧ B ≤ 1073741824 ∧ B + I / 2 ≤ P ∧ P < B + I ∧ 0 ≤ H ∧ H ≤ 1048576 then some 0 else some 1) else some 1
theorem valid_end {L D E I B P H : Int} (hG : okG L D E) (b : Bool) (hb : b = true → len L D I) (n x : Int) (hx : ¬ x < n) (k : Nat) :
    gossip_Valid.l0 (k + 1) b n x L D E I B P H = rest b I B P H := by
  simp only [gossip_Valid.l0]
  rw [if_neg hx]
  unfold rest
  cases b with
  | false => simp
  | true =>
    obtain ⟨l1, l2⟩ := len_le hG (hb rfl)
    have hL := hG.1
    simp only [if_true]
    unfold gossip_Valid_1.f
    by_cases h1 : 0 ≤ B
    · by_cases h2 : B < 1073741825
      · have e1 : wrap64 (B + wrap64 (Int.tdiv I 2)) = B + I / 2 := by rw [tdiv2 (by omega), w64 (x := I / 2) (by omega) (by omega), w64 (by omega) (by omega)]
        have e2 : wrap64 (B + I) = B + I := w64 (by omega) (by omega)
        rw [e1, e2]
        by_cases h3 : B + I / 2 ≤ P <;> by_cases h4 : P < B + I <;> by_cases h5 : 0 ≤ H <;> by_cases h6 : H < 1048577 <;> simp [h1, h2, h3, h4, h5, h6] <;> omega
      · simp [h1, h2]; omega
    · simp [h1]
theorem valid_loop {L D E I B P H : Int} (hG : okG L D E) (d : Nat) : ∀ (k : Nat) (x : Int) (b : Bool), 0 ≤ x → x ≤ D + 1 → (D + 1 - x).toNat = d → d < k →
    (b = true → len L D I) → ((∃ i : Nat, (i : Int) < x ∧ I = L * 2 ^ i) → b = true) →
    ∃ b' : Bool, gossip_Valid.l0 k b (D + 1) x L D E I B P H = rest b' I B P H ∧ (b' = true ↔ len L D I) := by
  have hD := hG.2.2.2.1
  induction d with
  | zero =>
    intro k x b h0 h1 hd hk hb hb'
    obtain ⟨k, rfl⟩ : ∃ m, k = m + 1 := ⟨k - 1, by omega⟩
    refine ⟨b, valid_end hG b hb _ _ (by omega) k, hb, fun ⟨i, hi, e⟩ => hb' ⟨i, by omega, e⟩⟩
  | succ d ih =>
    intro k x b h0 h1 hd hk hb hb'
    obtain ⟨k, rfl⟩ : ∃ m, k = m + 1 := ⟨k - 1, by omega⟩
    simp only [gossip_Valid.l0]
    rw [if_pos (by omega), w64 (x := x + 1) (by omega) (by omega)]
    cases hbb : b with
    | true =>
      simp only [if_true]
      exact ih k (x + 1) true (by omega) (by omega) (by omega) (by omega) (fun _ => hb hbb) (fun _ => rfl)
    | false =>
      simp only [Bool.false_eq_true, if_false]
      rw [if_pos h0, shl_ hG h0 (by omega)]
      refine ih k (x + 1) _ (by omega) (by omega) (by omega) (by omega) (fun h => ⟨x.toNat, by omega, by simpa using h⟩) ?_
      rintro ⟨i, hi, e⟩
      by_cases hx : (i : Int) < x
      · have := hb' ⟨i, hx, e⟩; rw [hbb] at this; simp at this
      · have : i = x.toNat := by omega
        subst this
        simpa using e
theorem valid_eq {L D E I B P H : Int} (hG : okG L D E) {k : Nat} (hk : 12 ≤ k) :
    (okR L D I B P H → gossip_Valid.f k L D E I B P H = some 0) ∧ (¬ okR L D I B P H → gossip_Valid.f k L D E I B P H = some 1) := by
  have hD := hG.2.2
  obtain ⟨b, e, hb⟩ := valid_loop (I := I) (B := B) (P := P) (H := H) hG (D + 1).toNat k 0 false (by omega) (by omega) (by omega) (by omega) (by simp) (by rintro ⟨i, hi, _⟩; omega)
  have e0 : gossip_Valid.f k L D E I B P H = rest b I B P H := by
    unfold gossip_Valid.f
    rw [check_ok hG]
    simp only [Option.bind_some, if_true]
    rw [w64 (x := D + 1) (by omega) (by omega), e]
  rw [e0]
  unfold rest okR
  constructor
  · rintro ⟨h1, h2⟩
    rw [if_pos (hb.2 h1), if_pos h2]
  · intro h
    by_cases h1 : b = true
    · rw [if_pos h1, if_neg (fun h2 => h ⟨hb.1 h1, h2⟩)]
    · rw [if_neg h1]
theorem valid_ok {L D E I B P H : Int} (hG : okG L D E) (hR : okR L D I B P H) {k : Nat} (hk : 12 ≤ k) : gossip_Valid.f k L D E I B P H = some 0 := (valid_eq hG hk).1 hR
theorem valid_badG {L D E I B P H : Int} (hG : ¬ okG L D E) (k : Nat) : gossip_Valid.f k L D E I B P H = some 2 := by
  unfold gossip_Valid.f
  rw [check_bad hG]
  simp
theorem valid_some (L D E I B P H : Int) {k : Nat} (hk : 12 ≤ k) : (okG L D E ∧ okR L D I B P H ∧ gossip_Valid.f k L D E I B P H = some 0) ∨ ∃ e, e ≠ 0 ∧ gossip_Valid.f k L D E I B P H = some e := by
  by_cases hG : okG L D E
  · by_cases hR : okR L D I B P H
    · exact .inl ⟨hG, hR, valid_ok hG hR hk⟩
    · exact .inr ⟨1, by omega, (valid_eq hG hk).2 hR⟩
  · exact .inr ⟨2, by omega, valid_badG hG k⟩

theorem chk_ok {L D E I B P H s : Int} (hG : okG L D E) (hR : okR L D I B P H) (s0 : 0 ≤ s) (s1 : s ≤ 1073741824) (hB : B ≤ s) {k : Nat} (hk : 12 ≤ k) :
    gossip_check.f k L D E I B P H s = some 0 := by
  unfold gossip_check.f
  rw [valid_ok hG hR hk]
  simp only [Option.bind_some, if_true]
  rw [if_neg (by omega)]
  obtain ⟨k, rfl⟩ : ∃ m, k = m + 1 := ⟨k - 1, by omega⟩
  simp only [gossip_check.j0]
  rw [if_neg (by simp; omega), if_neg (by omega)]
theorem chk_late {L D E I B P H s : Int} (hG : okG L D E) (hR : okR L D I B P H) (s1 : 1073741824 < s) {k : Nat} (hk : 12 ≤ k) :
    gossip_check.f k L D E I B P H s = some 2 := by
  unfold gossip_check.f
  rw [valid_ok hG hR hk]
  simp only [Option.bind_some, if_true]
  rw [if_neg (by omega)]
  obtain ⟨k, rfl⟩ : ∃ m, k = m + 1 := ⟨k - 1, by omega⟩
  simp only [gossip_check.j0]
  rw [if_pos (by simp; omega)]
theorem greatest_ok {L D E : Int} (hG : okG L D E) : gossip_greatest.f L D E = some (L * 2 ^ D.toNat) := by
  unfold gossip_greatest.f
  rw [if_pos hG.2.2.1, shl_ hG hG.2.2.1 (Int.le_refl _)]
theorem Greatest_ok {L D E : Int} (hG : okG L D E) : gossip_Greatest.f L D E = some (L * 2 ^ D.toNat) := by
  unfold gossip_Greatest.f
  rw [check_ok hG, greatest_ok hG]
  rfl
theorem quiet_ok (L D E I B P H : Int) : gossip_quiet.f L D E I B P H = some (decide (E = 0 ∨ H < E)) := by
  unfold gossip_quiet.f
  by_cases h : E = 0 <;> simp [h]

/-- The length of the interval behind the present one. -/
def nextI (L D I : Int) : Int := min (2 * I) (L * 2 ^ D.toNat)
theorem mn_eq (a b : Int) : mn a b = min a b := by unfold mn; omega

theorem step_j0 (L D E I B P H s : Int) {k : Nat} (hk : 1 ≤ k) : gossip_Step.j0 k s L D E I B P H = some (I, B, P, H, decide (s = P ∧ (E = 0 ∨ H < E)), 0) := by
  obtain ⟨k, rfl⟩ : ∃ m, k = m + 1 := ⟨k - 1, by omega⟩
  simp only [gossip_Step.j0]
  by_cases h : s = P
  · rw [if_pos h, quiet_ok]; simp [h]
  · rw [if_neg h]; simp [h]
/-- Step inside the present interval. -/
theorem step_in {L D E I B P H s r : Int} (hG : okG L D E) (hR : okR L D I B P H) (s0 : 0 ≤ s) (s1 : s ≤ 1073741824) (hB : B ≤ s) (hI : s < B + I) {k : Nat} (hk : 12 ≤ k) :
    gossip_Step.f k L D E I B P H s r = some (I, B, P, H, decide (s = P ∧ (E = 0 ∨ H < E)), 0) := by
  obtain ⟨l1, l2⟩ := len_le hG hR.1
  have b0 := hR.2.1
  have b1 := hR.2.2.1
  unfold gossip_Step.f
  rw [chk_ok hG hR s0 s1 hB hk]
  simp only [Option.bind_some, if_true]
  rw [w64 (x := B + I) (by have := hG.1; omega) (by omega), if_neg (by omega)]
  exact step_j0 _ _ _ _ _ _ _ _ (by omega)
/-- Step behind it: an interval of the next length begins, and no announcement is made in its first slot. -/
theorem step_new {L D E I B P H s r : Int} (hG : okG L D E) (hR : okR L D I B P H) (s0 : 0 ≤ s) (s1 : s ≤ 1073741824) (hB : B ≤ s) (hI : B + I ≤ s) (r0 : 0 ≤ r) (r1 : r ≤ 4294967295) {k : Nat} (hk : 12 ≤ k) :
    gossip_Step.f k L D E I B P H s r = some (nextI L D I, s, s + nextI L D I / 2 + r % (nextI L D I - nextI L D I / 2), 0, false, 0) := by
  obtain ⟨l1, l2⟩ := len_le hG hR.1
  have b0 := hR.2.1
  have b1 := hR.2.2.1
  have hL := hG.1
  have hn := (len_next hG hR.1).1
  obtain ⟨n1, n2⟩ := len_le hG hn
  unfold gossip_Step.f
  rw [chk_ok hG hR s0 s1 hB hk]
  simp only [Option.bind_some, if_true]
  rw [w64 (x := B + I) (by omega) (by omega), if_pos (by omega), greatest_ok hG]
  simp only [Option.bind_some]
  rw [w64 (x := 2 * I) (by omega) (by omega), mn_eq, begin_ok (by omega) n2 s0 s1 r0 r1]
  simp only [Option.bind_some]
  rw [step_j0 _ _ _ _ _ _ _ _ (by omega)]
  have m1 := Int.emod_nonneg r (show min (2 * I) (L * 2 ^ D.toNat) - min (2 * I) (L * 2 ^ D.toNat) / 2 ≠ 0 by omega)
  unfold nextI
  rw [decide_eq_false (by omega)]
theorem step_late {L D E I B P H s r : Int} (hG : okG L D E) (hR : okR L D I B P H) (s1 : 1073741824 < s) {k : Nat} (hk : 12 ≤ k) :
    gossip_Step.f k L D E I B P H s r = some (0, 0, 0, 0, false, 2) := by
  unfold gossip_Step.f
  rw [chk_late hG hR s1 hk]
  simp
/-- Hear, an equal announcement. -/
theorem hear_eq {L D E I B P H s r : Int} (hG : okG L D E) (hR : okR L D I B P H) (s0 : 0 ≤ s) (s1 : s ≤ 1073741824) (hB : B ≤ s) {k : Nat} (hk : 12 ≤ k) :
    gossip_Hear.f k L D E I B P H true s r = some (I, B, P, min (H + 1) 1048576, 0) := by
  have h0 := hR.2.2.2.2.2
  unfold gossip_Hear.f
  rw [chk_ok hG hR s0 s1 hB hk]
  simp only [Option.bind_some, if_true]
  rw [w64 (x := H + 1) (by omega) (by omega), mn_eq]
/-- Hear, an announcement that differs, in an interval of the least length. -/
theorem hear_same {L D E I B P H s r : Int} (hG : okG L D E) (hR : okR L D I B P H) (s0 : 0 ≤ s) (s1 : s ≤ 1073741824) (hB : B ≤ s) (hI : I ≤ L) {k : Nat} (hk : 12 ≤ k) :
    gossip_Hear.f k L D E I B P H false s r = some (I, B, P, H, 0) := by
  unfold gossip_Hear.f
  rw [chk_ok hG hR s0 s1 hB hk]
  simp only [Option.bind_some, if_true, Bool.false_eq_true, if_false]
  rw [if_neg (by omega)]
theorem hear_new {L D E I B P H s r : Int} (hG : okG L D E) (hR : okR L D I B P H) (s0 : 0 ≤ s) (s1 : s ≤ 1073741824) (hB : B ≤ s) (hI : L < I) (r0 : 0 ≤ r) (r1 : r ≤ 4294967295) {k : Nat} (hk : 12 ≤ k) :
    gossip_Hear.f k L D E I B P H false s r = some (L, s, s + L / 2 + r % (L - L / 2), 0, 0) := by
  unfold gossip_Hear.f
  rw [chk_ok hG hR s0 s1 hB hk]
  simp only [Option.bind_some, if_true, Bool.false_eq_true, if_false]
  rw [if_pos (by omega), begin_ok hG.1 (by have := hG.2.1; omega) s0 s1 r0 r1]
  rfl
theorem okR_heard {L D I B P H H' : Int} (hR : okR L D I B P H) (h0 : 0 ≤ H') (h1 : H' ≤ 1048576) : okR L D I B P H' :=
  ⟨hR.1, hR.2.1, hR.2.2.1, hR.2.2.2.1, hR.2.2.2.2.1, h0, h1⟩
theorem u32_ {r : Int} (h : (Lit.int .u32 r).wf = true) : 0 ≤ r ∧ r ≤ 4294967295 := by
  have h1 : IntKind.u32.min = 0 := rfl
  have h2 : IntKind.u32.max = 4294967295 := rfl
  simp [Lit.wf] at h
  omega
theorem i64_ {r : Int} (h : (Lit.int .i64 r).wf = true) : -9223372036854775808 ≤ r ∧ r ≤ 9223372036854775807 := by
  have h1 : IntKind.i64.min = -9223372036854775808 := rfl
  have h2 : IntKind.i64.max = 9223372036854775807 := rfl
  simp [Lit.wf] at h
  omega
theorem awake_ : hopmeshlaw47_awake.f = some true := rfl
end Go.Proofs.Ytmmknoaapllcmaa.Base
