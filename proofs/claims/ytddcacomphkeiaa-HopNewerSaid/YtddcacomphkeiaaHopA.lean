/- Channels, lists and the channel of an offset, as plain functions of numbers and lists; the printed functions answer as these. By this session. -/
import Derived.Test.YtddcacomphkeiaaPAx1
import Derived.Test.YtddcacomphkeiaaPAx12
import Derived.Test.YtddcacomphkeiaaPAx16
import Derived.Test.YtddcacomphkeiaaPAx2
import Derived.Test.YtddcacomphkeiaaPAx29
import Derived.Test.YtddcacomphkeiaaPAx3
import Derived.Test.YtddcacomphkeiaaPAx31
import Derived.Test.YtddcacomphkeiaaPAx9
import Derived.WalkKit
set_option linter.unusedVariables false
set_option linter.unusedSimpArgs false
namespace Go.Proofs.Ytddcacomphkeiaa.Hop
open Go.RowKit Go.Proofs.YtddcacomphkeiaaW.PrintWords Go.Proofs.YtddcacomphkeiaaW.PrintLast Go.Proofs.YtddcacomphkeiaaW.PrintMore Go.Proofs.Ytddcacomphkeiaa.PA
theorem w64 {x : Int} (h0 : -9223372036854775808 ≤ x) (h1 : x ≤ 9223372036854775807) : wrap64 x = x := by unfold wrap64; omega
theorem wsucc {i : Nat} (h : i < 1000000) : wrap64 ((i : Int) + 1) = ((i + 1 : Nat) : Int) := by rw [w64 (by omega) (by omega)]; omega
theorem rdi {l : List Int} {i : Nat} (h : i < l.length) : rd l (i : Int) = l[i] := by unfold rd; rw [List.getD_eq_getElem?_getD, Int.toNat_natCast, List.getElem?_eq_getElem h]; rfl
/-- 1 to 16 different channels. -/
def okCh (l : List Int) : Prop := l ≠ [] ∧ (∀ c ∈ l, 0 ≤ c ∧ c < 16) ∧ l.Nodup
instance (l : List Int) : Decidable (okCh l) := by unfold okCh; infer_instance
theorem take_succ_ {α : Type} {l : List α} {i : Nat} (h : i < l.length) : l.take (i + 1) = l.take i ++ [l[i]] := List.take_succ_eq_append_getElem h
theorem nodup_snoc {l : List Int} {a : Int} : (l ++ [a]).Nodup ↔ l.Nodup ∧ a ∉ l := by
  rw [List.nodup_append]
  constructor
  · rintro ⟨h1, _, h3⟩
    exact ⟨h1, fun h => h3 a h a (List.mem_singleton.2 rfl) rfl⟩
  · rintro ⟨h1, h2⟩
    exact ⟨h1, by simp, fun x hx y hy e => by rw [List.mem_singleton.1 hy] at e; exact h2 (e ▸ hx)⟩
theorem channel_eq (c : Int) : hop_channel.f c = some (decide (0 ≤ c ∧ c < 16)) := by
  unfold hop_channel.f
  by_cases h : c ≥ 0
  · rw [if_pos h]; simp [h]
  · rw [if_neg h]; simp [h]
theorem rchannel_eq (c : Int) : hopmeshref11_channel.f c = some (decide (0 ≤ c ∧ c < 16)) := by
  unfold hopmeshref11_channel.f
  by_cases h : c ≥ 0
  · rw [if_pos h]; simp [h]
  · rw [if_neg h]; simp [h]
theorem bad_of {l : List Int} {c : Int} (hc : c ∈ l) (h : ¬ (0 ≤ c ∧ c < 16)) : ¬ okCh l := fun h' => h (h'.2.1 c hc)
theorem twice_of {l : List Int} {i : Nat} (hi : i < l.length) (h : l[i] ∈ l.take i) : ¬ okCh l := fun h' => by
  have hn := h'.2.2
  rw [← List.take_append_drop (i + 1) l, take_succ_ hi] at hn
  exact (nodup_snoc.1 (List.nodup_append.1 hn).1).2 h
theorem channels_from (l : List Int) (hl : l.length ≤ 1000) : ∀ n i k, i + n = l.length → n + 1002 ≤ k → (∀ c ∈ l.take i, 0 ≤ c ∧ c < 16) → (l.take i).Nodup → hop_channels.l0 k l l (l.length : Int) (i : Int) = some (decide (okCh l))
  | 0, i, k, h, hk, h1, h2 => by
    obtain ⟨k, rfl⟩ : ∃ j, k = j + 1 := ⟨k - 1, by omega⟩
    rw [hop_channels.l0, if_neg (by omega)]
    rw [List.take_of_length_le (by omega)] at h1 h2
    congr 1
    rw [decide_eq_decide]
    constructor
    · intro h; exact ⟨fun e => by rw [e] at h; simp at h, h1, h2⟩
    · intro h; have := List.length_pos_iff.2 h.1; omega
  | n + 1, i, k, h, hk, h1, h2 => by
    obtain ⟨k, rfl⟩ : ∃ j, k = j + 1 := ⟨k - 1, by omega⟩
    have hi : i < l.length := by omega
    have hm : l[i] ∈ l := List.getElem_mem hi
    rw [hop_channels.l0, if_pos (by omega), if_pos (by omega), if_pos (by omega), rdi hi, channel_eq, Option.bind_some]
    by_cases q : 0 ≤ l[i] ∧ l[i] < 16
    · rw [if_pos (decide_eq_true q), if_pos (by omega), Int.toNat_natCast, contains_eq _ _ (by rw [List.length_take]; omega) (by rw [List.length_take]; omega), Option.bind_some]
      by_cases q2 : l[i] ∈ l.take i
      · rw [if_pos (decide_eq_true q2), decide_eq_false (twice_of hi q2)]
      · rw [if_neg (by simpa using q2), wsucc (by omega)]
        refine channels_from l hl n (i + 1) k (by omega) (by omega) ?_ ?_
        · intro c hc
          rw [take_succ_ hi] at hc
          rcases List.mem_append.1 hc with hc | hc
          · exact h1 c hc
          · rw [List.mem_singleton.1 hc]; exact q
        · rw [take_succ_ hi]; exact nodup_snoc.2 ⟨h2, q2⟩
    · rw [if_neg (by simpa using q), decide_eq_false (bad_of hm q)]
theorem channels_eq {l : List Int} (hl : l.length ≤ 1000) {k : Nat} (hk : 2100 ≤ k) : hop_channels.f k l = some (decide (okCh l)) := by
  unfold hop_channels.f
  exact channels_from l hl l.length 0 k (by omega) (by omega) (by simp) (by simp)
theorem has_from (l : List Int) (a : Int) (hl : l.length ≤ 1000) : ∀ n i k, i + n = l.length → n + 1 ≤ k → (∀ j (h : j < l.length), j < i → l[j] ≠ a) → hopmeshref11_Has.l0 k l a (i : Int) = some (decide (a ∈ l))
  | 0, i, k, h, hk, hn => by
    obtain ⟨k, rfl⟩ : ∃ j, k = j + 1 := ⟨k - 1, by omega⟩
    rw [hopmeshref11_Has.l0, if_neg (by omega), decide_eq_false]
    intro hm
    obtain ⟨j, hj, e⟩ := List.getElem_of_mem hm
    exact hn j hj (by omega) e
  | n + 1, i, k, h, hk, hn => by
    obtain ⟨k, rfl⟩ : ∃ j, k = j + 1 := ⟨k - 1, by omega⟩
    have hi : i < l.length := by omega
    rw [hopmeshref11_Has.l0, if_pos (by omega), if_pos (by omega), rdi hi]
    by_cases q : l[i] = a
    · rw [if_pos q, decide_eq_true (q ▸ List.getElem_mem hi)]
    · rw [if_neg q, wsucc (by omega)]
      exact has_from l a hl n (i + 1) k (by omega) (by omega) (fun j hj hlt => by
        rcases Nat.lt_or_ge j i with h' | h'
        · exact hn j hj h'
        · obtain rfl : j = i := by omega
          exact q)
theorem has_eq {l : List Int} (a : Int) (hl : l.length ≤ 1000) {k : Nat} (hk : 1001 ≤ k) : hopmeshref11_Has.f k l a = some (decide (a ∈ l)) := by
  unfold hopmeshref11_Has.f
  exact has_from l a hl l.length 0 k (by omega) (by omega) (fun j hj h => absurd h (Nat.not_lt_zero _))
theorem different_from (l : List Int) (hl : l.length ≤ 1000) : ∀ n i k, i + n = l.length → n + 1002 ≤ k → (∀ c ∈ l.take i, 0 ≤ c ∧ c < 16) → (l.take i).Nodup → hopmeshref11_different.l0 k l (i : Int) = some (decide (okCh l))
  | 0, i, k, h, hk, h1, h2 => by
    obtain ⟨k, rfl⟩ : ∃ j, k = j + 1 := ⟨k - 1, by omega⟩
    rw [hopmeshref11_different.l0, if_neg (by omega)]
    rw [List.take_of_length_le (by omega)] at h1 h2
    congr 1
    rw [decide_eq_decide]
    constructor
    · intro h; exact ⟨fun e => by rw [e] at h; simp at h, h1, h2⟩
    · intro h; have := List.length_pos_iff.2 h.1; omega
  | n + 1, i, k, h, hk, h1, h2 => by
    obtain ⟨k, rfl⟩ : ∃ j, k = j + 1 := ⟨k - 1, by omega⟩
    have hi : i < l.length := by omega
    have hm : l[i] ∈ l := List.getElem_mem hi
    rw [hopmeshref11_different.l0, if_pos (by omega), if_pos (by omega), rdi hi, rchannel_eq, Option.bind_some]
    by_cases q : 0 ≤ l[i] ∧ l[i] < 16
    · rw [if_pos (decide_eq_true q), if_pos (by omega), Int.toNat_natCast, has_eq _ (by rw [List.length_take]; omega) (by omega), Option.bind_some]
      by_cases q2 : l[i] ∈ l.take i
      · rw [if_pos (decide_eq_true q2), decide_eq_false (twice_of hi q2)]
      · rw [if_neg (by simpa using q2), wsucc (by omega)]
        refine different_from l hl n (i + 1) k (by omega) (by omega) ?_ ?_
        · intro c hc
          rw [take_succ_ hi] at hc
          rcases List.mem_append.1 hc with hc | hc
          · exact h1 c hc
          · rw [List.mem_singleton.1 hc]; exact q
        · rw [take_succ_ hi]; exact nodup_snoc.2 ⟨h2, q2⟩
    · rw [if_neg (by simpa using q), decide_eq_false (bad_of hm q)]
theorem different_eq {l : List Int} (hl : l.length ≤ 1000) {k : Nat} (hk : 2100 ≤ k) : hopmeshref11_different.f k l = some (decide (okCh l)) := by
  unfold hopmeshref11_different.f
  exact different_from l hl l.length 0 k (by omega) (by omega) (by simp) (by simp)
/-- A valid list. -/
def okL (v f u : Int) (l : List Int) : Prop := 0 ≤ v ∧ v < 256 ∧ 0 ≤ f ∧ f < u ∧ u ≤ 109951163 ∧ okCh l
instance (v f u : Int) (l : List Int) : Decidable (okL v f u l) := by unfold okL; infer_instance
theorem Check_eq (v f u : Int) {l : List Int} (hl : l.length ≤ 1000) {k : Nat} (hk : 2100 ≤ k) : hop_Check.f k v f u l = some (if okL v f u l then 0 else 1) := by
  obtain ⟨k, rfl⟩ : ∃ j, k = j + 1 := ⟨k - 1, by omega⟩
  unfold hop_Check.f
  simp only [hop_Check.j0, channels_eq hl hk, Option.bind_some]
  by_cases h1 : v < 0
  · rw [if_pos h1, if_pos trivial, if_neg (fun h => by have := h.1; omega)]
  rw [if_neg h1]
  by_cases h2 : v ≥ 256
  · rw [if_pos h2, if_pos trivial, if_neg (fun h => by have := h.2.1; omega)]
  rw [if_neg h2]
  by_cases h3 : f < 0
  · rw [if_pos h3, if_pos trivial, if_neg (fun h => by have := h.2.2.1; omega)]
  rw [if_neg h3]
  by_cases h4 : f ≥ u
  · rw [if_pos h4, if_pos trivial, if_neg (fun h => by have := h.2.2.2.1; omega)]
  rw [if_neg h4]
  by_cases h5 : u > 109951163
  · rw [if_pos h5, if_pos trivial, if_neg (fun h => by have := h.2.2.2.2.1; omega)]
  rw [if_neg h5]
  by_cases h6 : okCh l
  · rw [if_neg (by simp [h6]), if_pos ⟨by omega, by omega, by omega, by omega, by omega, h6⟩]
  · rw [if_pos (by simp [h6]), if_neg (fun h => h6 h.2.2.2.2.2)]
theorem rCheck_eq (v f u : Int) {l : List Int} (hl : l.length ≤ 1000) {k : Nat} (hk : 2100 ≤ k) : hopmeshref11_Check.f k v f u l = some (if okL v f u l then 0 else 1) := by
  obtain ⟨k, rfl⟩ : ∃ j, k = j + 1 := ⟨k - 1, by omega⟩
  unfold hopmeshref11_Check.f
  simp only [hopmeshref11_Check.j0, different_eq hl hk, Option.bind_some]
  by_cases h1 : v < 0
  · rw [if_pos h1, if_pos trivial, if_neg (fun h => by have := h.1; omega)]
  rw [if_neg h1]
  by_cases h2 : v > 255
  · rw [if_pos h2, if_pos trivial, if_neg (fun h => by have := h.2.1; omega)]
  rw [if_neg h2]
  by_cases h3 : f < 0
  · rw [if_pos h3, if_pos trivial, if_neg (fun h => by have := h.2.2.1; omega)]
  rw [if_neg h3]
  by_cases h4 : f ≥ u
  · rw [if_pos h4, if_pos trivial, if_neg (fun h => by have := h.2.2.2.1; omega)]
  rw [if_neg h4]
  by_cases h5 : u > 109951163
  · rw [if_pos h5, if_pos trivial, if_neg (fun h => by have := h.2.2.2.2.1; omega)]
  rw [if_neg h5]
  by_cases h6 : okCh l
  · rw [if_neg (by simp [h6]), if_pos ⟨by omega, by omega, by omega, by omega, by omega, h6⟩]
  · rw [if_pos (by simp [h6]), if_neg (fun h => h6 h.2.2.2.2.2)]
/-- The channel of an offset in a slot. -/
def chanL (v f u : Int) (l : List Int) (s o : Int) : Int × Int := if okL v f u l then (if s < f ∨ s ≥ u then (0, 12) else (if o < 0 ∨ o ≥ (l.length : Int) then (0, 2) else (rd l ((s + o) % (l.length : Int)), 0))) else (0, 1)
theorem Channel_eq (v f u : Int) {l : List Int} (s o : Int) (hl : l.length ≤ 1000) {k : Nat} (hk : 2100 ≤ k) : hop_Channel.f k v f u l s o = some (chanL v f u l s o) := by
  unfold hop_Channel.f chanL
  rw [if_pos hl, Check_eq v f u hl hk, Option.bind_some]
  by_cases h : okL v f u l
  · rw [if_pos h, if_pos rfl, if_pos h]
    have h0 := h.2.2.1
    by_cases h1 : s < f
    · rw [if_pos h1, if_pos (.inl h1)]
    rw [if_neg h1]
    by_cases h2 : s ≥ u
    · rw [if_pos h2, if_pos (.inr h2)]
    rw [if_neg h2, if_neg (show ¬ (s < f ∨ s ≥ u) by omega)]
    by_cases h3 : o < 0
    · rw [if_pos h3, if_pos (.inl h3)]
    rw [if_neg h3]
    by_cases h4 : o ≥ (l.length : Int)
    · rw [if_pos h4, if_pos (.inr h4)]
    rw [if_neg h4, if_neg (show ¬ (o < 0 ∨ o ≥ (l.length : Int)) by omega), if_pos (show 0 ≤ s by omega)]
    unfold elt
    rw [Int.toNat_of_nonneg (by omega), Int.emod_add_emod]
  · rw [if_neg h, if_neg (by omega), if_neg h]
theorem rChannel_eq (v f u : Int) {l : List Int} (s o : Int) (hl : l.length ≤ 1000) {k : Nat} (hk : 2100 ≤ k) : hopmeshref11_Channel.f k v f u l s o = some (chanL v f u l s o) := by
  have hkk := hk
  obtain ⟨k, rfl⟩ : ∃ j, k = j + 1 := ⟨k - 1, by omega⟩
  unfold hopmeshref11_Channel.f chanL
  simp only [hopmeshref11_Channel.j0, rCheck_eq v f u hl hkk, Option.bind_some]
  by_cases h : okL v f u l
  · rw [if_pos h, if_pos rfl, if_pos h]
    have h0 := h.2.2.1
    have h9 := h.2.2.2.2.1
    have hp := List.length_pos_iff.2 h.2.2.2.2.2.1
    by_cases h1 : s < f
    · rw [if_pos h1, if_pos trivial, if_pos (.inl h1)]
    rw [if_neg h1]
    by_cases h2 : s ≥ u
    · rw [if_pos (decide_eq_true h2), if_pos (.inr h2)]
    rw [if_neg (by simpa using h2), if_neg (show ¬ (s < f ∨ s ≥ u) by omega)]
    by_cases h3 : o < 0
    · rw [if_pos h3, if_pos (.inl h3)]
    rw [if_neg h3]
    by_cases h4 : o ≥ (l.length : Int)
    · rw [if_pos h4, if_pos (.inr h4)]
    rw [if_neg h4, if_neg (show ¬ (l.length : Int) = 0 by omega), if_neg (show ¬ (o < 0 ∨ o ≥ (l.length : Int)) by omega), w64 (by omega) (by omega), Int.tmod_eq_emod_of_nonneg (by omega), if_pos (Int.emod_nonneg _ (by omega)), if_pos (Int.emod_lt_of_pos _ (by omega))]
  · rw [if_neg h, if_neg (by omega), if_neg h]
/-- Different places have different channels. -/
theorem rd_inj {l : List Int} (hn : l.Nodup) {a b : Int} (ha0 : 0 ≤ a) (ha1 : a < l.length) (hb0 : 0 ≤ b) (hb1 : b < l.length) (h : rd l a = rd l b) : a = b := by
  obtain ⟨i, rfl⟩ : ∃ i : Nat, a = i := ⟨a.toNat, by omega⟩
  obtain ⟨j, rfl⟩ : ∃ j : Nat, b = j := ⟨b.toNat, by omega⟩
  rw [rdi (by omega), rdi (by omega)] at h
  have hp := List.pairwise_iff_getElem.1 hn
  rcases Nat.lt_trichotomy i j with q | q | q
  · exact absurd h (hp i j (by omega) (by omega) q)
  · omega
  · exact absurd h.symm (hp j i (by omega) (by omega) q)
theorem mod_inj {n s a b : Int} (hn : 0 < n) (ha0 : 0 ≤ a) (ha : a < n) (hb0 : 0 ≤ b) (hb : b < n) (h : (s + a) % n = (s + b) % n) : a = b := by
  have h1 : (s + a - (s + b)) % n = 0 := Int.emod_eq_emod_iff_emod_sub_eq_zero.1 h
  have h2 : n ∣ (a - b) := by
    have := Int.dvd_of_emod_eq_zero h1
    rwa [show s + a - (s + b) = a - b by omega] at this
  obtain ⟨c, hc⟩ := h2
  rcases Int.lt_trichotomy c 0 with h3 | h3 | h3
  · have : n * c ≤ n * (-1) := Int.mul_le_mul_of_nonneg_left (by omega) (by omega)
    omega
  · subst h3; omega
  · have : n * 1 ≤ n * c := Int.mul_le_mul_of_nonneg_left (by omega) (by omega)
    omega
theorem chan_inj {l : List Int} (hn : l.Nodup) {s a b : Int} (ha0 : 0 ≤ a) (ha : a < l.length) (hb0 : 0 ≤ b) (hb : b < l.length) (h : rd l ((s + a) % (l.length : Int)) = rd l ((s + b) % (l.length : Int))) : a = b :=
  mod_inj (n := (l.length : Int)) (by omega) ha0 ha hb0 hb (rd_inj hn (Int.emod_nonneg _ (by omega)) (Int.emod_lt_of_pos _ (by omega)) (Int.emod_nonneg _ (by omega)) (Int.emod_lt_of_pos _ (by omega)) h)
theorem rd_mem {l : List Int} {a : Int} (h0 : 0 ≤ a) (h1 : a < l.length) : rd l a ∈ l := by
  obtain ⟨i, rfl⟩ : ∃ i : Nat, a = i := ⟨a.toNat, by omega⟩
  rw [rdi (by omega)]
  exact List.getElem_mem _
theorem wf64 {n : Int} (h : (Lit.int .i64 n).wf = true) : -9223372036854775808 ≤ n ∧ n ≤ 9223372036854775807 := by
  have h1 : IntKind.i64.min = -9223372036854775808 := rfl
  have h2 : IntKind.i64.max = 9223372036854775807 := rfl
  simp [Lit.wf] at h
  omega
end Go.Proofs.Ytddcacomphkeiaa.Hop
