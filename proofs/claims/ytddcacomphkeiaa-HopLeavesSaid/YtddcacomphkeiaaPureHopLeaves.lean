/- The plain law of HopLeaves: what the printed functions compute answers true. By this session. -/
import Derived.Test.YtddcacomphkeiaaPAx11
import Derived.Test.YtddcacomphkeiaaPAx13
import Derived.Test.YtddcacomphkeiaaPAx14
import Derived.Test.YtddcacomphkeiaaPAx15
import Derived.Test.YtddcacomphkeiaaPAx28
import Derived.Test.YtddcacomphkeiaaPAx5
import Derived.Test.YtddcacomphkeiaaPAx6
import Derived.Test.YtddcacomphkeiaaHopB
set_option linter.unusedVariables false
set_option linter.unusedSimpArgs false
namespace Go.Proofs.Ytddcacomphkeiaa.Pure
open Go.RowKit Go.Proofs.YtddcacomphkeiaaW.PrintWords Go.Proofs.YtddcacomphkeiaaW.PrintLast Go.Proofs.YtddcacomphkeiaaW.PrintMore Go.Proofs.Ytddcacomphkeiaa.PA Go.Proofs.Ytddcacomphkeiaa.Hop
theorem Clone_eq {l : List Int} (h : l.length ≤ 1000) : slices_Clone_int_int.f l = some l := by
  unfold slices_Clone_int_int.f
  rw [if_pos (by omega)]
theorem equal_from (l : List Int) (hl : l.length ≤ 1000) : ∀ n i k, i + n = l.length → n + 1 ≤ k → slices_Equal_int_int.l0 k l l (l.length : Int) (i : Int) = some true
  | 0, i, k, h, hk => by
    obtain ⟨k, rfl⟩ : ∃ j, k = j + 1 := ⟨k - 1, by omega⟩
    rw [slices_Equal_int_int.l0, if_neg (by omega)]
  | n + 1, i, k, h, hk => by
    obtain ⟨k, rfl⟩ : ∃ j, k = j + 1 := ⟨k - 1, by omega⟩
    rw [slices_Equal_int_int.l0, if_pos (by omega), if_pos (by omega), if_pos (by omega), if_pos (by omega), if_pos rfl, wsucc (by omega)]
    exact equal_from l hl n (i + 1) k (by omega) (by omega)
theorem Equal_eq {l : List Int} (hl : l.length ≤ 1000) {k : Nat} (hk : 1001 ≤ k) : slices_Equal_int_int.f k l l = some true := by
  unfold slices_Equal_int_int.f
  rw [if_pos rfl]
  exact equal_from l hl l.length 0 k (by omega) (by omega)
theorem same_from (a b c : Int) (l : List Int) (hl : l.length ≤ 1000) : ∀ n i k, i + n = l.length → n + 1 ≤ k → hopmeshref11_Same.l0 k (i : Int) a b c l a b c l = some true
  | 0, i, k, h, hk => by
    obtain ⟨k, rfl⟩ : ∃ j, k = j + 1 := ⟨k - 1, by omega⟩
    rw [hopmeshref11_Same.l0, if_neg (by omega)]
  | n + 1, i, k, h, hk => by
    obtain ⟨k, rfl⟩ : ∃ j, k = j + 1 := ⟨k - 1, by omega⟩
    rw [hopmeshref11_Same.l0, if_pos (by omega), if_pos (by omega), if_pos (by omega), if_pos rfl, wsucc (by omega)]
    exact same_from a b c l hl n (i + 1) k (by omega) (by omega)
theorem Same_eq (a b c : Int) {l : List Int} (hl : l.length ≤ 1000) {k : Nat} (hk : 1002 ≤ k) : hopmeshref11_Same.f k a b c l a b c l = some true := by
  obtain ⟨k, rfl⟩ : ∃ j, k = j + 1 := ⟨k - 1, by omega⟩
  unfold hopmeshref11_Same.f
  rw [if_pos rfl, if_pos rfl, if_pos rfl, hopmeshref11_Same.j0, if_neg (by simp)]
  exact same_from a b c l hl l.length 0 k (by omega) (by omega)
/-- The list that follows another one. -/
def nextL (v f u : Int) (l : List Int) (un : Int) (cs : List Int) : Int × Int × Int × List Int × Int :=
  if okL v f u l ∧ okL (Int.tmod (wrap64 (v + 1)) 256) u un cs then (Int.tmod (wrap64 (v + 1)) 256, u, un, cs, 0) else (0, 0, 0, [], 1)
theorem Next_eq (v f u : Int) {l : List Int} (un : Int) {cs : List Int} (hl : l.length ≤ 1000) (hc : cs.length ≤ 1000) {k : Nat} (hk : 2100 ≤ k) : hop_Next.f k v f u l un cs = some (nextL v f u l un cs) := by
  unfold hop_Next.f nextL
  rw [Clone_eq hc, Option.bind_some, Check_eq _ _ _ hl hk, Option.bind_some, Check_eq _ _ _ hc hk, Option.bind_some]
  by_cases h1 : okL v f u l
  · rw [if_pos h1, if_pos rfl]
    by_cases h2 : okL (Int.tmod (wrap64 (v + 1)) 256) u un cs
    · rw [if_pos h2, if_pos rfl, if_pos ⟨h1, h2⟩]
    · rw [if_neg h2, if_neg (by omega), if_neg (fun h => h2 h.2)]
  · rw [if_neg h1, if_neg (by omega), if_neg (fun h => h1 h.1)]
theorem rNext_eq (v f u : Int) {l : List Int} (un : Int) {cs : List Int} (hl : l.length ≤ 1000) (hc : cs.length ≤ 1000) {k : Nat} (hk : 2100 ≤ k) : hopmeshref11_Next.f k v f u l un cs = some (nextL v f u l un cs) := by
  unfold hopmeshref11_Next.f nextL
  rw [rCheck_eq _ _ _ hl hk]
  simp only [Option.bind_some, List.nil_append, List.length_nil, Nat.zero_add]
  by_cases h1 : okL v f u l
  · rw [if_pos h1, if_pos rfl, if_pos (by omega), rCheck_eq _ _ _ hc hk, Option.bind_some]
    by_cases h2 : okL (Int.tmod (wrap64 (v + 1)) 256) u un cs
    · rw [if_pos h2, if_pos rfl, if_pos ⟨h1, h2⟩]
    · rw [if_neg h2, if_neg (by omega), if_neg (fun h => h2 h.2)]
  · rw [if_neg h1, if_neg (by omega), if_neg (fun h => h1 h.1)]
theorem without_len (ch black : List Int) (least : Int) : (withoutL ch black least).1.length ≤ ch.length := by
  unfold withoutL
  split
  · split
    · exact List.length_filter_le _ _
    · simp
  · simp
theorem next_len (v f u : Int) (l : List Int) (un : Int) (cs : List Int) : (nextL v f u l un cs).2.2.2.1.length ≤ cs.length := by
  unfold nextL
  split <;> simp
theorem HopLeaves (y0_0 : Int) (y0_1 : Int) (y0_2 : Int) (y0_3 : (List Int)) (y1_0 : (List Int)) (y1_1 : (List Int)) (y1_2 : Int) (a2 : Int) (w0_0 : (Lit.int .i64 y0_0).wf = true) (w0_1 : (Lit.int .i64 y0_1).wf = true) (w0_2 : (Lit.int .i64 y0_2).wf = true) (w0_3 : (∀ y ∈ y0_3, (Lit.int .i64 y).wf = true)) (w1_0 : (∀ y ∈ y1_0, (Lit.int .i64 y).wf = true)) (w1_1 : (∀ y ∈ y1_1, (Lit.int .i64 y).wf = true)) (w1_2 : (Lit.int .i64 y1_2).wf = true) (w2 : (Lit.int .i64 a2).wf = true) : ∃ k, hopmeshlaw11_HopLeaves.f k y0_0 y0_1 y0_2 y0_3 y1_0 y1_1 y1_2 a2 = some true := by
  refine ⟨10001, ?_⟩
  unfold hopmeshlaw11_HopLeaves.f hopmeshlaw11_awake.f
  rw [Option.bind_some, if_pos rfl]
  by_cases h1 : (y0_3.length : Int) > 20
  · rw [if_pos h1, show (10001 : Nat) = 10000 + 1 from rfl, hopmeshlaw11_HopLeaves.j0, if_pos rfl]
  rw [if_neg h1]
  by_cases h2 : (y1_0.length : Int) > 20
  · rw [if_pos h2, show (10001 : Nat) = 10000 + 1 from rfl, hopmeshlaw11_HopLeaves.j0, if_pos rfl]
  rw [if_neg h2]
  by_cases h3 : (y1_1.length : Int) > 70
  · rw [decide_eq_true h3, show (10001 : Nat) = 10000 + 1 from rfl, hopmeshlaw11_HopLeaves.j0, if_pos rfl]
  rw [decide_eq_false h3, show (10001 : Nat) = 10000 + 1 from rfl, hopmeshlaw11_HopLeaves.j0, if_neg (by simp)]
  have hw := without_len y1_0 y1_1 y1_2
  have hn := next_len y0_0 y0_1 y0_2 y0_3 a2 y1_0
  rw [Clone_eq (show y1_0.length ≤ 1000 by omega), Option.bind_some, Clone_eq (show y1_1.length ≤ 1000 by omega), Option.bind_some, Without_eq y1_2 (by omega) (by omega), Option.bind_some, rWithout_eq y1_2 (by omega) (by omega) (by omega), Option.bind_some, Option.bind_some,
    Next_eq _ _ _ _ (by omega) (by omega) (by omega), Option.bind_some, rNext_eq _ _ _ _ (by omega) (by omega) (by omega), Option.bind_some, if_pos rfl, Equal_eq (by omega) (by omega), Option.bind_some, if_pos rfl, if_pos rfl, Same_eq _ _ _ (by omega) (by omega)]
  rfl
end Go.Proofs.Ytddcacomphkeiaa.Pure
