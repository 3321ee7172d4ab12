/- Pure part of PesUnwraps: what the printed Go functions compute answers true, for every input. No conditions. -/
import Derived.Test.YtdkibpdgnocgaaaPPesUnwrapsx2
set_option linter.unusedVariables false
set_option linter.unusedSimpArgs false
namespace Go.Proofs.Ytdkibpdgnocgaaa.Pure
open Go.RowKit Go.Proofs.Ytdkibpdgnocgaaa.PPesUnwraps Go.Proofs.YtdkibpdgnocgaaaW.PrintWords Go.Proofs.YtdkibpdgnocgaaaW.PrintLast

/-- The bounds of an int64. -/
theorem b64 {n : Int} (h : (Lit.int .i64 n).wf = true) : -9223372036854775808 ≤ n ∧ n ≤ 9223372036854775807 := by
  simpa [Lit.wf, IntKind.min, IntKind.max, IntKind.signed, IntKind.bits] using h
theorem w64 (n : Int) (h1 : -9223372036854775808 ≤ n) (h2 : n ≤ 9223372036854775807) : wrap64 n = n := by unfold wrap64; omega
theorem tdv (a b : Int) (h : 0 ≤ a) : Int.tdiv a b = a / b := Int.tdiv_eq_ediv_of_nonneg h
theorem tmd (a b : Int) (h : 0 ≤ a) : Int.tmod a b = a % b := Int.tmod_eq_emod_of_nonneg h
theorem ev_of {α : Type} {o : Option α} {r : α} (h : o = some r) : Ev (fun _ => o) r := ⟨0, fun _ _ => h⟩
theorem tmod_bd (n m : Int) (h0 : 0 < m) : -m < Int.tmod n m ∧ Int.tmod n m < m ∧ (Int.tmod n m = n % m ∨ Int.tmod n m = n % m - m) := by
  have a1 : Int.tmod n m < m := Int.tmod_lt_of_pos n h0
  have a2 : -m < Int.tmod n m := by
    have := Int.tmod_lt_of_pos (-n) h0
    rw [Int.neg_tmod] at this; omega
  refine ⟨a2, a1, ?_⟩
  have h3 := Int.tmod_add_mul_tdiv n m
  have h4 : n % m = (Int.tmod n m) % m := by
    conv => lhs; rw [← h3]
    rw [Int.add_mul_emod_self_left]
  by_cases hz : 0 ≤ Int.tmod n m
  · left; rw [h4, Int.emod_eq_of_lt hz a1]
  · right
    rw [h4, ← Int.add_emod_right, Int.emod_eq_of_lt (by omega) (by omega)]; omega

theorem awake_ev : Ev (fun k => cutroomlaw16_awake.f k) true := by
  refine Ev.of cutroomlaw16_awake.mono (k := 60) ?_
  decide +kernel

/-- The time near another one that has a timestamp. -/
def unwrapV (a b : Int) : Int := if a < -4611686018427387904 ∨ a > 4611686018427387904 ∨ b < 0 ∨ b ≥ 8589934592 then 0 else a + 4294967296 - (a + 4294967296 - b) % 8589934592

theorem within_eq (n : Int) (hn : -9223372036854775808 ≤ n ∧ n ≤ 9223372036854775807) : pes_within.f n = some (n % 8589934592) := by
  unfold pes_within.f
  obtain ⟨h1, h2, h3⟩ := tmod_bd n 8589934592 (by omega)
  rw [w64 _ (by omega) (by omega), tmd _ _ (by omega)]
  congr 1
  rcases h3 with h3 | h3 <;> (rw [h3]; omega)

theorem unwrap_ev (a b : Int) : Ev (fun k => pes_Unwrap.f k a b) (unwrapV a b) := by
  have hj : ∀ c : Bool, (c = decide (a < -4611686018427387904 ∨ a > 4611686018427387904 ∨ b < 0 ∨ b ≥ 8589934592)) → Ev (fun k => pes_Unwrap.j0 k a b c) (unwrapV a b) := by
    intro c hc
    refine Ev.step (f := fun k => _) (fun k => by rw [pes_Unwrap.j0]) ?_
    by_cases h : a < -4611686018427387904 ∨ a > 4611686018427387904 ∨ b < 0 ∨ b ≥ 8589934592
    · rw [decide_eq_true h] at hc; subst hc
      simp only [if_true, unwrapV, if_pos h]; exact Ev.now _
    · rw [decide_eq_false h] at hc; subst hc
      simp only [Bool.false_eq_true, if_false, unwrapV, if_neg h]
      rw [w64 (b - a) (by omega) (by omega), within_eq _ (by omega)]
      simp only [Option.bind_some]
      by_cases hd : (b - a) % 8589934592 > 4294967296
      · simp only [if_pos hd]
        rw [w64 ((b - a) % 8589934592 - 8589934592) (by omega) (by omega), w64 _ (by omega) (by omega)]
        refine ev_of ?_
        congr 1; omega
      · simp only [if_neg hd]
        rw [w64 _ (by omega) (by omega)]
        refine ev_of ?_
        congr 1; omega
  unfold pes_Unwrap.f
  by_cases c1 : a < -4611686018427387904
  · simp only [if_pos c1]; exact hj true (decide_eq_true (.inl c1)).symm
  by_cases c2 : a > 4611686018427387904
  · simp only [if_neg c1, if_pos c2]; exact hj true (decide_eq_true (.inr (.inl c2))).symm
  by_cases c3 : b < 0
  · simp only [if_neg c1, if_neg c2, if_pos c3]; exact hj true (decide_eq_true (.inr (.inr (.inl c3)))).symm
  simp only [if_neg c1, if_neg c2, if_neg c3]
  refine hj _ ?_
  rw [decide_eq_decide]; omega

theorem runwrap_ev (a b : Int) : Ev (fun k => cutroomref16_Unwrap.f k a b) (unwrapV a b) := by
  have hj : ∀ c : Bool, (c = decide (a < -4611686018427387904 ∨ a > 4611686018427387904 ∨ b < 0 ∨ b ≥ 8589934592)) → Ev (fun k => cutroomref16_Unwrap.j0 k a b c) (unwrapV a b) := by
    intro c hc
    refine Ev.step (f := fun k => _) (fun k => by rw [cutroomref16_Unwrap.j0]) ?_
    by_cases h : a < -4611686018427387904 ∨ a > 4611686018427387904 ∨ b < 0 ∨ b ≥ 8589934592
    · rw [decide_eq_true h] at hc; subst hc
      simp only [if_true, unwrapV, if_pos h]; exact Ev.now _
    · rw [decide_eq_false h] at hc; subst hc
      simp only [Bool.false_eq_true, if_false, unwrapV, if_neg h]
      rw [w64 (a + 4294967296) (by omega) (by omega), w64 (a + 4294967296 - b) (by omega) (by omega)]
      obtain ⟨h1, h2, h3⟩ := tmod_bd (a + 4294967296 - b) 8589934592 (by omega)
      have g0 := Int.emod_nonneg (a + 4294967296 - b) (show (8589934592 : Int) ≠ 0 by omega)
      have g1 := Int.emod_lt_of_pos (a + 4294967296 - b) (show (0 : Int) < 8589934592 by omega)
      by_cases hd : Int.tmod (a + 4294967296 - b) 8589934592 < 0
      · simp only [if_pos hd]
        rw [w64 (Int.tmod (a + 4294967296 - b) 8589934592 + 8589934592) (by omega) (by omega), w64 _ (by omega) (by omega)]
        refine ev_of ?_
        congr 1; omega
      · simp only [if_neg hd]
        rw [w64 _ (by omega) (by omega)]
        refine ev_of ?_
        congr 1; omega
  unfold cutroomref16_Unwrap.f
  by_cases c1 : a < -4611686018427387904
  · simp only [if_pos c1]; exact hj true (decide_eq_true (.inl c1)).symm
  by_cases c2 : a > 4611686018427387904
  · simp only [if_neg c1, if_pos c2]; exact hj true (decide_eq_true (.inr (.inl c2))).symm
  by_cases c3 : b < 0
  · simp only [if_neg c1, if_neg c2, if_pos c3]; exact hj true (decide_eq_true (.inr (.inr (.inl c3)))).symm
  simp only [if_neg c1, if_neg c2, if_neg c3]
  refine hj _ ?_
  rw [decide_eq_decide]; omega

theorem PesUnwraps : cutroomlaw16_PesUnwraps.Pure := by
  intro a b ha hb
  refine Ev.rounds ?_
  unfold cutroomlaw16_PesUnwraps.f
  refine Ev.bind awake_ev ?_
  simp only [if_true]
  refine Ev.bind (unwrap_ev a b) (Ev.bind (runwrap_ev a b) ?_)
  simp only [beq_self_eq_true]
  exact Ev.now _

end Go.Proofs.Ytdkibpdgnocgaaa.Pure
