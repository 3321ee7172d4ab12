/- Pure part of TimecodeTenMinutes: what the printed Go functions compute answers true, for every input. No conditions. -/
import Derived.Test.YtfdhjnfpppafaaaPTimecodeTenMinutesx5
set_option linter.unusedVariables false
set_option linter.unusedSimpArgs false
namespace Go.Proofs.Ytfdhjnfpppafaaa.Pure
open Go.RowKit Go.Proofs.Ytfdhjnfpppafaaa.PTimecodeTenMinutes Go.Proofs.YtfdhjnfpppafaaaW.PrintWords Go.Proofs.YtfdhjnfpppafaaaW.PrintLast

/-- The bounds of an int64. -/
theorem b64 {n : Int} (h : (Lit.int .i64 n).wf = true) : -9223372036854775808 ≤ n ∧ n ≤ 9223372036854775807 := by
  simpa [Lit.wf, IntKind.min, IntKind.max, IntKind.signed, IntKind.bits] using h
theorem w64 (n : Int) (h1 : -9223372036854775808 ≤ n) (h2 : n ≤ 9223372036854775807) : wrap64 n = n := by unfold wrap64; omega
theorem tdv (a b : Int) (h : 0 ≤ a) : Int.tdiv a b = a / b := Int.tdiv_eq_ediv_of_nonneg h
theorem tmd (a b : Int) (h : 0 ≤ a) : Int.tmod a b = a % b := Int.tmod_eq_emod_of_nonneg h

/-- The known bases. -/
def Kn (b : Int) : Bool := b == 24 || b == 25 || b == 30 || b == 48 || b == 50 || b == 60
/-- A base and a choice of dropping that go together. -/
def Okb (b : Int) (d : Bool) : Bool := Kn b && (!d || b == 30 || b == 60)
/-- The labels that a minute lacks. -/
def gapV (b : Int) (d : Bool) : Int := if d then b / 15 else 0
/-- The labels of ten minutes, and of a day. -/
def tenV (b : Int) (d : Bool) : Int := 600 * b - 9 * gapV b d
def dayV (b : Int) (d : Bool) : Int := 144 * tenV b d

theorem okb_cases {b : Int} {d : Bool} (h : Okb b d = true) :
    (b = 24 ∧ d = false) ∨ (b = 25 ∧ d = false) ∨ (b = 30 ∧ d = false) ∨ (b = 48 ∧ d = false) ∨ (b = 50 ∧ d = false) ∨ (b = 60 ∧ d = false) ∨ (b = 30 ∧ d = true) ∨ (b = 60 ∧ d = true) := by
  cases d <;> simp [Okb, Kn] at h ⊢ <;> omega

theorem isBase_ev (b : Int) : Ev (fun k => timecode_isBase.f k b) (Kn b) := by
  refine Ev.of (timecode_isBase.mono b) (k := 7) ?_
  simp only [timecode_isBase.f, timecode_bases.f, timecode_isBase.l0, Option.bind_some]
  simp [rd, wrap64, Kn]
  by_cases h1 : b = 24
  · simp [h1]
  by_cases h2 : b = 25
  · simp [h2]
  by_cases h3 : b = 30
  · simp [h3]
  by_cases h4 : b = 48
  · simp [h4]
  by_cases h5 : b = 50
  · simp [h5]
  by_cases h6 : b = 60
  · simp [h6]
  simp [h1, h2, h3, h4, h5, h6, Ne.symm h1, Ne.symm h2, Ne.symm h3, Ne.symm h4, Ne.symm h5, Ne.symm h6]

theorem dropped_eq (b : Int) (d : Bool) (h : Okb b d = true) : timecode_dropped.f b d = some (gapV b d) := by
  rcases okb_cases h with ⟨rfl, rfl⟩ | ⟨rfl, rfl⟩ | ⟨rfl, rfl⟩ | ⟨rfl, rfl⟩ | ⟨rfl, rfl⟩ | ⟨rfl, rfl⟩ | ⟨rfl, rfl⟩ | ⟨rfl, rfl⟩ <;> decide +kernel

theorem tenMinutes_eq (b : Int) (d : Bool) (h : Okb b d = true) : timecode_tenMinutes.f b d = some (tenV b d) := by
  rcases okb_cases h with ⟨rfl, rfl⟩ | ⟨rfl, rfl⟩ | ⟨rfl, rfl⟩ | ⟨rfl, rfl⟩ | ⟨rfl, rfl⟩ | ⟨rfl, rfl⟩ | ⟨rfl, rfl⟩ | ⟨rfl, rfl⟩ <;> decide +kernel

theorem canDrop_eq (b : Int) : timecode_CanDrop.f b = some (b == 30 || b == 60) := by
  simp only [timecode_CanDrop.f]
  split
  all_goals simp_all

theorem day_ev (b : Int) (d : Bool) : Ev (fun k => timecode_Day.f k b d) (if Okb b d then (dayV b d, 0) else (0, 1)) := by
  unfold timecode_Day.f
  refine Ev.bind (isBase_ev b) ?_
  by_cases hk : Kn b = true
  · by_cases ho : Okb b d = true
    · rw [if_pos hk, if_pos ho, tenMinutes_eq b d ho, canDrop_eq]
      have hw : wrap64 (144 * tenV b d) = dayV b d := by
        rcases okb_cases ho with ⟨rfl, rfl⟩ | ⟨rfl, rfl⟩ | ⟨rfl, rfl⟩ | ⟨rfl, rfl⟩ | ⟨rfl, rfl⟩ | ⟨rfl, rfl⟩ | ⟨rfl, rfl⟩ | ⟨rfl, rfl⟩ <;> decide +kernel
      simp only [Option.bind_some, hw]
      cases d
      · exact Ev.now _
      · have : (b == 30 || b == 60) = true := by simpa [Okb, hk] using ho
        rw [this]
        exact Ev.now _
    · rw [if_pos hk, if_neg ho, canDrop_eq]
      cases d
      · exact absurd (by simp [Okb, hk]) ho
      · have : (b == 30 || b == 60) = false := by
          rw [Bool.eq_false_iff]; intro h; exact ho (by simpa [Okb, hk] using h)
        simp only [Option.bind_some, this]
        exact Ev.now _
  · rw [if_neg hk, if_neg (by simp [Okb, hk])]
    exact Ev.now _

/-- Frame number n of the day: its minute, and what is left in the minute, the gap counted. -/
def minV (N b : Int) (d : Bool) : Int := 10 * (N / tenV b d) + (if N % tenV b d ≥ 60 * b then 1 + (N % tenV b d - 60 * b) / (60 * b - gapV b d) else 0)
def restV (N b : Int) (d : Bool) : Int := if N % tenV b d ≥ 60 * b then (N % tenV b d - 60 * b) % (60 * b - gapV b d) + gapV b d else N % tenV b d

/-- The label of frame n. -/
def labV (n b : Int) (d : Bool) : Int × Int × Int × Int × Int × Bool × Int :=
  (minV (n % dayV b d) b d / 60, minV (n % dayV b d) b d % 60, restV (n % dayV b d) b d / b, restV (n % dayV b d) b d % b, b, d, 0)

theorem within_eq (n m : Int) (hn : -9223372036854775808 ≤ n ∧ n ≤ 9223372036854775807) (hm : 0 < m) (hm2 : m ≤ 9223372036854775807) : timecode_within.f n m = some (n % m) := by
  unfold timecode_within.f
  rw [if_neg (by omega)]
  have h1 := Int.tmod_add_mul_tdiv n m
  have h2 : n % m = (Int.tmod n m) % m := by
    conv => lhs; rw [← h1]
    rw [Int.add_mul_emod_self_left]
  by_cases hs : 0 ≤ n
  · rw [tmd n m hs, if_neg (by have := Int.emod_nonneg n (show m ≠ 0 by omega); omega)]
  · have h3 : Int.tmod n m ≤ 0 := by
      have := Int.tmod_nonneg m (show 0 ≤ -n by omega)
      rw [Int.neg_tmod] at this; omega
    have h4 : -m < Int.tmod n m := by
      have := Int.tmod_lt_of_pos (-n) hm
      rw [Int.neg_tmod] at this; omega
    by_cases hz : Int.tmod n m < 0
    · rw [if_pos hz, w64 _ (by omega) (by omega), h2]
      congr 1
      rw [← Int.add_emod_right, Int.emod_eq_of_lt (by omega) (by omega)]
    · have h0 : Int.tmod n m = 0 := by omega
      rw [if_neg hz, h2, h0]; simp

theorem label_ev (n b : Int) (d : Bool) (hn : -9223372036854775808 ≤ n ∧ n ≤ 9223372036854775807) :
    Ev (fun k => timecode_Label.f k n b d) (if Okb b d then labV n b d else (0, 0, 0, 0, 0, false, 1)) := by
  unfold timecode_Label.f
  refine Ev.bind (day_ev b d) ?_
  by_cases ho : Okb b d = true
  · have hd : 0 < dayV b d ∧ dayV b d ≤ 9223372036854775807 := by
      rcases okb_cases ho with ⟨rfl, rfl⟩ | ⟨rfl, rfl⟩ | ⟨rfl, rfl⟩ | ⟨rfl, rfl⟩ | ⟨rfl, rfl⟩ | ⟨rfl, rfl⟩ | ⟨rfl, rfl⟩ | ⟨rfl, rfl⟩ <;> decide
    simp only [if_pos ho, if_true, within_eq n _ hn hd.1 hd.2, dropped_eq b d ho, tenMinutes_eq b d ho, Option.bind_some]
    unfold labV
    have h0 := Int.emod_nonneg n (show dayV b d ≠ 0 by omega)
    have h1 := Int.emod_lt_of_pos n hd.1
    clear hd
    generalize n % dayV b d = N at *
    rcases okb_cases ho with ⟨rfl, rfl⟩ | ⟨rfl, rfl⟩ | ⟨rfl, rfl⟩ | ⟨rfl, rfl⟩ | ⟨rfl, rfl⟩ | ⟨rfl, rfl⟩ | ⟨rfl, rfl⟩ | ⟨rfl, rfl⟩ <;>
    · simp only [dayV, tenV, gapV, if_true, Bool.false_eq_true, if_false, Int.reduceMul, Int.reduceSub, Int.reduceDiv] at h1
      refine Ev.congr (f := fun _ => some _) (fun k => ?_) (Ev.now _)
      simp (disch := omega) only [minV, restV, tenV, gapV, if_true, Bool.false_eq_true, if_false, w64, tdv, tmd, Int.reduceMul, Int.reduceSub, Int.reduceAdd, Int.reduceDiv, Int.reduceEq]
      split
      · try simp (disch := omega) only [w64, tdv, tmd]
        simp only [Option.some.injEq, Prod.mk.injEq, and_true, true_and]
        omega
      · try simp (disch := omega) only [w64, tdv, tmd]
        simp only [Option.some.injEq, Prod.mk.injEq, and_true, true_and]
        omega
  · simp only [if_neg ho, if_false]
    exact Ev.now _

theorem awake_ev : Ev (fun k => cutroomlaw19_awake.f k) true := by
  refine Ev.of cutroomlaw19_awake.mono (k := 60) ?_
  decide +kernel

theorem ten_later (N b : Int) (d : Bool) (h : Okb b d = true) (h0 : 0 ≤ N) (h1 : N < dayV b d) :
    minV ((N + tenV b d) % dayV b d) b d = (minV N b d + 10) % 1440 ∧ restV ((N + tenV b d) % dayV b d) b d = restV N b d ∧ 0 ≤ minV N b d ∧ minV N b d < 1440 := by
  have e1 : ∃ y, 0 ≤ y ∧ y < 144 ∧ (N + tenV b d) % dayV b d / tenV b d = (N / tenV b d + 1) % 144 ∧ (N + tenV b d) % dayV b d % tenV b d = N % tenV b d ∧ y = N / tenV b d := by
    refine ⟨N / tenV b d, ?_⟩
    rcases okb_cases h with ⟨rfl, rfl⟩ | ⟨rfl, rfl⟩ | ⟨rfl, rfl⟩ | ⟨rfl, rfl⟩ | ⟨rfl, rfl⟩ | ⟨rfl, rfl⟩ | ⟨rfl, rfl⟩ | ⟨rfl, rfl⟩
    all_goals simp only [dayV, tenV, gapV, if_true, Bool.false_eq_true, if_false, Int.reduceDiv, Int.reduceMul, Int.reduceSub] at *
    all_goals
      refine ⟨by omega, by omega, ?_, ?_, by first | rfl | trivial⟩
      all_goals
        first
        | (have hc : (N + 14400) % 2073600 = N + 14400 ∨ (N + 14400) % 2073600 = N + 14400 - 2073600 := by omega
           rcases hc with hc | hc <;> (rw [hc]; omega))
        | (have hc : (N + 15000) % 2160000 = N + 15000 ∨ (N + 15000) % 2160000 = N + 15000 - 2160000 := by omega
           rcases hc with hc | hc <;> (rw [hc]; omega))
        | (have hc : (N + 18000) % 2592000 = N + 18000 ∨ (N + 18000) % 2592000 = N + 18000 - 2592000 := by omega
           rcases hc with hc | hc <;> (rw [hc]; omega))
        | (have hc : (N + 28800) % 4147200 = N + 28800 ∨ (N + 28800) % 4147200 = N + 28800 - 4147200 := by omega
           rcases hc with hc | hc <;> (rw [hc]; omega))
        | (have hc : (N + 30000) % 4320000 = N + 30000 ∨ (N + 30000) % 4320000 = N + 30000 - 4320000 := by omega
           rcases hc with hc | hc <;> (rw [hc]; omega))
        | (have hc : (N + 36000) % 5184000 = N + 36000 ∨ (N + 36000) % 5184000 = N + 36000 - 5184000 := by omega
           rcases hc with hc | hc <;> (rw [hc]; omega))
        | (have hc : (N + 17982) % 2589408 = N + 17982 ∨ (N + 17982) % 2589408 = N + 17982 - 2589408 := by omega
           rcases hc with hc | hc <;> (rw [hc]; omega))
        | (have hc : (N + 35964) % 5178816 = N + 35964 ∨ (N + 35964) % 5178816 = N + 35964 - 5178816 := by omega
           rcases hc with hc | hc <;> (rw [hc]; omega))
  obtain ⟨y, y0, y1, e2, e3, e4⟩ := e1
  have hm : ∃ z, 0 ≤ z ∧ z < 10 ∧ minV N b d = 10 * (N / tenV b d) + z := by
    unfold minV
    refine ⟨_, ?_, ?_, rfl⟩
    all_goals
      rcases okb_cases h with ⟨rfl, rfl⟩ | ⟨rfl, rfl⟩ | ⟨rfl, rfl⟩ | ⟨rfl, rfl⟩ | ⟨rfl, rfl⟩ | ⟨rfl, rfl⟩ | ⟨rfl, rfl⟩ | ⟨rfl, rfl⟩
      all_goals simp only [tenV, gapV, if_true, Bool.false_eq_true, if_false, Int.reduceDiv, Int.reduceMul, Int.reduceSub]
      all_goals (split <;> omega)
  obtain ⟨z, z0, z1, hz⟩ := hm
  refine ⟨?_, ?_, by omega, by omega⟩
  · have : minV ((N + tenV b d) % dayV b d) b d = 10 * ((N / tenV b d + 1) % 144) + z := by
      unfold minV at hz ⊢
      rw [e2, e3]; omega
    rw [this, hz]; omega
  · unfold restV
    rw [e3]

theorem ten_law (n b : Int) (d : Bool) (ho : Okb b d = true) (h0 : 0 ≤ n) (h1 : n ≤ 1099511627776) :
    Ev (fun k => cutroomlaw19_TimecodeTenMinutes.j0 k n b d (dayV b d) false) true := by
  refine Ev.step (f := fun k => _) (fun k => by rw [cutroomlaw19_TimecodeTenMinutes.j0]) ?_
  have hd : dayV b d = 144 * tenV b d ∧ 0 < dayV b d ∧ dayV b d ≤ 5184000 := by
    rcases okb_cases ho with ⟨rfl, rfl⟩ | ⟨rfl, rfl⟩ | ⟨rfl, rfl⟩ | ⟨rfl, rfl⟩ | ⟨rfl, rfl⟩ | ⟨rfl, rfl⟩ | ⟨rfl, rfl⟩ | ⟨rfl, rfl⟩ <;> decide +kernel
  have t1 : Int.tmod (dayV b d) 144 = 0 := by rw [tmd _ _ (by omega), hd.1]; omega
  have t2 : wrap64 (n + (wrap64 (Int.tdiv (dayV b d) 144))) = n + tenV b d := by
    rw [tdv _ _ (by omega), show dayV b d / 144 = tenV b d by omega, w64 (tenV b d) (by omega) (by omega), w64 _ (by omega) (by omega)]
  simp only [Bool.false_eq_true, if_false, t1, if_true, t2]
  have l1 := label_ev n b d (by omega)
  have l2 := label_ev (n + tenV b d) b d (by omega)
  rw [if_pos ho] at l1 l2
  refine Ev.bind l1 (Ev.bind l2 ?_)
  have g0 := Int.emod_nonneg n (show dayV b d ≠ 0 by omega)
  have g1 := Int.emod_lt_of_pos n hd.2.1
  obtain ⟨a1, a2, a3, a4⟩ := ten_later (n % dayV b d) b d ho g0 g1
  rw [Int.emod_add_emod] at a1 a2
  have q0 : ∀ M : Int, 0 ≤ M → M < 1440 → Int.tmod (wrap64 ((wrap64 ((wrap64 ((M / 60) * 60)) + M % 60)) + 10)) 1440 = (M + 10) % 1440 := by
    intro M x0 x1
    rw [w64 (M / 60 * 60) (by omega) (by omega), w64 (M / 60 * 60 + M % 60) (by omega) (by omega), w64 (M / 60 * 60 + M % 60 + 10) (by omega) (by omega), tmd _ _ (by omega)]
    congr 1; omega
  have q := q0 _ a3 a4
  have q1 : ∀ M : Int, 0 ≤ M → M < 1440 → Int.tmod (wrap64 ((wrap64 ((wrap64 ((M / 60) * 60)) + M % 60)) + 10)) 60 = (M + 10) % 1440 % 60 := by
    intro M x0 x1
    rw [w64 (M / 60 * 60) (by omega) (by omega), w64 (M / 60 * 60 + M % 60) (by omega) (by omega), w64 (M / 60 * 60 + M % 60 + 10) (by omega) (by omega), tmd _ _ (by omega)]
    omega
  have q3 := q1 _ a3 a4
  have q2 : wrap64 (Int.tdiv ((minV (n % dayV b d) b d + 10) % 1440) 60) = (minV (n % dayV b d) b d + 10) % 1440 / 60 := by
    rw [tdv _ _ (by omega), w64 _ (by omega) (by omega)]
  simp only [labV, q, a1, a2, q2, q3, if_true]
  exact Ev.bind awake_ev (Ev.now _)

theorem TimecodeTenMinutes : cutroomlaw19_TimecodeTenMinutes.Pure := by
  intro n b d hn hb
  refine Ev.rounds ?_
  have hy : ∀ x, Ev (fun k => cutroomlaw19_TimecodeTenMinutes.j0 k n b d x true) true := by
    intro x
    refine Ev.step (f := fun k => _) (fun k => by rw [cutroomlaw19_TimecodeTenMinutes.j0]) ?_
    simp only [if_true]
    exact Ev.bind awake_ev (Ev.now _)
  unfold cutroomlaw19_TimecodeTenMinutes.f
  refine Ev.bind (day_ev b d) ?_
  by_cases ho : Okb b d = true
  · simp only [if_pos ho, if_true]
    by_cases c1 : n < 0
    · simp only [if_pos c1]; exact hy _
    · simp only [if_neg c1]
      by_cases c2 : n > 1099511627776
      · rw [decide_eq_true c2]; exact hy _
      · rw [decide_eq_false c2]; exact ten_law n b d ho (by omega) (by omega)
  · simp only [if_neg ho]
    exact hy _

end Go.Proofs.Ytfdhjnfpppafaaa.Pure
