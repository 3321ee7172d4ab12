/- Pure part of TimecodeOrder: what the printed Go functions compute answers true, for every input. No conditions. -/
import Derived.Test.YtfdhjnfpppafaaaPTimecodeOrderx6
set_option linter.unusedVariables false
set_option linter.unusedSimpArgs false
namespace Go.Proofs.Ytfdhjnfpppafaaa.Pure
open Go.RowKit Go.Proofs.Ytfdhjnfpppafaaa.PTimecodeOrder Go.Proofs.YtfdhjnfpppafaaaW.PrintWords Go.Proofs.YtfdhjnfpppafaaaW.PrintLast

/-- The bounds of an int64. -/
theorem b64 {n : Int} (h : (Lit.int .i64 n).wf = true) : -9223372036854775808 ≤ n ∧ n ≤ 9223372036854775807 := by
  simpa [Lit.wf, IntKind.min, IntKind.max, IntKind.signed, IntKind.bits] using h
theorem w64 (n : Int) (h1 : -9223372036854775808 ≤ n) (h2 : n ≤ 9223372036854775807) : wrap64 n = n := by unfold wrap64; omega
theorem tdv (a b : Int) (h : 0 ≤ a) : Int.tdiv a b = a / b := Int.tdiv_eq_ediv_of_nonneg h
theorem tmd (a b : Int) (h : 0 ≤ a) : Int.tmod a b = a % b := Int.tmod_eq_emod_of_nonneg h

/-- The known bases. -/
def Kn (b : Int) : Bool := b == 24 || b == 25 || b == 30 || b == 48 || b == 50 || b == 60
/-- A base and a choice of dropping that go together. -/
def Okb (b : Int) (d : Bool) : Bool := Kn b && (!d || b == 30 || b == 60)
/-- The labels that a minute lacks. -/
def gapV (b : Int) (d : Bool) : Int := if d then b / 15 else 0
/-- The labels of ten minutes, and of a day. -/
def tenV (b : Int) (d : Bool) : Int := 600 * b - 9 * gapV b d
def dayV (b : Int) (d : Bool) : Int := 144 * tenV b d

theorem okb_cases {b : Int} {d : Bool} (h : Okb b d = true) :
    (b = 24 ∧ d = false) ∨ (b = 25 ∧ d = false) ∨ (b = 30 ∧ d = false) ∨ (b = 48 ∧ d = false) ∨ (b = 50 ∧ d = false) ∨ (b = 60 ∧ d = false) ∨ (b = 30 ∧ d = true) ∨ (b = 60 ∧ d = true) := by
  cases d <;> simp [Okb, Kn] at h ⊢ <;> omega

theorem isBase_ev (b : Int) : Ev (fun k => timecode_isBase.f k b) (Kn b) := by
  refine Ev.of (timecode_isBase.mono b) (k := 7) ?_
  simp only [timecode_isBase.f, timecode_bases.f, timecode_isBase.l0, Option.bind_some]
  simp [rd, wrap64, Kn]
  by_cases h1 : b = 24
  · simp [h1]
  by_cases h2 : b = 25
  · simp [h2]
  by_cases h3 : b = 30
  · simp [h3]
  by_cases h4 : b = 48
  · simp [h4]
  by_cases h5 : b = 50
  · simp [h5]
  by_cases h6 : b = 60
  · simp [h6]
  simp [h1, h2, h3, h4, h5, h6, Ne.symm h1, Ne.symm h2, Ne.symm h3, Ne.symm h4, Ne.symm h5, Ne.symm h6]

theorem dropped_eq (b : Int) (d : Bool) (h : Okb b d = true) : timecode_dropped.f b d = some (gapV b d) := by
  rcases okb_cases h with ⟨rfl, rfl⟩ | ⟨rfl, rfl⟩ | ⟨rfl, rfl⟩ | ⟨rfl, rfl⟩ | ⟨rfl, rfl⟩ | ⟨rfl, rfl⟩ | ⟨rfl, rfl⟩ | ⟨rfl, rfl⟩ <;> decide +kernel

theorem tenMinutes_eq (b : Int) (d : Bool) (h : Okb b d = true) : timecode_tenMinutes.f b d = some (tenV b d) := by
  rcases okb_cases h with ⟨rfl, rfl⟩ | ⟨rfl, rfl⟩ | ⟨rfl, rfl⟩ | ⟨rfl, rfl⟩ | ⟨rfl, rfl⟩ | ⟨rfl, rfl⟩ | ⟨rfl, rfl⟩ | ⟨rfl, rfl⟩ <;> decide +kernel

theorem canDrop_eq (b : Int) : timecode_CanDrop.f b = some (b == 30 || b == 60) := by
  simp only [timecode_CanDrop.f]
  split
  all_goals simp_all

theorem day_ev (b : Int) (d : Bool) : Ev (fun k => timecode_Day.f k b d) (if Okb b d then (dayV b d, 0) else (0, 1)) := by
  unfold timecode_Day.f
  refine Ev.bind (isBase_ev b) ?_
  by_cases hk : Kn b = true
  · by_cases ho : Okb b d = true
    · rw [if_pos hk, if_pos ho, tenMinutes_eq b d ho, canDrop_eq]
      have hw : wrap64 (144 * tenV b d) = dayV b d := by
        rcases okb_cases ho with ⟨rfl, rfl⟩ | ⟨rfl, rfl⟩ | ⟨rfl, rfl⟩ | ⟨rfl, rfl⟩ | ⟨rfl, rfl⟩ | ⟨rfl, rfl⟩ | ⟨rfl, rfl⟩ | ⟨rfl, rfl⟩ <;> decide +kernel
      simp only [Option.bind_some, hw]
      cases d
      · exact Ev.now _
      · have : (b == 30 || b == 60) = true := by simpa [Okb, hk] using ho
        rw [this]
        exact Ev.now _
    · rw [if_pos hk, if_neg ho, canDrop_eq]
      cases d
      · exact absurd (by simp [Okb, hk]) ho
      · have : (b == 30 || b == 60) = false := by
          rw [Bool.eq_false_iff]; intro h; exact ho (by simpa [Okb, hk] using h)
        simp only [Option.bind_some, this]
        exact Ev.now _
  · rw [if_neg hk, if_neg (by simp [Okb, hk])]
    exact Ev.now _

/-- Frame number n of the day: its minute, and what is left in the minute, the gap counted. -/
def minV (N b : Int) (d : Bool) : Int := 10 * (N / tenV b d) + (if N % tenV b d ≥ 60 * b then 1 + (N % tenV b d - 60 * b) / (60 * b - gapV b d) else 0)
def restV (N b : Int) (d : Bool) : Int := if N % tenV b d ≥ 60 * b then (N % tenV b d - 60 * b) % (60 * b - gapV b d) + gapV b d else N % tenV b d

/-- The label of frame n. -/
def labV (n b : Int) (d : Bool) : Int × Int × Int × Int × Int × Bool × Int :=
  (minV (n % dayV b d) b d / 60, minV (n % dayV b d) b d % 60, restV (n % dayV b d) b d / b, restV (n % dayV b d) b d % b, b, d, 0)

theorem within_eq (n m : Int) (hn : -9223372036854775808 ≤ n ∧ n ≤ 9223372036854775807) (hm : 0 < m) (hm2 : m ≤ 9223372036854775807) : timecode_within.f n m = some (n % m) := by
  unfold timecode_within.f
  rw [if_neg (by omega)]
  have h1 := Int.tmod_add_mul_tdiv n m
  have h2 : n % m = (Int.tmod n m) % m := by
    conv => lhs; rw [← h1]
    rw [Int.add_mul_emod_self_left]
  by_cases hs : 0 ≤ n
  · rw [tmd n m hs, if_neg (by have := Int.emod_nonneg n (show m ≠ 0 by omega); omega)]
  · have h3 : Int.tmod n m ≤ 0 := by
      have := Int.tmod_nonneg m (show 0 ≤ -n by omega)
      rw [Int.neg_tmod] at this; omega
    have h4 : -m < Int.tmod n m := by
      have := Int.tmod_lt_of_pos (-n) hm
      rw [Int.neg_tmod] at this; omega
    by_cases hz : Int.tmod n m < 0
    · rw [if_pos hz, w64 _ (by omega) (by omega), h2]
      congr 1
      rw [← Int.add_emod_right, Int.emod_eq_of_lt (by omega) (by omega)]
    · have h0 : Int.tmod n m = 0 := by omega
      rw [if_neg hz, h2, h0]; simp

theorem label_ev (n b : Int) (d : Bool) (hn : -9223372036854775808 ≤ n ∧ n ≤ 9223372036854775807) :
    Ev (fun k => timecode_Label.f k n b d) (if Okb b d then labV n b d else (0, 0, 0, 0, 0, false, 1)) := by
  unfold timecode_Label.f
  refine Ev.bind (day_ev b d) ?_
  by_cases ho : Okb b d = true
  · have hd : 0 < dayV b d ∧ dayV b d ≤ 9223372036854775807 := by
      rcases okb_cases ho with ⟨rfl, rfl⟩ | ⟨rfl, rfl⟩ | ⟨rfl, rfl⟩ | ⟨rfl, rfl⟩ | ⟨rfl, rfl⟩ | ⟨rfl, rfl⟩ | ⟨rfl, rfl⟩ | ⟨rfl, rfl⟩ <;> decide
    simp only [if_pos ho, if_true, within_eq n _ hn hd.1 hd.2, dropped_eq b d ho, tenMinutes_eq b d ho, Option.bind_some]
    unfold labV
    have h0 := Int.emod_nonneg n (show dayV b d ≠ 0 by omega)
    have h1 := Int.emod_lt_of_pos n hd.1
    clear hd
    generalize n % dayV b d = N at *
    rcases okb_cases ho with ⟨rfl, rfl⟩ | ⟨rfl, rfl⟩ | ⟨rfl, rfl⟩ | ⟨rfl, rfl⟩ | ⟨rfl, rfl⟩ | ⟨rfl, rfl⟩ | ⟨rfl, rfl⟩ | ⟨rfl, rfl⟩ <;>
    · simp only [dayV, tenV, gapV, if_true, Bool.false_eq_true, if_false, Int.reduceMul, Int.reduceSub, Int.reduceDiv] at h1
      refine Ev.congr (f := fun _ => some _) (fun k => ?_) (Ev.now _)
      simp (disch := omega) only [minV, restV, tenV, gapV, if_true, Bool.false_eq_true, if_false, w64, tdv, tmd, Int.reduceMul, Int.reduceSub, Int.reduceAdd, Int.reduceDiv, Int.reduceEq]
      split
      · try simp (disch := omega) only [w64, tdv, tmd]
        simp only [Option.some.injEq, Prod.mk.injEq, and_true, true_and]
        omega
      · try simp (disch := omega) only [w64, tdv, tmd]
        simp only [Option.some.injEq, Prod.mk.injEq, and_true, true_and]
        omega
  · simp only [if_neg ho, if_false]
    exact Ev.now _

/-- The labels that minute m of the day lacks. -/
def dropV (m b : Int) (d : Bool) : Int := if d then (if m % 10 = 0 then 0 else b / 15) else 0
/-- The number of the labels before minute m. -/
def startV (m b : Int) (d : Bool) : Int := 60 * b * m - gapV b d * (m - (m + 9) / 10)

theorem minute_of (N m x b : Int) (d : Bool) (h : Okb b d = true) (hm : 0 ≤ m) (hN : N = startV m b d + x) (h0 : 0 ≤ x) (h1 : x < 60 * b - dropV m b d) :
    minV N b d = m ∧ restV N b d = x + dropV m b d := by
  obtain ⟨q, r, rfl, hr0, hr1⟩ : ∃ q r : Int, m = 10 * q + r ∧ 0 ≤ r ∧ r < 10 := ⟨m / 10, m % 10, by omega, by omega, by omega⟩
  rcases okb_cases h with ⟨rfl, rfl⟩ | ⟨rfl, rfl⟩ | ⟨rfl, rfl⟩ | ⟨rfl, rfl⟩ | ⟨rfl, rfl⟩ | ⟨rfl, rfl⟩ | ⟨rfl, rfl⟩ | ⟨rfl, rfl⟩
  all_goals simp only [minV, restV, startV, dropV, tenV, gapV, if_true, Bool.false_eq_true, if_false, Int.reduceMul, Int.reduceSub, Int.reduceDiv] at *
  case inr.inr.inr.inr.inr.inr.inl =>
    by_cases hz : r = 0
    · subst hz
      have e : (10 * q + 0) % 10 = 0 := by omega
      simp only [e, if_true] at h1 ⊢
      have hq : N / 17982 = q := by omega
      have hr : N % 17982 = x := by omega
      rw [hq, hr, if_neg (by omega), if_neg (by omega)]
      omega
    · have e : ¬ (10 * q + r) % 10 = 0 := by omega
      simp only [e, if_false] at h1 ⊢
      have hq : N / 17982 = q := by omega
      have hr : N % 17982 = 1800 + 1798 * (r - 1) + x := by omega
      rw [hq, hr, if_pos (by omega), if_pos (by omega)]
      omega
  case inr.inr.inr.inr.inr.inr.inr =>
    by_cases hz : r = 0
    · subst hz
      have e : (10 * q + 0) % 10 = 0 := by omega
      simp only [e, if_true] at h1 ⊢
      have hq : N / 35964 = q := by omega
      have hr : N % 35964 = x := by omega
      rw [hq, hr, if_neg (by omega), if_neg (by omega)]
      omega
    · have e : ¬ (10 * q + r) % 10 = 0 := by omega
      simp only [e, if_false] at h1 ⊢
      have hq : N / 35964 = q := by omega
      have hr : N % 35964 = 3600 + 3596 * (r - 1) + x := by omega
      rw [hq, hr, if_pos (by omega), if_pos (by omega)]
      omega
  all_goals (constructor <;> split <;> omega)

theorem start_succ (m b : Int) (d : Bool) (h : Okb b d = true) (hm : 0 ≤ m) : startV (m + 1) b d = startV m b d + (60 * b - dropV m b d) := by
  rcases okb_cases h with ⟨rfl, rfl⟩ | ⟨rfl, rfl⟩ | ⟨rfl, rfl⟩ | ⟨rfl, rfl⟩ | ⟨rfl, rfl⟩ | ⟨rfl, rfl⟩ | ⟨rfl, rfl⟩ | ⟨rfl, rfl⟩
  all_goals simp only [startV, dropV, gapV, if_true, Bool.false_eq_true, if_false, Int.reduceMul, Int.reduceSub, Int.reduceDiv]
  all_goals first | omega | (split <;> omega)

theorem start_bd (m b : Int) (d : Bool) (h : Okb b d = true) (hm : 0 ≤ m) (hm2 : m ≤ 1440) : 0 ≤ startV m b d ∧ startV m b d ≤ 5184000 := by
  rcases okb_cases h with ⟨rfl, rfl⟩ | ⟨rfl, rfl⟩ | ⟨rfl, rfl⟩ | ⟨rfl, rfl⟩ | ⟨rfl, rfl⟩ | ⟨rfl, rfl⟩ | ⟨rfl, rfl⟩ | ⟨rfl, rfl⟩
  all_goals simp only [startV, gapV, if_true, Bool.false_eq_true, if_false, Int.reduceMul, Int.reduceDiv]
  all_goals omega

theorem okb_bd {b : Int} {d : Bool} (h : Okb b d = true) (m : Int) : 24 ≤ b ∧ b ≤ 60 ∧ 0 ≤ dropV m b d ∧ dropV m b d ≤ 4 := by
  rcases okb_cases h with ⟨rfl, rfl⟩ | ⟨rfl, rfl⟩ | ⟨rfl, rfl⟩ | ⟨rfl, rfl⟩ | ⟨rfl, rfl⟩ | ⟨rfl, rfl⟩ | ⟨rfl, rfl⟩ | ⟨rfl, rfl⟩
  all_goals simp only [dropV, if_true, Bool.false_eq_true, if_false, Int.reduceDiv]
  all_goals first | omega | (split <;> omega)

theorem dayV_start {b : Int} {d : Bool} (h : Okb b d = true) : dayV b d = startV 1440 b d ∧ 0 < dayV b d ∧ dayV b d ≤ 5184000 := by
  rcases okb_cases h with ⟨rfl, rfl⟩ | ⟨rfl, rfl⟩ | ⟨rfl, rfl⟩ | ⟨rfl, rfl⟩ | ⟨rfl, rfl⟩ | ⟨rfl, rfl⟩ | ⟨rfl, rfl⟩ | ⟨rfl, rfl⟩ <;> decide +kernel


theorem awake_ev : Ev (fun k => cutroomlaw19_awake.f k) true := by
  refine Ev.of cutroomlaw19_awake.mono (k := 60) ?_
  decide +kernel

/-- Whether a label's numbers are in range, whether it exists, and its number. -/
def inV (h m s f b : Int) : Bool := decide (0 ≤ h ∧ h ≤ 23 ∧ 0 ≤ m ∧ m ≤ 59 ∧ 0 ≤ s ∧ s ≤ 59 ∧ 0 ≤ f ∧ f < b)
def exV (h m s f b : Int) (d : Bool) : Bool := inV h m s f b && decide (m % 10 = 0 ∨ ¬ s = 0 ∨ gapV b d ≤ f)
def numV (h m s f b : Int) (d : Bool) : Int := ((60 * h + m) * 60 + s) * b + f - gapV b d * ((60 * h + m) - (60 * h + m) / 10)
def numR (h m s f b : Int) (d : Bool) : Int × Int := if Okb b d then (if exV h m s f b d then (numV h m s f b d, 0) else (0, 2)) else (0, 1)

theorem in_eq (a b : Int) : timecode_in.f a b = some (decide (0 ≤ a ∧ a < b)) := by
  unfold timecode_in.f
  split
  · congr 1; simp; omega
  · congr 1; symm; simp; omega

theorem gapV_bd {b : Int} {d : Bool} (h : Okb b d = true) : 0 ≤ gapV b d ∧ gapV b d ≤ 4 ∧ 24 ≤ b ∧ b ≤ 60 := by
  rcases okb_cases h with ⟨rfl, rfl⟩ | ⟨rfl, rfl⟩ | ⟨rfl, rfl⟩ | ⟨rfl, rfl⟩ | ⟨rfl, rfl⟩ | ⟨rfl, rfl⟩ | ⟨rfl, rfl⟩ | ⟨rfl, rfl⟩ <;> decide +kernel

theorem number_body (h m s f b : Int) (d : Bool) (ho : Okb b d = true) (h0 : 0 ≤ h) (h1 : h ≤ 23) (m0 : 0 ≤ m) (m1 : m ≤ 59) (s0 : 0 ≤ s) (s1 : s ≤ 59) (f0 : 0 ≤ f) (f1 : f < b) :
    wrap64 ((wrap64 ((wrap64 ((wrap64 ((wrap64 ((wrap64 ((wrap64 (h * 60)) + m)) * 60)) + s)) * b)) + f)) - (wrap64 (gapV b d * (wrap64 ((wrap64 ((wrap64 (h * 60)) + m)) - (wrap64 (Int.tdiv (wrap64 ((wrap64 (h * 60)) + m)) 10))))))) = numV h m s f b d := by
  rcases okb_cases ho with ⟨rfl, rfl⟩ | ⟨rfl, rfl⟩ | ⟨rfl, rfl⟩ | ⟨rfl, rfl⟩ | ⟨rfl, rfl⟩ | ⟨rfl, rfl⟩ | ⟨rfl, rfl⟩ | ⟨rfl, rfl⟩
  all_goals
    simp only [numV, gapV, if_true, Bool.false_eq_true, if_false, Int.reduceDiv]
    simp (disch := omega) only [w64, tdv]
    omega

theorem number_j0 (h m s f b : Int) (d : Bool) (ho : Okb b d = true) (h0 : 0 ≤ h) (h1 : h ≤ 23) (m0 : 0 ≤ m) (m1 : m ≤ 59) (s0 : 0 ≤ s) (s1 : s ≤ 59) (c : Bool) (hc : c = decide (0 ≤ f ∧ f < b)) :
    Ev (fun k => timecode_Number.j0 k (!c) h m s f b d) (if exV h m s f b d then (numV h m s f b d, 0) else (0, 2)) := by
  refine Ev.step (f := fun k => _) (fun k => by rw [timecode_Number.j0]) ?_
  by_cases hf : 0 ≤ f ∧ f < b
  · rw [decide_eq_true hf] at hc
    subst hc
    simp only [Bool.not_true, Bool.false_eq_true, if_false, dropped_eq b d ho, Option.bind_some, number_body h m s f b d ho h0 h1 m0 m1 s0 s1 hf.1 hf.2, tmd m 10 m0]
    have hi : inV h m s f b = true := decide_eq_true ⟨h0, h1, m0, m1, s0, s1, hf.1, hf.2⟩
    by_cases e1 : m % 10 = 0
    · simp only [if_pos e1, exV, hi, e1, true_or, decide_true, Bool.and_self, if_true]; exact Ev.now _
    · by_cases e2 : s = 0
      · by_cases e3 : f < gapV b d
        · have : ¬ gapV b d ≤ f := by omega
          simp only [if_neg e1, if_pos e2, if_pos e3, exV, hi, e1, e2, this, not_true, or_self, decide_false, Bool.and_false, Bool.false_eq_true, if_false]; exact Ev.now _
        · have : gapV b d ≤ f := by omega
          simp only [if_neg e1, if_pos e2, if_neg e3, exV, hi, this, or_true, decide_true, Bool.and_self, if_true]; exact Ev.now _
      · simp only [if_neg e1, if_neg e2, exV, hi, e2, not_false_eq_true, true_or, or_true, decide_true, Bool.and_self, if_true]; exact Ev.now _
  · rw [decide_eq_false hf] at hc
    subst hc
    have hi : inV h m s f b = false := decide_eq_false (by omega)
    simp only [Bool.not_false, if_true, exV, hi, Bool.false_and, Bool.false_eq_true, if_false]
    exact Ev.now _

theorem number_no (h m s f b : Int) (d : Bool) (hi : inV h m s f b = false) :
    Ev (fun k => timecode_Number.j0 k true h m s f b d) (if exV h m s f b d then (numV h m s f b d, 0) else (0, 2)) := by
  refine Ev.step (f := fun k => _) (fun k => by rw [timecode_Number.j0]) ?_
  simp only [if_true, exV, hi, Bool.false_and, Bool.false_eq_true, if_false]
  exact Ev.now _

theorem number_ev (h m s f b : Int) (d : Bool) : Ev (fun k => timecode_Number.f k h m s f b d) (numR h m s f b d) := by
  unfold timecode_Number.f numR
  refine Ev.bind (day_ev b d) ?_
  by_cases ho : Okb b d = true
  · simp only [if_pos ho, if_true, in_eq, Option.bind_some]
    by_cases c1 : 0 ≤ h ∧ h < 24
    · by_cases c2 : 0 ≤ m ∧ m < 60
      · by_cases c3 : 0 ≤ s ∧ s < 60
        · simp only [c1, c2, c3, and_self, decide_true, if_true]
          exact number_j0 h m s f b d ho c1.1 (by omega) c2.1 (by omega) c3.1 (by omega) _ rfl
        · simp only [c1, c2, decide_eq_false c3, and_self, decide_true, if_true, Bool.false_eq_true, if_false]
          exact number_no h m s f b d (decide_eq_false (by omega))
      · simp only [c1, decide_eq_false c2, and_self, decide_true, if_true, Bool.false_eq_true, if_false]
        exact number_no h m s f b d (decide_eq_false (by omega))
    · simp only [decide_eq_false c1, Bool.false_eq_true, if_false]
      exact number_no h m s f b d (decide_eq_false (by omega))
  · simp only [if_neg ho]
    exact Ev.now _

theorem number_of_label (N b : Int) (d : Bool) (ho : Okb b d = true) (h0 : 0 ≤ N) (h1 : N < dayV b d) :
    numR (minV N b d / 60) (minV N b d % 60) (restV N b d / b) (restV N b d % b) b d = (N, 0) := by
  have hx : exV (minV N b d / 60) (minV N b d % 60) (restV N b d / b) (restV N b d % b) b d = true ∧ numV (minV N b d / 60) (minV N b d % 60) (restV N b d / b) (restV N b d % b) b d = N := by
    have key : 0 ≤ minV N b d ∧ minV N b d < 1440 ∧ 0 ≤ restV N b d ∧ restV N b d < 60 * b ∧ (minV N b d % 10 = 0 ∨ gapV b d ≤ restV N b d) ∧
        minV N b d * 60 * b + restV N b d - gapV b d * (minV N b d - minV N b d / 10) = N := by
      obtain ⟨q, r, z, rfl, r0, r1, z0, z1, hz⟩ : ∃ q r z : Int, N = tenV b d * q + r ∧ 0 ≤ r ∧ r < tenV b d ∧ 0 ≤ z ∧ z ≤ 9 ∧ z = (if r ≥ 60 * b then 1 + (r - 60 * b) / (60 * b - gapV b d) else 0) := by
        refine ⟨N / tenV b d, N % tenV b d, _, ?_, ?_, ?_, ?_, ?_, rfl⟩
        all_goals
          rcases okb_cases ho with ⟨rfl, rfl⟩ | ⟨rfl, rfl⟩ | ⟨rfl, rfl⟩ | ⟨rfl, rfl⟩ | ⟨rfl, rfl⟩ | ⟨rfl, rfl⟩ | ⟨rfl, rfl⟩ | ⟨rfl, rfl⟩
          all_goals simp only [tenV, gapV, if_true, Bool.false_eq_true, if_false, Int.reduceDiv, Int.reduceMul, Int.reduceSub]
          all_goals first | omega | (split <;> omega)
      have hq : (tenV b d * q + r) / tenV b d = q ∧ (tenV b d * q + r) % tenV b d = r ∧ 0 ≤ q ∧ q < 144 := by
        rcases okb_cases ho with ⟨rfl, rfl⟩ | ⟨rfl, rfl⟩ | ⟨rfl, rfl⟩ | ⟨rfl, rfl⟩ | ⟨rfl, rfl⟩ | ⟨rfl, rfl⟩ | ⟨rfl, rfl⟩ | ⟨rfl, rfl⟩
        all_goals simp only [dayV, tenV, gapV, if_true, Bool.false_eq_true, if_false, Int.reduceDiv, Int.reduceMul, Int.reduceSub] at *
        all_goals omega
      have hm : minV (tenV b d * q + r) b d = 10 * q + z := by unfold minV; rw [hq.1, hq.2.1, ← hz]
      have hr : restV (tenV b d * q + r) b d = (if r ≥ 60 * b then (r - 60 * b) % (60 * b - gapV b d) + gapV b d else r) := by unfold restV; rw [hq.2.1]
      rw [hm, hr]
      clear hm hr h0 h1
      obtain ⟨-, -, q0, q1⟩ := hq
      rw [show (10 * q + z) % 10 = z by omega, show (10 * q + z) / 10 = q by omega]
      rcases okb_cases ho with ⟨rfl, rfl⟩ | ⟨rfl, rfl⟩ | ⟨rfl, rfl⟩ | ⟨rfl, rfl⟩ | ⟨rfl, rfl⟩ | ⟨rfl, rfl⟩ | ⟨rfl, rfl⟩ | ⟨rfl, rfl⟩
      all_goals simp only [tenV, gapV, if_true, Bool.false_eq_true, if_false, Int.reduceDiv, Int.reduceMul, Int.reduceSub] at *
      all_goals (split at hz <;> refine ⟨by omega, by omega, by omega, by omega, by omega, by omega⟩)
    obtain ⟨k0, k1, k2, k3, k4, k5⟩ := key
    generalize minV N b d = M at *
    generalize restV N b d = R at *
    have hM : 60 * (M / 60) + M % 60 = M := by omega
    have hR : ∃ s f : Int, R / b = s ∧ R % b = f ∧ R = s * b + f ∧ 0 ≤ s ∧ s ≤ 59 ∧ 0 ≤ f ∧ f < b ∧ (s = 0 → R = f) ∧ (¬ s = 0 → gapV b d ≤ R) := by
      refine ⟨_, _, rfl, rfl, ?_⟩
      rcases okb_cases ho with ⟨rfl, rfl⟩ | ⟨rfl, rfl⟩ | ⟨rfl, rfl⟩ | ⟨rfl, rfl⟩ | ⟨rfl, rfl⟩ | ⟨rfl, rfl⟩ | ⟨rfl, rfl⟩ | ⟨rfl, rfl⟩
      all_goals simp only [gapV, if_true, Bool.false_eq_true, if_false, Int.reduceDiv, Int.reduceMul] at *
      all_goals omega
    obtain ⟨s, f, e1, e2, e3, s0, s1, f0, f1, e4, -⟩ := hR
    rw [e1, e2]
    constructor
    · have hi : inV (M / 60) (M % 60) s f b = true := decide_eq_true ⟨by omega, by omega, by omega, by omega, s0, s1, f0, f1⟩
      simp only [exV, hi, Bool.true_and]
      refine decide_eq_true ?_
      by_cases es : s = 0
      · have := e4 es
        rcases k4 with k | k
        · exact .inl (by omega)
        · exact .inr (.inr (by omega))
      · exact .inr (.inl es)
    · unfold numV
      rw [hM, ← k5, e3, Int.add_mul, Int.mul_assoc]
      omega
  simp only [numR, if_pos ho, hx.1, hx.2, if_true]

theorem label_of_number (h m s f b : Int) (d : Bool) (ho : Okb b d = true) (hx : exV h m s f b d = true) :
    labV (numV h m s f b d) b d = (h, m, s, f, b, d, 0) ∧ 0 ≤ numV h m s f b d ∧ numV h m s f b d < dayV b d := by
  simp only [exV, inV, Bool.and_eq_true, decide_eq_true_eq] at hx
  obtain ⟨⟨h0, h1, m0, m1, s0, s1, f0, f1⟩, hz⟩ := hx
  have hd : numV h m s f b d = startV (60 * h + m) b d + (s * b + f - dropV (60 * h + m) b d) ∧ 0 ≤ s * b + f - dropV (60 * h + m) b d ∧ s * b + f < 60 * b ∧ (s * b + f) / b = s ∧ (s * b + f) % b = f := by
    have e0 : (60 * h + m) % 10 = m % 10 := by omega
    rcases okb_cases ho with ⟨rfl, rfl⟩ | ⟨rfl, rfl⟩ | ⟨rfl, rfl⟩ | ⟨rfl, rfl⟩ | ⟨rfl, rfl⟩ | ⟨rfl, rfl⟩ | ⟨rfl, rfl⟩ | ⟨rfl, rfl⟩
    all_goals simp only [numV, startV, dropV, gapV, e0, if_true, Bool.false_eq_true, if_false, Int.reduceDiv, Int.reduceMul] at *
    all_goals first | exact ⟨by omega, by omega, by omega, by omega, by omega⟩ | (split <;> exact ⟨by omega, by omega, by omega, by omega, by omega⟩)
  obtain ⟨e1, e2, e3, e4, e5⟩ := hd
  have hs := start_bd (60 * h + m) b d ho (by omega) (by omega)
  have hday : numV h m s f b d < dayV b d := by
    rw [(dayV_start ho).1, e1]
    have hb := okb_bd ho (60 * h + m)
    rcases okb_cases ho with ⟨rfl, rfl⟩ | ⟨rfl, rfl⟩ | ⟨rfl, rfl⟩ | ⟨rfl, rfl⟩ | ⟨rfl, rfl⟩ | ⟨rfl, rfl⟩ | ⟨rfl, rfl⟩ | ⟨rfl, rfl⟩
    all_goals simp only [startV, dropV, gapV, if_true, Bool.false_eq_true, if_false, Int.reduceDiv, Int.reduceMul] at *
    all_goals first | omega | (split <;> omega)
  obtain ⟨q1, q2⟩ := minute_of (numV h m s f b d) (60 * h + m) _ b d ho (by omega) e1 e2 (by omega)
  refine ⟨?_, by omega, hday⟩
  unfold labV
  rw [Int.emod_eq_of_lt (by omega) hday, q1, q2, show s * b + f - dropV (60 * h + m) b d + dropV (60 * h + m) b d = s * b + f by omega, e4, e5]
  rw [show (60 * h + m) / 60 = h by omega, show (60 * h + m) % 60 = m by omega]

theorem next_label (N b : Int) (d : Bool) (ho : Okb b d = true) (h0 : 0 ≤ N) (h1 : N + 1 < dayV b d) :
    (minV (N + 1) b d = minV N b d ∧ restV (N + 1) b d = restV N b d + 1) ∨ minV (N + 1) b d = minV N b d + 1 := by
  have hT : 0 < tenV b d := by
    rcases okb_cases ho with ⟨rfl, rfl⟩ | ⟨rfl, rfl⟩ | ⟨rfl, rfl⟩ | ⟨rfl, rfl⟩ | ⟨rfl, rfl⟩ | ⟨rfl, rfl⟩ | ⟨rfl, rfl⟩ | ⟨rfl, rfl⟩ <;> decide +kernel
  obtain ⟨q, r, hN, r0, r1⟩ : ∃ q r : Int, N = tenV b d * q + r ∧ 0 ≤ r ∧ r < tenV b d :=
    ⟨N / tenV b d, N % tenV b d, (Int.mul_ediv_add_emod N (tenV b d)).symm, Int.emod_nonneg _ (by omega), Int.emod_lt_of_pos _ hT⟩
  have e1 : N / tenV b d = q ∧ N % tenV b d = r := by
    subst hN
    constructor
    · rw [Int.add_comm, Int.add_mul_ediv_left _ _ (by omega), Int.ediv_eq_zero_of_lt r0 r1]; omega
    · rw [Int.add_comm, Int.add_mul_emod_self_left, Int.emod_eq_of_lt r0 r1]
  by_cases hr : r + 1 < tenV b d
  · have e2 : (N + 1) / tenV b d = q ∧ (N + 1) % tenV b d = r + 1 := by
      subst hN
      rw [show tenV b d * q + r + 1 = (r + 1) + tenV b d * q by omega]
      constructor
      · rw [Int.add_mul_ediv_left _ _ (by omega), Int.ediv_eq_zero_of_lt (by omega) hr]; omega
      · rw [Int.add_mul_emod_self_left, Int.emod_eq_of_lt (by omega) hr]
    unfold minV restV
    rw [e1.1, e1.2, e2.1, e2.2]
    clear e1 e2 hN h0 h1 hT
    rcases okb_cases ho with ⟨rfl, rfl⟩ | ⟨rfl, rfl⟩ | ⟨rfl, rfl⟩ | ⟨rfl, rfl⟩ | ⟨rfl, rfl⟩ | ⟨rfl, rfl⟩ | ⟨rfl, rfl⟩ | ⟨rfl, rfl⟩
    all_goals simp only [tenV, gapV, if_true, Bool.false_eq_true, if_false, Int.reduceDiv, Int.reduceMul, Int.reduceSub] at *
    all_goals (repeat' split) <;> omega
  · have e2 : (N + 1) / tenV b d = q + 1 ∧ (N + 1) % tenV b d = 0 := by
      have : N + 1 = 0 + tenV b d * (q + 1) := by rw [Int.mul_add]; omega
      rw [this]
      constructor
      · rw [Int.add_mul_ediv_left _ _ (by omega)]; simp
      · rw [Int.add_mul_emod_self_left]; simp
    right
    unfold minV
    rw [e1.1, e1.2, e2.1, e2.2]
    have hr' : r = tenV b d - 1 := by omega
    subst hr'
    clear e1 e2 hN h0 h1 hT r0 r1 hr
    rcases okb_cases ho with ⟨rfl, rfl⟩ | ⟨rfl, rfl⟩ | ⟨rfl, rfl⟩ | ⟨rfl, rfl⟩ | ⟨rfl, rfl⟩ | ⟨rfl, rfl⟩ | ⟨rfl, rfl⟩ | ⟨rfl, rfl⟩
    all_goals simp only [tenV, gapV, if_true, Bool.false_eq_true, if_false, Int.reduceDiv, Int.reduceMul, Int.reduceSub]
    all_goals (repeat' split) <;> omega

theorem less_true (h m s f h' m' s' f' b : Int) (d : Bool) (hl : h < h' ∨ (h = h' ∧ (m < m' ∨ (m = m' ∧ (s < s' ∨ (s = s' ∧ f < f')))))) :
    cutroomref19_Less.f h m s f b d h' m' s' f' b d = some true := by
  unfold cutroomref19_Less.f
  rcases hl with hl | ⟨rfl, hl⟩
  · rw [if_neg (by omega), decide_eq_true hl]
  rw [if_pos rfl]
  rcases hl with hl | ⟨rfl, hl⟩
  · rw [if_neg (by omega), decide_eq_true hl]
  rw [if_pos rfl]
  rcases hl with hl | ⟨rfl, hl⟩
  · rw [if_neg (by omega), decide_eq_true hl]
  rw [if_pos rfl, if_neg (by omega), decide_eq_true hl]

theorem less_false (h m s f b : Int) (d : Bool) (h0 : 0 ≤ h) (m0 : 0 ≤ m) (s0 : 0 ≤ s) (f0 : 0 ≤ f) :
    cutroomref19_Less.f h m s f b d 0 0 0 0 b d = some false := by
  unfold cutroomref19_Less.f
  rw [decide_eq_false (show ¬ h < 0 by omega), decide_eq_false (show ¬ m < 0 by omega), decide_eq_false (show ¬ s < 0 by omega), decide_eq_false (show ¬ f < 0 by omega)]
  repeat' split
  all_goals rfl

theorem lab_bd (N b : Int) (d : Bool) (ho : Okb b d = true) (h0 : 0 ≤ N) (h1 : N < dayV b d) : 0 ≤ minV N b d ∧ 0 ≤ restV N b d ∧ 24 ≤ b := by
  unfold minV restV
  rcases okb_cases ho with ⟨rfl, rfl⟩ | ⟨rfl, rfl⟩ | ⟨rfl, rfl⟩ | ⟨rfl, rfl⟩ | ⟨rfl, rfl⟩ | ⟨rfl, rfl⟩ | ⟨rfl, rfl⟩ | ⟨rfl, rfl⟩
  all_goals simp only [tenV, gapV, if_true, Bool.false_eq_true, if_false, Int.reduceDiv, Int.reduceMul, Int.reduceSub]
  all_goals (refine ⟨?_, ?_, by omega⟩ <;> split <;> omega)

theorem order_key (N b : Int) (d : Bool) (ho : Okb b d = true) (h0 : 0 ≤ N) (h1 : N < dayV b d) :
    ∃ l : Bool, cutroomref19_Less.f (minV N b d / 60) (minV N b d % 60) (restV N b d / b) (restV N b d % b) b d
      (minV ((N + 1) % dayV b d) b d / 60) (minV ((N + 1) % dayV b d) b d % 60) (restV ((N + 1) % dayV b d) b d / b) (restV ((N + 1) % dayV b d) b d % b) b d = some l ∧
      ((minV ((N + 1) % dayV b d) b d / 60 == 0 && (minV ((N + 1) % dayV b d) b d % 60 == 0 && (restV ((N + 1) % dayV b d) b d / b == 0 && (restV ((N + 1) % dayV b d) b d % b == 0 && (b == b && (d == d)))))) != l) = true := by
  obtain ⟨b0, b1, b2⟩ := lab_bd N b d ho h0 h1
  by_cases hl : N + 1 < dayV b d
  · rw [Int.emod_eq_of_lt (by omega) hl]
    refine ⟨true, less_true _ _ _ _ _ _ _ _ b d ?_, ?_⟩
    · have hd : ∀ R : Int, 0 ≤ R → R / b < (R + 1) / b ∨ (R / b = (R + 1) / b ∧ R % b < (R + 1) % b) := by
        intro R hR
        rcases okb_cases ho with ⟨rfl, rfl⟩ | ⟨rfl, rfl⟩ | ⟨rfl, rfl⟩ | ⟨rfl, rfl⟩ | ⟨rfl, rfl⟩ | ⟨rfl, rfl⟩ | ⟨rfl, rfl⟩ | ⟨rfl, rfl⟩ <;> omega
      rcases next_label N b d ho h0 hl with ⟨e1, e2⟩ | e1
      · rw [e1, e2]
        exact .inr ⟨rfl, .inr ⟨rfl, hd _ b1⟩⟩
      · rw [e1]
        generalize minV N b d = M at *
        have : M / 60 < (M + 1) / 60 ∨ (M / 60 = (M + 1) / 60 ∧ M % 60 < (M + 1) % 60) := by omega
        rcases this with k | ⟨k1, k2⟩
        · exact .inl k
        · exact .inr ⟨k1, .inl k2⟩
    · have hn := number_of_label (N + 1) b d ho (by omega) hl
      rw [bne_iff_ne]
      intro hc
      simp only [Bool.and_eq_true, beq_iff_eq] at hc
      rw [hc.1, hc.2.1, hc.2.2.1, hc.2.2.2.1] at hn
      have hz : numR 0 0 0 0 b d = (0, 0) ∨ numR 0 0 0 0 b d = (0, 2) := by
        simp only [numR, if_pos ho]
        cases exV 0 0 0 0 b d
        · right; rfl
        · left; simp [numV]
      rcases hz with hz | hz <;> (rw [hz] at hn; simp only [Prod.mk.injEq] at hn; omega)
  · have e : (N + 1) % dayV b d = 0 := by
      have : N + 1 = dayV b d := by omega
      rw [this, Int.emod_self]
    rw [e]
    have m0 : minV 0 b d = 0 ∧ restV 0 b d = 0 := by
      rcases okb_cases ho with ⟨rfl, rfl⟩ | ⟨rfl, rfl⟩ | ⟨rfl, rfl⟩ | ⟨rfl, rfl⟩ | ⟨rfl, rfl⟩ | ⟨rfl, rfl⟩ | ⟨rfl, rfl⟩ | ⟨rfl, rfl⟩ <;> decide +kernel
    rw [m0.1, m0.2]
    simp only [Int.zero_ediv, Int.zero_emod]
    refine ⟨false, less_false _ _ _ _ b d (by omega) (by omega) (Int.ediv_nonneg b1 (by omega)) (Int.emod_nonneg _ (by omega)), ?_⟩
    simp

theorem TimecodeOrder : cutroomlaw19_TimecodeOrder.Pure := by
  intro n b d hn hb
  have bn := b64 hn
  refine Ev.rounds ?_
  unfold cutroomlaw19_TimecodeOrder.f
  by_cases hm : n = 9223372036854775807
  · simp only [if_pos hm]; exact Ev.bind awake_ev (Ev.now _)
  · simp only [if_neg hm]
    rw [w64 (n + 1) (by omega) (by omega)]
    refine Ev.bind (label_ev n b d bn) (Ev.bind (label_ev (n + 1) b d (by omega)) ?_)
    by_cases ho : Okb b d = true
    · obtain ⟨hs, d0, d1⟩ := dayV_start ho
      have g0 := Int.emod_nonneg n (show dayV b d ≠ 0 by omega)
      have g1 := Int.emod_lt_of_pos n d0
      simp only [if_pos ho, labV, if_true, bne_self_eq_false]
      refine Ev.step (f := fun k => _) (fun k => by rw [cutroomlaw19_TimecodeOrder.j0]) ?_
      obtain ⟨l, hl, hc⟩ := order_key (n % dayV b d) b d ho g0 g1
      rw [Int.emod_add_emod] at hl hc
      simp only [Bool.false_eq_true, if_false, hl, Option.bind_some, hc, if_true]
      exact Ev.bind awake_ev (Ev.now _)
    · simp only [if_neg ho]
      refine Ev.step (f := fun k => _) (fun k => by rw [cutroomlaw19_TimecodeOrder.j0]) ?_
      simp only [if_true]
      exact Ev.bind awake_ev (Ev.now _)

end Go.Proofs.Ytfdhjnfpppafaaa.Pure
