/- Pure part of TimecodeFormats: what the printed Go functions compute answers true, for every input. No conditions. -/
import Derived.Test.YtfdhjnfpppafaaaPTimecodeFormatsx9
set_option linter.unusedVariables false
set_option linter.unusedSimpArgs false
namespace Go.Proofs.Ytfdhjnfpppafaaa.Pure
open Go.RowKit Go.Proofs.Ytfdhjnfpppafaaa.PTimecodeFormats Go.Proofs.YtfdhjnfpppafaaaW.PrintWords Go.Proofs.YtfdhjnfpppafaaaW.PrintLast

/-- The bounds of an int64. -/
theorem b64 {n : Int} (h : (Lit.int .i64 n).wf = true) : -9223372036854775808 ≤ n ∧ n ≤ 9223372036854775807 := by
  simpa [Lit.wf, IntKind.min, IntKind.max, IntKind.signed, IntKind.bits] using h
theorem w64 (n : Int) (h1 : -9223372036854775808 ≤ n) (h2 : n ≤ 9223372036854775807) : wrap64 n = n := by unfold wrap64; omega
theorem tdv (a b : Int) (h : 0 ≤ a) : Int.tdiv a b = a / b := Int.tdiv_eq_ediv_of_nonneg h
theorem tmd (a b : Int) (h : 0 ≤ a) : Int.tmod a b = a % b := Int.tmod_eq_emod_of_nonneg h

/-- The known bases. -/
def Kn (b : Int) : Bool := b == 24 || b == 25 || b == 30 || b == 48 || b == 50 || b == 60
/-- A base and a choice of dropping that go together. -/
def Okb (b : Int) (d : Bool) : Bool := Kn b && (!d || b == 30 || b == 60)
/-- The labels that a minute lacks. -/
def gapV (b : Int) (d : Bool) : Int := if d then b / 15 else 0
/-- The labels of ten minutes, and of a day. -/
def tenV (b : Int) (d : Bool) : Int := 600 * b - 9 * gapV b d
def dayV (b : Int) (d : Bool) : Int := 144 * tenV b d

theorem okb_cases {b : Int} {d : Bool} (h : Okb b d = true) :
    (b = 24 ∧ d = false) ∨ (b = 25 ∧ d = false) ∨ (b = 30 ∧ d = false) ∨ (b = 48 ∧ d = false) ∨ (b = 50 ∧ d = false) ∨ (b = 60 ∧ d = false) ∨ (b = 30 ∧ d = true) ∨ (b = 60 ∧ d = true) := by
  cases d <;> simp [Okb, Kn] at h ⊢ <;> omega

theorem isBase_ev (b : Int) : Ev (fun k => timecode_isBase.f k b) (Kn b) := by
  refine Ev.of (timecode_isBase.mono b) (k := 7) ?_
  simp only [timecode_isBase.f, timecode_bases.f, timecode_isBase.l0, Option.bind_some]
  simp [rd, wrap64, Kn]
  by_cases h1 : b = 24
  · simp [h1]
  by_cases h2 : b = 25
  · simp [h2]
  by_cases h3 : b = 30
  · simp [h3]
  by_cases h4 : b = 48
  · simp [h4]
  by_cases h5 : b = 50
  · simp [h5]
  by_cases h6 : b = 60
  · simp [h6]
  simp [h1, h2, h3, h4, h5, h6, Ne.symm h1, Ne.symm h2, Ne.symm h3, Ne.symm h4, Ne.symm h5, Ne.symm h6]

theorem dropped_eq (b : Int) (d : Bool) (h : Okb b d = true) : timecode_dropped.f b d = some (gapV b d) := by
  rcases okb_cases h with ⟨rfl, rfl⟩ | ⟨rfl, rfl⟩ | ⟨rfl, rfl⟩ | ⟨rfl, rfl⟩ | ⟨rfl, rfl⟩ | ⟨rfl, rfl⟩ | ⟨rfl, rfl⟩ | ⟨rfl, rfl⟩ <;> decide +kernel

theorem tenMinutes_eq (b : Int) (d : Bool) (h : Okb b d = true) : timecode_tenMinutes.f b d = some (tenV b d) := by
  rcases okb_cases h with ⟨rfl, rfl⟩ | ⟨rfl, rfl⟩ | ⟨rfl, rfl⟩ | ⟨rfl, rfl⟩ | ⟨rfl, rfl⟩ | ⟨rfl, rfl⟩ | ⟨rfl, rfl⟩ | ⟨rfl, rfl⟩ <;> decide +kernel

theorem canDrop_eq (b : Int) : timecode_CanDrop.f b = some (b == 30 || b == 60) := by
  simp only [timecode_CanDrop.f]
  split
  all_goals simp_all

theorem day_ev (b : Int) (d : Bool) : Ev (fun k => timecode_Day.f k b d) (if Okb b d then (dayV b d, 0) else (0, 1)) := by
  unfold timecode_Day.f
  refine Ev.bind (isBase_ev b) ?_
  by_cases hk : Kn b = true
  · by_cases ho : Okb b d = true
    · rw [if_pos hk, if_pos ho, tenMinutes_eq b d ho, canDrop_eq]
      have hw : wrap64 (144 * tenV b d) = dayV b d := by
        rcases okb_cases ho with ⟨rfl, rfl⟩ | ⟨rfl, rfl⟩ | ⟨rfl, rfl⟩ | ⟨rfl, rfl⟩ | ⟨rfl, rfl⟩ | ⟨rfl, rfl⟩ | ⟨rfl, rfl⟩ | ⟨rfl, rfl⟩ <;> decide +kernel
      simp only [Option.bind_some, hw]
      cases d
      · exact Ev.now _
      · have : (b == 30 || b == 60) = true := by simpa [Okb, hk] using ho
        rw [this]
        exact Ev.now _
    · rw [if_pos hk, if_neg ho, canDrop_eq]
      cases d
      · exact absurd (by simp [Okb, hk]) ho
      · have : (b == 30 || b == 60) = false := by
          rw [Bool.eq_false_iff]; intro h; exact ho (by simpa [Okb, hk] using h)
        simp only [Option.bind_some, this]
        exact Ev.now _
  · rw [if_neg hk, if_neg (by simp [Okb, hk])]
    exact Ev.now _

/-- Frame number n of the day: its minute, and what is left in the minute, the gap counted. -/
def minV (N b : Int) (d : Bool) : Int := 10 * (N / tenV b d) + (if N % tenV b d ≥ 60 * b then 1 + (N % tenV b d - 60 * b) / (60 * b - gapV b d) else 0)
def restV (N b : Int) (d : Bool) : Int := if N % tenV b d ≥ 60 * b then (N % tenV b d - 60 * b) % (60 * b - gapV b d) + gapV b d else N % tenV b d

/-- The label of frame n. -/
def labV (n b : Int) (d : Bool) : Int × Int × Int × Int × Int × Bool × Int :=
  (minV (n % dayV b d) b d / 60, minV (n % dayV b d) b d % 60, restV (n % dayV b d) b d / b, restV (n % dayV b d) b d % b, b, d, 0)

theorem within_eq (n m : Int) (hn : -9223372036854775808 ≤ n ∧ n ≤ 9223372036854775807) (hm : 0 < m) (hm2 : m ≤ 9223372036854775807) : timecode_within.f n m = some (n % m) := by
  unfold timecode_within.f
  rw [if_neg (by omega)]
  have h1 := Int.tmod_add_mul_tdiv n m
  have h2 : n % m = (Int.tmod n m) % m := by
    conv => lhs; rw [← h1]
    rw [Int.add_mul_emod_self_left]
  by_cases hs : 0 ≤ n
  · rw [tmd n m hs, if_neg (by have := Int.emod_nonneg n (show m ≠ 0 by omega); omega)]
  · have h3 : Int.tmod n m ≤ 0 := by
      have := Int.tmod_nonneg m (show 0 ≤ -n by omega)
      rw [Int.neg_tmod] at this; omega
    have h4 : -m < Int.tmod n m := by
      have := Int.tmod_lt_of_pos (-n) hm
      rw [Int.neg_tmod] at this; omega
    by_cases hz : Int.tmod n m < 0
    · rw [if_pos hz, w64 _ (by omega) (by omega), h2]
      congr 1
      rw [← Int.add_emod_right, Int.emod_eq_of_lt (by omega) (by omega)]
    · have h0 : Int.tmod n m = 0 := by omega
      rw [if_neg hz, h2, h0]; simp

theorem label_ev (n b : Int) (d : Bool) (hn : -9223372036854775808 ≤ n ∧ n ≤ 9223372036854775807) :
    Ev (fun k => timecode_Label.f k n b d) (if Okb b d then labV n b d else (0, 0, 0, 0, 0, false, 1)) := by
  unfold timecode_Label.f
  refine Ev.bind (day_ev b d) ?_
  by_cases ho : Okb b d = true
  · have hd : 0 < dayV b d ∧ dayV b d ≤ 9223372036854775807 := by
      rcases okb_cases ho with ⟨rfl, rfl⟩ | ⟨rfl, rfl⟩ | ⟨rfl, rfl⟩ | ⟨rfl, rfl⟩ | ⟨rfl, rfl⟩ | ⟨rfl, rfl⟩ | ⟨rfl, rfl⟩ | ⟨rfl, rfl⟩ <;> decide
    simp only [if_pos ho, if_true, within_eq n _ hn hd.1 hd.2, dropped_eq b d ho, tenMinutes_eq b d ho, Option.bind_some]
    unfold labV
    have h0 := Int.emod_nonneg n (show dayV b d ≠ 0 by omega)
    have h1 := Int.emod_lt_of_pos n hd.1
    clear hd
    generalize n % dayV b d = N at *
    rcases okb_cases ho with ⟨rfl, rfl⟩ | ⟨rfl, rfl⟩ | ⟨rfl, rfl⟩ | ⟨rfl, rfl⟩ | ⟨rfl, rfl⟩ | ⟨rfl, rfl⟩ | ⟨rfl, rfl⟩ | ⟨rfl, rfl⟩ <;>
    · simp only [dayV, tenV, gapV, if_true, Bool.false_eq_true, if_false, Int.reduceMul, Int.reduceSub, Int.reduceDiv] at h1
      refine Ev.congr (f := fun _ => some _) (fun k => ?_) (Ev.now _)
      simp (disch := omega) only [minV, restV, tenV, gapV, if_true, Bool.false_eq_true, if_false, w64, tdv, tmd, Int.reduceMul, Int.reduceSub, Int.reduceAdd, Int.reduceDiv, Int.reduceEq]
      split
      · try simp (disch := omega) only [w64, tdv, tmd]
        simp only [Option.some.injEq, Prod.mk.injEq, and_true, true_and]
        omega
      · try simp (disch := omega) only [w64, tdv, tmd]
        simp only [Option.some.injEq, Prod.mk.injEq, and_true, true_and]
        omega
  · simp only [if_neg ho, if_false]
    exact Ev.now _

/-- The labels that minute m of the day lacks. -/
def dropV (m b : Int) (d : Bool) : Int := if d then (if m % 10 = 0 then 0 else b / 15) else 0
/-- The number of the labels before minute m. -/
def startV (m b : Int) (d : Bool) : Int := 60 * b * m - gapV b d * (m - (m + 9) / 10)

theorem minute_of (N m x b : Int) (d : Bool) (h : Okb b d = true) (hm : 0 ≤ m) (hN : N = startV m b d + x) (h0 : 0 ≤ x) (h1 : x < 60 * b - dropV m b d) :
    minV N b d = m ∧ restV N b d = x + dropV m b d := by
  obtain ⟨q, r, rfl, hr0, hr1⟩ : ∃ q r : Int, m = 10 * q + r ∧ 0 ≤ r ∧ r < 10 := ⟨m / 10, m % 10, by omega, by omega, by omega⟩
  rcases okb_cases h with ⟨rfl, rfl⟩ | ⟨rfl, rfl⟩ | ⟨rfl, rfl⟩ | ⟨rfl, rfl⟩ | ⟨rfl, rfl⟩ | ⟨rfl, rfl⟩ | ⟨rfl, rfl⟩ | ⟨rfl, rfl⟩
  all_goals simp only [minV, restV, startV, dropV, tenV, gapV, if_true, Bool.false_eq_true, if_false, Int.reduceMul, Int.reduceSub, Int.reduceDiv] at *
  case inr.inr.inr.inr.inr.inr.inl =>
    by_cases hz : r = 0
    · subst hz
      have e : (10 * q + 0) % 10 = 0 := by omega
      simp only [e, if_true] at h1 ⊢
      have hq : N / 17982 = q := by omega
      have hr : N % 17982 = x := by omega
      rw [hq, hr, if_neg (by omega), if_neg (by omega)]
      omega
    · have e : ¬ (10 * q + r) % 10 = 0 := by omega
      simp only [e, if_false] at h1 ⊢
      have hq : N / 17982 = q := by omega
      have hr : N % 17982 = 1800 + 1798 * (r - 1) + x := by omega
      rw [hq, hr, if_pos (by omega), if_pos (by omega)]
      omega
  case inr.inr.inr.inr.inr.inr.inr =>
    by_cases hz : r = 0
    · subst hz
      have e : (10 * q + 0) % 10 = 0 := by omega
      simp only [e, if_true] at h1 ⊢
      have hq : N / 35964 = q := by omega
      have hr : N % 35964 = x := by omega
      rw [hq, hr, if_neg (by omega), if_neg (by omega)]
      omega
    · have e : ¬ (10 * q + r) % 10 = 0 := by omega
      simp only [e, if_false] at h1 ⊢
      have hq : N / 35964 = q := by omega
      have hr : N % 35964 = 3600 + 3596 * (r - 1) + x := by omega
      rw [hq, hr, if_pos (by omega), if_pos (by omega)]
      omega
  all_goals (constructor <;> split <;> omega)

theorem start_succ (m b : Int) (d : Bool) (h : Okb b d = true) (hm : 0 ≤ m) : startV (m + 1) b d = startV m b d + (60 * b - dropV m b d) := by
  rcases okb_cases h with ⟨rfl, rfl⟩ | ⟨rfl, rfl⟩ | ⟨rfl, rfl⟩ | ⟨rfl, rfl⟩ | ⟨rfl, rfl⟩ | ⟨rfl, rfl⟩ | ⟨rfl, rfl⟩ | ⟨rfl, rfl⟩
  all_goals simp only [startV, dropV, gapV, if_true, Bool.false_eq_true, if_false, Int.reduceMul, Int.reduceSub, Int.reduceDiv]
  all_goals first | omega | (split <;> omega)

theorem start_bd (m b : Int) (d : Bool) (h : Okb b d = true) (hm : 0 ≤ m) (hm2 : m ≤ 1440) : 0 ≤ startV m b d ∧ startV m b d ≤ 5184000 := by
  rcases okb_cases h with ⟨rfl, rfl⟩ | ⟨rfl, rfl⟩ | ⟨rfl, rfl⟩ | ⟨rfl, rfl⟩ | ⟨rfl, rfl⟩ | ⟨rfl, rfl⟩ | ⟨rfl, rfl⟩ | ⟨rfl, rfl⟩
  all_goals simp only [startV, gapV, if_true, Bool.false_eq_true, if_false, Int.reduceMul, Int.reduceDiv]
  all_goals omega

theorem okb_bd {b : Int} {d : Bool} (h : Okb b d = true) (m : Int) : 24 ≤ b ∧ b ≤ 60 ∧ 0 ≤ dropV m b d ∧ dropV m b d ≤ 4 := by
  rcases okb_cases h with ⟨rfl, rfl⟩ | ⟨rfl, rfl⟩ | ⟨rfl, rfl⟩ | ⟨rfl, rfl⟩ | ⟨rfl, rfl⟩ | ⟨rfl, rfl⟩ | ⟨rfl, rfl⟩ | ⟨rfl, rfl⟩
  all_goals simp only [dropV, if_true, Bool.false_eq_true, if_false, Int.reduceDiv]
  all_goals first | omega | (split <;> omega)

theorem dayV_start {b : Int} {d : Bool} (h : Okb b d = true) : dayV b d = startV 1440 b d ∧ 0 < dayV b d ∧ dayV b d ≤ 5184000 := by
  rcases okb_cases h with ⟨rfl, rfl⟩ | ⟨rfl, rfl⟩ | ⟨rfl, rfl⟩ | ⟨rfl, rfl⟩ | ⟨rfl, rfl⟩ | ⟨rfl, rfl⟩ | ⟨rfl, rfl⟩ | ⟨rfl, rfl⟩ <;> decide +kernel


theorem known_eq (b : Int) : cutroomref19_Known.f b = some (Kn b) := by
  simp only [cutroomref19_Known.f, Kn]
  repeat' split
  all_goals simp_all


theorem rdropped_eq (m b : Int) (d : Bool) (hm : 0 ≤ m) (h : Okb b d = true) : cutroomref19_dropped.f m b d = some (dropV m b d) := by
  rcases okb_cases h with ⟨rfl, rfl⟩ | ⟨rfl, rfl⟩ | ⟨rfl, rfl⟩ | ⟨rfl, rfl⟩ | ⟨rfl, rfl⟩ | ⟨rfl, rfl⟩ | ⟨rfl, rfl⟩ | ⟨rfl, rfl⟩
  all_goals first | rfl | (unfold cutroomref19_dropped.f dropV; rw [tmd _ _ hm]; simp only [if_true]; split <;> decide +kernel)

theorem rday_loop (b : Int) (d : Bool) (h : Okb b d = true) (t : Nat) :
    ∀ m : Int, 0 ≤ m → m + t = 1440 → Ev (fun k => cutroomref19_Day.l0 k b d (startV m b d) m) (dayV b d, 0) := by
  induction t with
  | zero =>
    intro m hm ht
    refine Ev.step (f := fun k => _) (fun k => by rw [cutroomref19_Day.l0]) ?_
    have : m = 1440 := by omega
    subst this
    simp only [if_neg (show ¬ (1440 : Int) < 1440 by omega), (dayV_start h).1]
    exact Ev.now _
  | succ t ih =>
    intro m hm ht
    have hb := okb_bd h m
    have hs := start_bd m b d h hm (by omega)
    have hu := start_succ m b d h hm
    refine Ev.step (f := fun k => _) (fun k => by rw [cutroomref19_Day.l0]) ?_
    simp only [if_pos (show m < 1440 by omega), rdropped_eq m b d hm h, Option.bind_some]
    rw [w64 (60 * b) (by omega) (by omega), w64 (startV m b d + 60 * b) (by omega) (by omega), w64 _ (by omega) (by omega), w64 (m + 1) (by omega) (by omega)]
    have e : startV m b d + 60 * b - dropV m b d = startV (m + 1) b d := by omega
    rw [e]
    exact ih (m + 1) (by omega) (by omega)

theorem rday_ev (b : Int) (d : Bool) : Ev (fun k => cutroomref19_Day.f k b d) (if Okb b d then (dayV b d, 0) else (0, 1)) := by
  unfold cutroomref19_Day.f
  simp only [known_eq, Option.bind_some]
  have h0 : startV 0 b d = 0 := by simp [startV]
  by_cases ho : Okb b d = true
  · have hl := rday_loop b d ho 1440 0 (by omega) (by omega)
    rw [h0] at hl
    have hk : Kn b = true := by
      cases hk : Kn b
      · simp [Okb, hk] at ho
      · rfl
    have hj : Ev (fun k => cutroomref19_Day.j0 k b d false) (dayV b d, 0) := by
      refine Ev.step (f := fun k => cutroomref19_Day.l0 k b d 0 0) (fun k => by rw [cutroomref19_Day.j0]; simp) hl
    rw [if_pos ho]
    simp only [hk, if_true]
    cases d
    · simp only [Bool.false_eq_true, if_false]; exact hj
    · simp only [if_true]
      by_cases h30 : b = 30
      · simp only [if_pos h30]; exact hj
      · have h60 : (b != 60) = false := by
          have : b = 30 ∨ b = 60 := by simpa [Okb, hk] using ho
          have : b = 60 := by omega
          simp [this]
        simp only [if_neg h30, h60]; exact hj
  · have hj : Ev (fun k => cutroomref19_Day.j0 k b d true) (0, 1) := by
      refine Ev.step (f := fun k => some (0, 1)) (fun k => by rw [cutroomref19_Day.j0]; simp) (Ev.now _)
    rw [if_neg ho]
    by_cases hk : Kn b = true
    · simp only [hk, if_true]
      cases d
      · exact absurd (by simp [Okb, hk]) ho
      · have hb : ¬ (b = 30) ∧ (b != 60) = true := by
          constructor
          · rintro rfl; exact ho (by decide)
          · simp only [bne_iff_ne]; rintro rfl; exact ho (by decide)
        simp only [if_true, if_neg hb.1, hb.2]; exact hj
    · simp only [if_neg hk]; exact hj


theorem awake_ev : Ev (fun k => cutroomlaw19_awake.f k) true := by
  refine Ev.of cutroomlaw19_awake.mono (k := 60) ?_
  decide +kernel

/-- Whether a label's numbers are in range, whether it exists, and its number. -/
def inV (h m s f b : Int) : Bool := decide (0 ≤ h ∧ h ≤ 23 ∧ 0 ≤ m ∧ m ≤ 59 ∧ 0 ≤ s ∧ s ≤ 59 ∧ 0 ≤ f ∧ f < b)
def exV (h m s f b : Int) (d : Bool) : Bool := inV h m s f b && decide (m % 10 = 0 ∨ ¬ s = 0 ∨ gapV b d ≤ f)
def numV (h m s f b : Int) (d : Bool) : Int := ((60 * h + m) * 60 + s) * b + f - gapV b d * ((60 * h + m) - (60 * h + m) / 10)
def numR (h m s f b : Int) (d : Bool) : Int × Int := if Okb b d then (if exV h m s f b d then (numV h m s f b d, 0) else (0, 2)) else (0, 1)

theorem in_eq (a b : Int) : timecode_in.f a b = some (decide (0 ≤ a ∧ a < b)) := by
  unfold timecode_in.f
  split
  · congr 1; simp; omega
  · congr 1; symm; simp; omega

theorem gapV_bd {b : Int} {d : Bool} (h : Okb b d = true) : 0 ≤ gapV b d ∧ gapV b d ≤ 4 ∧ 24 ≤ b ∧ b ≤ 60 := by
  rcases okb_cases h with ⟨rfl, rfl⟩ | ⟨rfl, rfl⟩ | ⟨rfl, rfl⟩ | ⟨rfl, rfl⟩ | ⟨rfl, rfl⟩ | ⟨rfl, rfl⟩ | ⟨rfl, rfl⟩ | ⟨rfl, rfl⟩ <;> decide +kernel

theorem number_body (h m s f b : Int) (d : Bool) (ho : Okb b d = true) (h0 : 0 ≤ h) (h1 : h ≤ 23) (m0 : 0 ≤ m) (m1 : m ≤ 59) (s0 : 0 ≤ s) (s1 : s ≤ 59) (f0 : 0 ≤ f) (f1 : f < b) :
    wrap64 ((wrap64 ((wrap64 ((wrap64 ((wrap64 ((wrap64 ((wrap64 (h * 60)) + m)) * 60)) + s)) * b)) + f)) - (wrap64 (gapV b d * (wrap64 ((wrap64 ((wrap64 (h * 60)) + m)) - (wrap64 (Int.tdiv (wrap64 ((wrap64 (h * 60)) + m)) 10))))))) = numV h m s f b d := by
  rcases okb_cases ho with ⟨rfl, rfl⟩ | ⟨rfl, rfl⟩ | ⟨rfl, rfl⟩ | ⟨rfl, rfl⟩ | ⟨rfl, rfl⟩ | ⟨rfl, rfl⟩ | ⟨rfl, rfl⟩ | ⟨rfl, rfl⟩
  all_goals
    simp only [numV, gapV, if_true, Bool.false_eq_true, if_false, Int.reduceDiv]
    simp (disch := omega) only [w64, tdv]
    omega

theorem number_j0 (h m s f b : Int) (d : Bool) (ho : Okb b d = true) (h0 : 0 ≤ h) (h1 : h ≤ 23) (m0 : 0 ≤ m) (m1 : m ≤ 59) (s0 : 0 ≤ s) (s1 : s ≤ 59) (c : Bool) (hc : c = decide (0 ≤ f ∧ f < b)) :
    Ev (fun k => timecode_Number.j0 k (!c) h m s f b d) (if exV h m s f b d then (numV h m s f b d, 0) else (0, 2)) := by
  refine Ev.step (f := fun k => _) (fun k => by rw [timecode_Number.j0]) ?_
  by_cases hf : 0 ≤ f ∧ f < b
  · rw [decide_eq_true hf] at hc
    subst hc
    simp only [Bool.not_true, Bool.false_eq_true, if_false, dropped_eq b d ho, Option.bind_some, number_body h m s f b d ho h0 h1 m0 m1 s0 s1 hf.1 hf.2, tmd m 10 m0]
    have hi : inV h m s f b = true := decide_eq_true ⟨h0, h1, m0, m1, s0, s1, hf.1, hf.2⟩
    by_cases e1 : m % 10 = 0
    · simp only [if_pos e1, exV, hi, e1, true_or, decide_true, Bool.and_self, if_true]; exact Ev.now _
    · by_cases e2 : s = 0
      · by_cases e3 : f < gapV b d
        · have : ¬ gapV b d ≤ f := by omega
          simp only [if_neg e1, if_pos e2, if_pos e3, exV, hi, e1, e2, this, not_true, or_self, decide_false, Bool.and_false, Bool.false_eq_true, if_false]; exact Ev.now _
        · have : gapV b d ≤ f := by omega
          simp only [if_neg e1, if_pos e2, if_neg e3, exV, hi, this, or_true, decide_true, Bool.and_self, if_true]; exact Ev.now _
      · simp only [if_neg e1, if_neg e2, exV, hi, e2, not_false_eq_true, true_or, or_true, decide_true, Bool.and_self, if_true]; exact Ev.now _
  · rw [decide_eq_false hf] at hc
    subst hc
    have hi : inV h m s f b = false := decide_eq_false (by omega)
    simp only [Bool.not_false, if_true, exV, hi, Bool.false_and, Bool.false_eq_true, if_false]
    exact Ev.now _

theorem number_no (h m s f b : Int) (d : Bool) (hi : inV h m s f b = false) :
    Ev (fun k => timecode_Number.j0 k true h m s f b d) (if exV h m s f b d then (numV h m s f b d, 0) else (0, 2)) := by
  refine Ev.step (f := fun k => _) (fun k => by rw [timecode_Number.j0]) ?_
  simp only [if_true, exV, hi, Bool.false_and, Bool.false_eq_true, if_false]
  exact Ev.now _

theorem number_ev (h m s f b : Int) (d : Bool) : Ev (fun k => timecode_Number.f k h m s f b d) (numR h m s f b d) := by
  unfold timecode_Number.f numR
  refine Ev.bind (day_ev b d) ?_
  by_cases ho : Okb b d = true
  · simp only [if_pos ho, if_true, in_eq, Option.bind_some]
    by_cases c1 : 0 ≤ h ∧ h < 24
    · by_cases c2 : 0 ≤ m ∧ m < 60
      · by_cases c3 : 0 ≤ s ∧ s < 60
        · simp only [c1, c2, c3, and_self, decide_true, if_true]
          exact number_j0 h m s f b d ho c1.1 (by omega) c2.1 (by omega) c3.1 (by omega) _ rfl
        · simp only [c1, c2, decide_eq_false c3, and_self, decide_true, if_true, Bool.false_eq_true, if_false]
          exact number_no h m s f b d (decide_eq_false (by omega))
      · simp only [c1, decide_eq_false c2, and_self, decide_true, if_true, Bool.false_eq_true, if_false]
        exact number_no h m s f b d (decide_eq_false (by omega))
    · simp only [decide_eq_false c1, Bool.false_eq_true, if_false]
      exact number_no h m s f b d (decide_eq_false (by omega))
  · simp only [if_neg ho]
    exact Ev.now _

theorem rnumber_loop (h m s f b : Int) (d : Bool) (ho : Okb b d = true) (h0 : 0 ≤ h) (h1 : h ≤ 23) (m0 : 0 ≤ m) (m1 : m ≤ 59) (s0 : 0 ≤ s) (s1 : s ≤ 59) (f0 : 0 ≤ f) (f1 : f < b) (t : Nat) :
    ∀ x : Int, 0 ≤ x → x + t = 60 * h + m → Ev (fun k => cutroomref19_Number.l0 k (60 * h + m) (startV x b d) x h m s f b d) (numV h m s f b d, 0) := by
  induction t with
  | zero =>
    intro x hx ht
    refine Ev.step (f := fun k => _) (fun k => by rw [cutroomref19_Number.l0]) ?_
    have : x = 60 * h + m := by omega
    subst this
    simp only [if_neg (show ¬ 60 * h + m < 60 * h + m by omega), rdropped_eq _ b d hx ho, Option.bind_some]
    refine Ev.congr (f := fun _ => some _) (fun k => ?_) (Ev.now _)
    have e : numV h m s f b d = startV (60 * h + m) b d + (s * b + f) - dropV (60 * h + m) b d ∧ 0 ≤ s * b + f ∧ s * b + f ≤ 5000 := by
      rcases okb_cases ho with ⟨rfl, rfl⟩ | ⟨rfl, rfl⟩ | ⟨rfl, rfl⟩ | ⟨rfl, rfl⟩ | ⟨rfl, rfl⟩ | ⟨rfl, rfl⟩ | ⟨rfl, rfl⟩ | ⟨rfl, rfl⟩
      all_goals simp only [numV, startV, dropV, gapV, if_true, Bool.false_eq_true, if_false, Int.reduceDiv, Int.reduceMul]
      all_goals refine ⟨?_, by omega, by omega⟩
      all_goals first | omega | (split <;> omega)
    have hb := okb_bd ho (60 * h + m)
    have hs := start_bd (60 * h + m) b d ho (by omega) (by omega)
    rw [e.1]
    have a1 : 0 ≤ s * b := Int.mul_nonneg s0 (by omega)
    rw [w64 (s * b) (by omega) (by omega), w64 (s * b + f) (by omega) (by omega), w64 (startV _ b d + _) (by omega) (by omega), w64 _ (by omega) (by omega)]
  | succ t ih =>
    intro x hx ht
    have hb := okb_bd ho x
    have hs := start_bd x b d ho hx (by omega)
    have hu := start_succ x b d ho hx
    refine Ev.step (f := fun k => _) (fun k => by rw [cutroomref19_Number.l0]) ?_
    simp only [if_pos (show x < 60 * h + m by omega), rdropped_eq x b d hx ho, Option.bind_some]
    rw [w64 (60 * b) (by omega) (by omega), w64 (startV x b d + 60 * b) (by omega) (by omega), w64 _ (by omega) (by omega), w64 (x + 1) (by omega) (by omega)]
    have e : startV x b d + 60 * b - dropV x b d = startV (x + 1) b d := by omega
    rw [e]
    exact ih (x + 1) (by omega) (by omega)

theorem rnumber_no (h m s f b : Int) (d : Bool) (hi : inV h m s f b = false) :
    Ev (fun k => cutroomref19_Number.j0 k true h m s f b d) (if exV h m s f b d then (numV h m s f b d, 0) else (0, 2)) := by
  refine Ev.step (f := fun k => _) (fun k => by rw [cutroomref19_Number.j0]) ?_
  simp only [if_true, exV, hi, Bool.false_and, Bool.false_eq_true, if_false]
  exact Ev.now _

theorem rnumber_yes (h m s f b : Int) (d : Bool) (ho : Okb b d = true) (h0 : 0 ≤ h) (h1 : h ≤ 23) (m0 : 0 ≤ m) (m1 : m ≤ 59) (s0 : 0 ≤ s) (s1 : s ≤ 59) (f0 : 0 ≤ f) (f1 : f < b) :
    Ev (fun k => cutroomref19_Number.j0 k false h m s f b d) (if exV h m s f b d then (numV h m s f b d, 0) else (0, 2)) := by
  have hi : inV h m s f b = true := decide_eq_true ⟨h0, h1, m0, m1, s0, s1, f0, f1⟩
  have hl := rnumber_loop h m s f b d ho h0 h1 m0 m1 s0 s1 f0 f1 (60 * h + m).toNat 0 (by omega) (by omega)
  rw [show startV 0 b d = 0 by simp [startV]] at hl
  have ew : wrap64 ((wrap64 (h * 60)) + m) = 60 * h + m := by rw [w64 (h * 60) (by omega) (by omega), w64 _ (by omega) (by omega)]; omega
  have hy : Ev (fun k => cutroomref19_Number.j1 k (60 * h + m) false h m s f b d) (numV h m s f b d, 0) := by
    refine Ev.step (f := fun k => _) (fun k => by rw [cutroomref19_Number.j1]) ?_
    simp only [Bool.false_eq_true, if_false]; exact hl
  refine Ev.step (f := fun k => _) (fun k => by rw [cutroomref19_Number.j0]) ?_
  simp only [Bool.false_eq_true, if_false, ew]
  by_cases e2 : s = 0
  · simp only [if_pos e2, rdropped_eq (60 * h + m) b d (by omega) ho, Option.bind_some]
    have hd : dropV (60 * h + m) b d = if m % 10 = 0 then 0 else gapV b d := by
      cases d
      · simp [dropV, gapV]
      · simp only [dropV, gapV, if_true]
        rw [show (60 * h + m) % 10 = m % 10 by omega]
    by_cases e3 : f < dropV (60 * h + m) b d
    · rw [decide_eq_true e3]
      refine Ev.step (f := fun k => _) (fun k => by rw [cutroomref19_Number.j1]) ?_
      simp only [if_true]
      have : exV h m s f b d = false := by
        rw [hd] at e3
        by_cases e1 : m % 10 = 0
        · rw [if_pos e1] at e3; omega
        · rw [if_neg e1] at e3
          simp only [exV, hi, Bool.true_and]
          exact decide_eq_false (by omega)
      simp only [this, Bool.false_eq_true, if_false]
      exact Ev.now _
    · rw [decide_eq_false e3]
      have : exV h m s f b d = true := by
        rw [hd] at e3
        simp only [exV, hi, Bool.true_and]
        refine decide_eq_true ?_
        by_cases e1 : m % 10 = 0
        · exact .inl e1
        · rw [if_neg e1] at e3; omega
      simp only [this, if_true]
      exact hy
  · have : exV h m s f b d = true := by
      simp only [exV, hi, Bool.true_and]
      exact decide_eq_true (.inr (.inl e2))
    simp only [if_neg e2, this, if_true]
    exact hy

theorem rnumber_ev (h m s f b : Int) (d : Bool) : Ev (fun k => cutroomref19_Number.f k h m s f b d) (numR h m s f b d) := by
  unfold cutroomref19_Number.f numR
  refine Ev.bind (rday_ev b d) ?_
  by_cases ho : Okb b d = true
  · simp only [if_pos ho, if_true]
    by_cases c1 : h < 0
    · simp only [if_pos c1]; exact rnumber_no h m s f b d (decide_eq_false (by omega))
    by_cases c2 : h > 23
    · simp only [if_neg c1, if_pos c2]; exact rnumber_no h m s f b d (decide_eq_false (by omega))
    by_cases c3 : m < 0
    · simp only [if_neg c1, if_neg c2, if_pos c3]; exact rnumber_no h m s f b d (decide_eq_false (by omega))
    by_cases c4 : m > 59
    · simp only [if_neg c1, if_neg c2, if_neg c3, if_pos c4]; exact rnumber_no h m s f b d (decide_eq_false (by omega))
    by_cases c5 : s < 0
    · simp only [if_neg c1, if_neg c2, if_neg c3, if_neg c4, if_pos c5]; exact rnumber_no h m s f b d (decide_eq_false (by omega))
    by_cases c6 : s > 59
    · simp only [if_neg c1, if_neg c2, if_neg c3, if_neg c4, if_neg c5, if_pos c6]; exact rnumber_no h m s f b d (decide_eq_false (by omega))
    by_cases c7 : f < 0
    · simp only [if_neg c1, if_neg c2, if_neg c3, if_neg c4, if_neg c5, if_neg c6, if_pos c7]; exact rnumber_no h m s f b d (decide_eq_false (by omega))
    simp only [if_neg c1, if_neg c2, if_neg c3, if_neg c4, if_neg c5, if_neg c6, if_neg c7]
    by_cases c8 : f ≥ b
    · rw [decide_eq_true c8]; exact rnumber_no h m s f b d (decide_eq_false (by omega))
    · rw [decide_eq_false c8]; exact rnumber_yes h m s f b d ho (by omega) (by omega) (by omega) (by omega) (by omega) (by omega) (by omega) (by omega)
  · simp only [if_neg ho]
    exact Ev.now _

/-- The two digits of a number, and the text of a timecode. -/
def dg (x : Int) : UInt8 × UInt8 := (UInt8.ofNat (48 + x / 10).toNat, UInt8.ofNat (48 + x % 10).toNat)
def textV (h m s f : Int) (c : UInt8) : ByteArray := ⟨#[(dg h).1, (dg h).2, 58, (dg m).1, (dg m).2, 58, (dg s).1, (dg s).2, c, (dg f).1, (dg f).2]⟩
def twoV (x : Int) : ByteArray := ⟨#[(dg x).1, (dg x).2]⟩

theorem str_two (x y : Int) : strOfNums [x, y] = ⟨#[UInt8.ofNat x.toNat, UInt8.ofNat y.toNat]⟩ := by
  apply ByteArray.ext
  simp [strOfNums]

theorem two_eq (x : Int) (h0 : 0 ≤ x) (h1 : x ≤ 99) : timecode_two.f x = some (twoV x) := by
  unfold timecode_two.f
  rw [tdv x 10 h0, tmd x 10 h0, w64 (x / 10) (by omega) (by omega), w64 (48 + x / 10) (by omega) (by omega), w64 (48 + x % 10) (by omega) (by omega), Int.emod_eq_of_lt (a := 48 + x / 10) (by omega) (by omega), Int.emod_eq_of_lt (a := 48 + x % 10) (by omega) (by omega), str_two]
  rfl

theorem rtwo_eq (x : Int) (h0 : 0 ≤ x) (h1 : x ≤ 99) : cutroomref19_two.f x = some (twoV x) := by
  unfold cutroomref19_two.f
  rw [if_pos ⟨h0, h1⟩, str_two]
  rfl

theorem text_eq (h m s f : Int) (c : UInt8) : ((((((twoV h ++ (⟨#[58]⟩ : ByteArray)) ++ twoV m) ++ (⟨#[58]⟩ : ByteArray)) ++ twoV s) ++ (⟨#[c]⟩ : ByteArray)) ++ twoV f) = textV h m s f c := by
  apply ByteArray.ext
  simp [twoV, textV, ByteArray.data_append]

theorem size_two (x : Int) : (twoV x).size = 2 := rfl

theorem dg_nat (x : Int) (h0 : 0 ≤ x) (h1 : x ≤ 99) : (((dg x).1.toNat : Nat) : Int) = 48 + x / 10 ∧ (((dg x).2.toNat : Nat) : Int) = 48 + x % 10 := by
  unfold dg
  constructor
  · simp; omega
  · simp; omega

theorem digits_eq (x : Int) (h0 : 0 ≤ x) (h1 : x ≤ 99) : timecode_digits.f (twoV x) = some (x, true) := by
  obtain ⟨e1, e2⟩ := dg_nat x h0 h1
  have b0 : bt (twoV x) 0 = 48 + x / 10 := e1
  have b1 : bt (twoV x) 1 = 48 + x % 10 := e2
  unfold timecode_digits.f
  rw [b0, b1, size_two, if_pos (by decide), if_pos (by decide), if_neg (by omega), if_neg (by omega), if_neg (by omega), if_neg (by omega)]
  congr 2
  omega

theorem format_ev (h m s f b : Int) (d : Bool) (ho : Okb b d = true) (hx : exV h m s f b d = true) :
    Ev (fun k => timecode_Format.f k h m s f b d) (textV h m s f (if d then 59 else 58), 0) ∧ 0 ≤ h ∧ h ≤ 99 ∧ 0 ≤ m ∧ m ≤ 99 ∧ 0 ≤ s ∧ s ≤ 99 ∧ 0 ≤ f ∧ f ≤ 99 := by
  have hi : inV h m s f b = true := by simp only [exV, Bool.and_eq_true] at hx; exact hx.1
  have hr := of_decide_eq_true hi
  have hb := gapV_bd ho
  refine ⟨?_, by omega, by omega, by omega, by omega, by omega, by omega, by omega, by omega⟩
  unfold timecode_Format.f
  refine Ev.bind (number_ev h m s f b d) ?_
  simp only [numR, if_pos ho, hx, if_true]
  have hj : ∀ c : UInt8, Ev (fun k => timecode_Format.j0 k (⟨#[c]⟩ : ByteArray) h m s f b d) (textV h m s f c, 0) := by
    intro c
    refine Ev.step (f := fun k => _) (fun k => by rw [timecode_Format.j0]) ?_
    have sc : (⟨#[c]⟩ : ByteArray).size = 1 := rfl
    simp only [two_eq h (by omega) (by omega), two_eq m (by omega) (by omega), two_eq s (by omega) (by omega), two_eq f (by omega) (by omega), Option.bind_some, size_two, sc, text_eq]
    exact Ev.now _
  cases d
  · exact hj 58
  · exact hj 59

theorem rformat_ev (h m s f b : Int) (d : Bool) (ho : Okb b d = true) (hx : exV h m s f b d = true) :
    Ev (fun k => cutroomref19_Format.f k h m s f b d) (textV h m s f (if d then 59 else 58), 0) := by
  have hi : inV h m s f b = true := by simp only [exV, Bool.and_eq_true] at hx; exact hx.1
  have hr := of_decide_eq_true hi
  have hb := gapV_bd ho
  unfold cutroomref19_Format.f
  refine Ev.bind (rnumber_ev h m s f b d) ?_
  simp only [numR, if_pos ho, hx, if_true]
  have hj : ∀ c : UInt8, Ev (fun k => cutroomref19_Format.j0 k (⟨#[c]⟩ : ByteArray) h m s f b d) (textV h m s f c, 0) := by
    intro c
    refine Ev.step (f := fun k => _) (fun k => by rw [cutroomref19_Format.j0]) ?_
    have sc : (⟨#[c]⟩ : ByteArray).size = 1 := rfl
    simp only [rtwo_eq h (by omega) (by omega), rtwo_eq m (by omega) (by omega), rtwo_eq s (by omega) (by omega), rtwo_eq f (by omega) (by omega), Option.bind_some, size_two, sc, text_eq]
    exact Ev.now _
  cases d
  · exact hj 58
  · exact hj 59

theorem parse_ev (h m s f b : Int) (d : Bool) (ho : Okb b d = true) (hx : exV h m s f b d = true) (hh : 0 ≤ h ∧ h ≤ 99 ∧ 0 ≤ m ∧ m ≤ 99 ∧ 0 ≤ s ∧ s ≤ 99 ∧ 0 ≤ f ∧ f ≤ 99) :
    Ev (fun k => timecode_Parse.f k (textV h m s f (if d then 59 else 58)) b) (h, m, s, f, b, d, 0) := by
  unfold timecode_Parse.f
  have hk : Kn b = true := by cases hk : Kn b <;> simp [Okb, hk] at ho ⊢
  have hkv := isBase_ev b
  rw [hk] at hkv
  have x0 : ∀ c, (textV h m s f c).extract 0 2 = twoV h := fun c => rfl
  have x1 : ∀ c, (textV h m s f c).extract 3 5 = twoV m := fun c => rfl
  have x2 : ∀ c, (textV h m s f c).extract 6 8 = twoV s := fun c => rfl
  have x3 : ∀ c, (textV h m s f c).extract 9 11 = twoV f := fun c => rfl
  have y0 : ∀ c, (textV h m s f c).size = 11 := fun c => rfl
  have y2 : ∀ c, bt (textV h m s f c) 2 = 58 := fun c => rfl
  have y5 : ∀ c, bt (textV h m s f c) 5 = 58 := fun c => rfl
  have y8 : ∀ c, bt (textV h m s f c) 8 = (c.toNat : Int) := fun c => rfl
  simp only [x0, x1, x2, x3, y0, y2, y5, y8, if_true]
  refine Ev.bind hkv ?_
  simp only [if_true, digits_eq h hh.1 hh.2.1, digits_eq m hh.2.2.1 hh.2.2.2.1, digits_eq s hh.2.2.2.2.1 hh.2.2.2.2.2.1, digits_eq f hh.2.2.2.2.2.2.1 hh.2.2.2.2.2.2.2, Option.bind_some]
  have hn := number_ev h m s f b d
  simp only [numR, if_pos ho, hx, if_true] at hn
  cases d
  · have e1 : ¬ (((if false = true then (59 : UInt8) else 58).toNat : Nat) : Int) = 59 := by decide
    have e2 : (((if false = true then (59 : UInt8) else 58).toNat : Nat) : Int) = 58 := by decide
    simp only [if_neg e1, if_pos e2]
    refine Ev.bind hn ?_
    exact Ev.now _
  · have e1 : (((if true = true then (59 : UInt8) else 58).toNat : Nat) : Int) = 59 := by decide
    simp only [if_pos e1]
    refine Ev.bind hn ?_
    exact Ev.now _

theorem TimecodeFormats (h m s f b : Int) (d : Bool) : ∃ k, cutroomlaw19_TimecodeFormats.f k h m s f b d = some true := by
  refine Ev.rounds ?_
  unfold cutroomlaw19_TimecodeFormats.f
  by_cases hg : Okb b d = true ∧ exV h m s f b d = true
  · obtain ⟨ho, hx⟩ := hg
    obtain ⟨hf, hh⟩ := format_ev h m s f b d ho hx
    refine Ev.bind hf (Ev.bind (rformat_ev h m s f b d ho hx) ?_)
    simp only [if_true, bne_self_eq_false]
    refine Ev.step (f := fun k => _) (fun k => by rw [cutroomlaw19_TimecodeFormats.j0]) ?_
    simp only [Bool.false_eq_true, if_false, if_true]
    refine Ev.bind (parse_ev h m s f b d ho hx hh) ?_
    have y0 : ∀ c, ((textV h m s f c).size : Int) = 11 := fun c => rfl
    simp only [if_true, beq_self_eq_true, Bool.and_self, y0]
    exact Ev.bind awake_ev (Ev.now _)
  · have hn : ∃ c, ¬ c = (0 : Int) ∧ (numR h m s f b d).2 = c := by
      unfold numR
      by_cases ho : Okb b d = true
      · have hx : ¬ exV h m s f b d = true := fun hx => hg ⟨ho, hx⟩
        exact ⟨2, by decide, by rw [if_pos ho, if_neg hx]⟩
      · exact ⟨1, by decide, by rw [if_neg ho]⟩
    obtain ⟨c, c0, hc⟩ := hn
    have h1 : Ev (fun k => timecode_Format.f k h m s f b d) ((⟨#[]⟩ : ByteArray), c) := by
      unfold timecode_Format.f
      refine Ev.bind (number_ev h m s f b d) ?_
      simp only [hc, if_neg c0]
      exact Ev.now _
    have h2 : Ev (fun k => cutroomref19_Format.f k h m s f b d) ((⟨#[]⟩ : ByteArray), c) := by
      unfold cutroomref19_Format.f
      refine Ev.bind (rnumber_ev h m s f b d) ?_
      simp only [hc, if_neg c0]
      exact Ev.now _
    refine Ev.bind h1 (Ev.bind h2 ?_)
    simp only [if_true, bne_self_eq_false]
    refine Ev.step (f := fun k => _) (fun k => by rw [cutroomlaw19_TimecodeFormats.j0]) ?_
    simp only [Bool.false_eq_true, if_false, if_neg c0]
    exact Ev.bind awake_ev (Ev.now _)

end Go.Proofs.Ytfdhjnfpppafaaa.Pure
