/- Pure part of TimecodeDrifts: what the printed Go functions compute answers true, for every input. No conditions. -/
import Derived.Test.YtfdhjnfpppafaaaPTimecodeDriftsx10
set_option linter.unusedVariables false
set_option linter.unusedSimpArgs false
namespace Go.Proofs.Ytfdhjnfpppafaaa.Pure
open Go.RowKit Go.Proofs.Ytfdhjnfpppafaaa.PTimecodeDrifts Go.Proofs.YtfdhjnfpppafaaaW.PrintWords Go.Proofs.YtfdhjnfpppafaaaW.PrintLast

/-- The bounds of an int64. -/
theorem b64 {n : Int} (h : (Lit.int .i64 n).wf = true) : -9223372036854775808 ≤ n ∧ n ≤ 9223372036854775807 := by
  simpa [Lit.wf, IntKind.min, IntKind.max, IntKind.signed, IntKind.bits] using h
theorem w64 (n : Int) (h1 : -9223372036854775808 ≤ n) (h2 : n ≤ 9223372036854775807) : wrap64 n = n := by unfold wrap64; omega
theorem tdv (a b : Int) (h : 0 ≤ a) : Int.tdiv a b = a / b := Int.tdiv_eq_ediv_of_nonneg h
theorem tmd (a b : Int) (h : 0 ≤ a) : Int.tmod a b = a % b := Int.tmod_eq_emod_of_nonneg h

/-- The known bases. -/
def Kn (b : Int) : Bool := b == 24 || b == 25 || b == 30 || b == 48 || b == 50 || b == 60
/-- A base and a choice of dropping that go together. -/
def Okb (b : Int) (d : Bool) : Bool := Kn b && (!d || b == 30 || b == 60)
/-- The labels that a minute lacks. -/
def gapV (b : Int) (d : Bool) : Int := if d then b / 15 else 0
/-- The labels of ten minutes, and of a day. -/
def tenV (b : Int) (d : Bool) : Int := 600 * b - 9 * gapV b d
def dayV (b : Int) (d : Bool) : Int := 144 * tenV b d

theorem okb_cases {b : Int} {d : Bool} (h : Okb b d = true) :
    (b = 24 ∧ d = false) ∨ (b = 25 ∧ d = false) ∨ (b = 30 ∧ d = false) ∨ (b = 48 ∧ d = false) ∨ (b = 50 ∧ d = false) ∨ (b = 60 ∧ d = false) ∨ (b = 30 ∧ d = true) ∨ (b = 60 ∧ d = true) := by
  cases d <;> simp [Okb, Kn] at h ⊢ <;> omega

theorem isBase_ev (b : Int) : Ev (fun k => timecode_isBase.f k b) (Kn b) := by
  refine Ev.of (timecode_isBase.mono b) (k := 7) ?_
  simp only [timecode_isBase.f, timecode_bases.f, timecode_isBase.l0, Option.bind_some]
  simp [rd, wrap64, Kn]
  by_cases h1 : b = 24
  · simp [h1]
  by_cases h2 : b = 25
  · simp [h2]
  by_cases h3 : b = 30
  · simp [h3]
  by_cases h4 : b = 48
  · simp [h4]
  by_cases h5 : b = 50
  · simp [h5]
  by_cases h6 : b = 60
  · simp [h6]
  simp [h1, h2, h3, h4, h5, h6, Ne.symm h1, Ne.symm h2, Ne.symm h3, Ne.symm h4, Ne.symm h5, Ne.symm h6]

theorem dropped_eq (b : Int) (d : Bool) (h : Okb b d = true) : timecode_dropped.f b d = some (gapV b d) := by
  rcases okb_cases h with ⟨rfl, rfl⟩ | ⟨rfl, rfl⟩ | ⟨rfl, rfl⟩ | ⟨rfl, rfl⟩ | ⟨rfl, rfl⟩ | ⟨rfl, rfl⟩ | ⟨rfl, rfl⟩ | ⟨rfl, rfl⟩ <;> decide +kernel

theorem tenMinutes_eq (b : Int) (d : Bool) (h : Okb b d = true) : timecode_tenMinutes.f b d = some (tenV b d) := by
  rcases okb_cases h with ⟨rfl, rfl⟩ | ⟨rfl, rfl⟩ | ⟨rfl, rfl⟩ | ⟨rfl, rfl⟩ | ⟨rfl, rfl⟩ | ⟨rfl, rfl⟩ | ⟨rfl, rfl⟩ | ⟨rfl, rfl⟩ <;> decide +kernel

theorem canDrop_eq (b : Int) : timecode_CanDrop.f b = some (b == 30 || b == 60) := by
  simp only [timecode_CanDrop.f]
  split
  all_goals simp_all

theorem day_ev (b : Int) (d : Bool) : Ev (fun k => timecode_Day.f k b d) (if Okb b d then (dayV b d, 0) else (0, 1)) := by
  unfold timecode_Day.f
  refine Ev.bind (isBase_ev b) ?_
  by_cases hk : Kn b = true
  · by_cases ho : Okb b d = true
    · rw [if_pos hk, if_pos ho, tenMinutes_eq b d ho, canDrop_eq]
      have hw : wrap64 (144 * tenV b d) = dayV b d := by
        rcases okb_cases ho with ⟨rfl, rfl⟩ | ⟨rfl, rfl⟩ | ⟨rfl, rfl⟩ | ⟨rfl, rfl⟩ | ⟨rfl, rfl⟩ | ⟨rfl, rfl⟩ | ⟨rfl, rfl⟩ | ⟨rfl, rfl⟩ <;> decide +kernel
      simp only [Option.bind_some, hw]
      cases d
      · exact Ev.now _
      · have : (b == 30 || b == 60) = true := by simpa [Okb, hk] using ho
        rw [this]
        exact Ev.now _
    · rw [if_pos hk, if_neg ho, canDrop_eq]
      cases d
      · exact absurd (by simp [Okb, hk]) ho
      · have : (b == 30 || b == 60) = false := by
          rw [Bool.eq_false_iff]; intro h; exact ho (by simpa [Okb, hk] using h)
        simp only [Option.bind_some, this]
        exact Ev.now _
  · rw [if_neg hk, if_neg (by simp [Okb, hk])]
    exact Ev.now _

/-- Frame number n of the day: its minute, and what is left in the minute, the gap counted. -/
def minV (N b : Int) (d : Bool) : Int := 10 * (N / tenV b d) + (if N % tenV b d ≥ 60 * b then 1 + (N % tenV b d - 60 * b) / (60 * b - gapV b d) else 0)
def restV (N b : Int) (d : Bool) : Int := if N % tenV b d ≥ 60 * b then (N % tenV b d - 60 * b) % (60 * b - gapV b d) + gapV b d else N % tenV b d

/-- The label of frame n. -/
def labV (n b : Int) (d : Bool) : Int × Int × Int × Int × Int × Bool × Int :=
  (minV (n % dayV b d) b d / 60, minV (n % dayV b d) b d % 60, restV (n % dayV b d) b d / b, restV (n % dayV b d) b d % b, b, d, 0)

theorem within_eq (n m : Int) (hn : -9223372036854775808 ≤ n ∧ n ≤ 9223372036854775807) (hm : 0 < m) (hm2 : m ≤ 9223372036854775807) : timecode_within.f n m = some (n % m) := by
  unfold timecode_within.f
  rw [if_neg (by omega)]
  have h1 := Int.tmod_add_mul_tdiv n m
  have h2 : n % m = (Int.tmod n m) % m := by
    conv => lhs; rw [← h1]
    rw [Int.add_mul_emod_self_left]
  by_cases hs : 0 ≤ n
  · rw [tmd n m hs, if_neg (by have := Int.emod_nonneg n (show m ≠ 0 by omega); omega)]
  · have h3 : Int.tmod n m ≤ 0 := by
      have := Int.tmod_nonneg m (show 0 ≤ -n by omega)
      rw [Int.neg_tmod] at this; omega
    have h4 : -m < Int.tmod n m := by
      have := Int.tmod_lt_of_pos (-n) hm
      rw [Int.neg_tmod] at this; omega
    by_cases hz : Int.tmod n m < 0
    · rw [if_pos hz, w64 _ (by omega) (by omega), h2]
      congr 1
      rw [← Int.add_emod_right, Int.emod_eq_of_lt (by omega) (by omega)]
    · have h0 : Int.tmod n m = 0 := by omega
      rw [if_neg hz, h2, h0]; simp

theorem label_ev (n b : Int) (d : Bool) (hn : -9223372036854775808 ≤ n ∧ n ≤ 9223372036854775807) :
    Ev (fun k => timecode_Label.f k n b d) (if Okb b d then labV n b d else (0, 0, 0, 0, 0, false, 1)) := by
  unfold timecode_Label.f
  refine Ev.bind (day_ev b d) ?_
  by_cases ho : Okb b d = true
  · have hd : 0 < dayV b d ∧ dayV b d ≤ 9223372036854775807 := by
      rcases okb_cases ho with ⟨rfl, rfl⟩ | ⟨rfl, rfl⟩ | ⟨rfl, rfl⟩ | ⟨rfl, rfl⟩ | ⟨rfl, rfl⟩ | ⟨rfl, rfl⟩ | ⟨rfl, rfl⟩ | ⟨rfl, rfl⟩ <;> decide
    simp only [if_pos ho, if_true, within_eq n _ hn hd.1 hd.2, dropped_eq b d ho, tenMinutes_eq b d ho, Option.bind_some]
    unfold labV
    have h0 := Int.emod_nonneg n (show dayV b d ≠ 0 by omega)
    have h1 := Int.emod_lt_of_pos n hd.1
    clear hd
    generalize n % dayV b d = N at *
    rcases okb_cases ho with ⟨rfl, rfl⟩ | ⟨rfl, rfl⟩ | ⟨rfl, rfl⟩ | ⟨rfl, rfl⟩ | ⟨rfl, rfl⟩ | ⟨rfl, rfl⟩ | ⟨rfl, rfl⟩ | ⟨rfl, rfl⟩ <;>
    · simp only [dayV, tenV, gapV, if_true, Bool.false_eq_true, if_false, Int.reduceMul, Int.reduceSub, Int.reduceDiv] at h1
      refine Ev.congr (f := fun _ => some _) (fun k => ?_) (Ev.now _)
      simp (disch := omega) only [minV, restV, tenV, gapV, if_true, Bool.false_eq_true, if_false, w64, tdv, tmd, Int.reduceMul, Int.reduceSub, Int.reduceAdd, Int.reduceDiv, Int.reduceEq]
      split
      · try simp (disch := omega) only [w64, tdv, tmd]
        simp only [Option.some.injEq, Prod.mk.injEq, and_true, true_and]
        omega
      · try simp (disch := omega) only [w64, tdv, tmd]
        simp only [Option.some.injEq, Prod.mk.injEq, and_true, true_and]
        omega
  · simp only [if_neg ho, if_false]
    exact Ev.now _

/-- The labels that minute m of the day lacks. -/
def dropV (m b : Int) (d : Bool) : Int := if d then (if m % 10 = 0 then 0 else b / 15) else 0
/-- The number of the labels before minute m. -/
def startV (m b : Int) (d : Bool) : Int := 60 * b * m - gapV b d * (m - (m + 9) / 10)

theorem minute_of (N m x b : Int) (d : Bool) (h : Okb b d = true) (hm : 0 ≤ m) (hN : N = startV m b d + x) (h0 : 0 ≤ x) (h1 : x < 60 * b - dropV m b d) :
    minV N b d = m ∧ restV N b d = x + dropV m b d := by
  obtain ⟨q, r, rfl, hr0, hr1⟩ : ∃ q r : Int, m = 10 * q + r ∧ 0 ≤ r ∧ r < 10 := ⟨m / 10, m % 10, by omega, by omega, by omega⟩
  rcases okb_cases h with ⟨rfl, rfl⟩ | ⟨rfl, rfl⟩ | ⟨rfl, rfl⟩ | ⟨rfl, rfl⟩ | ⟨rfl, rfl⟩ | ⟨rfl, rfl⟩ | ⟨rfl, rfl⟩ | ⟨rfl, rfl⟩
  all_goals simp only [minV, restV, startV, dropV, tenV, gapV, if_true, Bool.false_eq_true, if_false, Int.reduceMul, Int.reduceSub, Int.reduceDiv] at *
  case inr.inr.inr.inr.inr.inr.inl =>
    by_cases hz : r = 0
    · subst hz
      have e : (10 * q + 0) % 10 = 0 := by omega
      simp only [e, if_true] at h1 ⊢
      have hq : N / 17982 = q := by omega
      have hr : N % 17982 = x := by omega
      rw [hq, hr, if_neg (by omega), if_neg (by omega)]
      omega
    · have e : ¬ (10 * q + r) % 10 = 0 := by omega
      simp only [e, if_false] at h1 ⊢
      have hq : N / 17982 = q := by omega
      have hr : N % 17982 = 1800 + 1798 * (r - 1) + x := by omega
      rw [hq, hr, if_pos (by omega), if_pos (by omega)]
      omega
  case inr.inr.inr.inr.inr.inr.inr =>
    by_cases hz : r = 0
    · subst hz
      have e : (10 * q + 0) % 10 = 0 := by omega
      simp only [e, if_true] at h1 ⊢
      have hq : N / 35964 = q := by omega
      have hr : N % 35964 = x := by omega
      rw [hq, hr, if_neg (by omega), if_neg (by omega)]
      omega
    · have e : ¬ (10 * q + r) % 10 = 0 := by omega
      simp only [e, if_false] at h1 ⊢
      have hq : N / 35964 = q := by omega
      have hr : N % 35964 = 3600 + 3596 * (r - 1) + x := by omega
      rw [hq, hr, if_pos (by omega), if_pos (by omega)]
      omega
  all_goals (constructor <;> split <;> omega)

theorem start_succ (m b : Int) (d : Bool) (h : Okb b d = true) (hm : 0 ≤ m) : startV (m + 1) b d = startV m b d + (60 * b - dropV m b d) := by
  rcases okb_cases h with ⟨rfl, rfl⟩ | ⟨rfl, rfl⟩ | ⟨rfl, rfl⟩ | ⟨rfl, rfl⟩ | ⟨rfl, rfl⟩ | ⟨rfl, rfl⟩ | ⟨rfl, rfl⟩ | ⟨rfl, rfl⟩
  all_goals simp only [startV, dropV, gapV, if_true, Bool.false_eq_true, if_false, Int.reduceMul, Int.reduceSub, Int.reduceDiv]
  all_goals first | omega | (split <;> omega)

theorem start_bd (m b : Int) (d : Bool) (h : Okb b d = true) (hm : 0 ≤ m) (hm2 : m ≤ 1440) : 0 ≤ startV m b d ∧ startV m b d ≤ 5184000 := by
  rcases okb_cases h with ⟨rfl, rfl⟩ | ⟨rfl, rfl⟩ | ⟨rfl, rfl⟩ | ⟨rfl, rfl⟩ | ⟨rfl, rfl⟩ | ⟨rfl, rfl⟩ | ⟨rfl, rfl⟩ | ⟨rfl, rfl⟩
  all_goals simp only [startV, gapV, if_true, Bool.false_eq_true, if_false, Int.reduceMul, Int.reduceDiv]
  all_goals omega

theorem okb_bd {b : Int} {d : Bool} (h : Okb b d = true) (m : Int) : 24 ≤ b ∧ b ≤ 60 ∧ 0 ≤ dropV m b d ∧ dropV m b d ≤ 4 := by
  rcases okb_cases h with ⟨rfl, rfl⟩ | ⟨rfl, rfl⟩ | ⟨rfl, rfl⟩ | ⟨rfl, rfl⟩ | ⟨rfl, rfl⟩ | ⟨rfl, rfl⟩ | ⟨rfl, rfl⟩ | ⟨rfl, rfl⟩
  all_goals simp only [dropV, if_true, Bool.false_eq_true, if_false, Int.reduceDiv]
  all_goals first | omega | (split <;> omega)

theorem dayV_start {b : Int} {d : Bool} (h : Okb b d = true) : dayV b d = startV 1440 b d ∧ 0 < dayV b d ∧ dayV b d ≤ 5184000 := by
  rcases okb_cases h with ⟨rfl, rfl⟩ | ⟨rfl, rfl⟩ | ⟨rfl, rfl⟩ | ⟨rfl, rfl⟩ | ⟨rfl, rfl⟩ | ⟨rfl, rfl⟩ | ⟨rfl, rfl⟩ | ⟨rfl, rfl⟩ <;> decide +kernel


theorem known_eq (b : Int) : cutroomref19_Known.f b = some (Kn b) := by
  simp only [cutroomref19_Known.f, Kn]
  repeat' split
  all_goals simp_all


theorem rdropped_eq (m b : Int) (d : Bool) (hm : 0 ≤ m) (h : Okb b d = true) : cutroomref19_dropped.f m b d = some (dropV m b d) := by
  rcases okb_cases h with ⟨rfl, rfl⟩ | ⟨rfl, rfl⟩ | ⟨rfl, rfl⟩ | ⟨rfl, rfl⟩ | ⟨rfl, rfl⟩ | ⟨rfl, rfl⟩ | ⟨rfl, rfl⟩ | ⟨rfl, rfl⟩
  all_goals first | rfl | (unfold cutroomref19_dropped.f dropV; rw [tmd _ _ hm]; simp only [if_true]; split <;> decide +kernel)

theorem rday_loop (b : Int) (d : Bool) (h : Okb b d = true) (t : Nat) :
    ∀ m : Int, 0 ≤ m → m + t = 1440 → Ev (fun k => cutroomref19_Day.l0 k b d (startV m b d) m) (dayV b d, 0) := by
  induction t with
  | zero =>
    intro m hm ht
    refine Ev.step (f := fun k => _) (fun k => by rw [cutroomref19_Day.l0]) ?_
    have : m = 1440 := by omega
    subst this
    simp only [if_neg (show ¬ (1440 : Int) < 1440 by omega), (dayV_start h).1]
    exact Ev.now _
  | succ t ih =>
    intro m hm ht
    have hb := okb_bd h m
    have hs := start_bd m b d h hm (by omega)
    have hu := start_succ m b d h hm
    refine Ev.step (f := fun k => _) (fun k => by rw [cutroomref19_Day.l0]) ?_
    simp only [if_pos (show m < 1440 by omega), rdropped_eq m b d hm h, Option.bind_some]
    rw [w64 (60 * b) (by omega) (by omega), w64 (startV m b d + 60 * b) (by omega) (by omega), w64 _ (by omega) (by omega), w64 (m + 1) (by omega) (by omega)]
    have e : startV m b d + 60 * b - dropV m b d = startV (m + 1) b d := by omega
    rw [e]
    exact ih (m + 1) (by omega) (by omega)

theorem rday_ev (b : Int) (d : Bool) : Ev (fun k => cutroomref19_Day.f k b d) (if Okb b d then (dayV b d, 0) else (0, 1)) := by
  unfold cutroomref19_Day.f
  simp only [known_eq, Option.bind_some]
  have h0 : startV 0 b d = 0 := by simp [startV]
  by_cases ho : Okb b d = true
  · have hl := rday_loop b d ho 1440 0 (by omega) (by omega)
    rw [h0] at hl
    have hk : Kn b = true := by
      cases hk : Kn b
      · simp [Okb, hk] at ho
      · rfl
    have hj : Ev (fun k => cutroomref19_Day.j0 k b d false) (dayV b d, 0) := by
      refine Ev.step (f := fun k => cutroomref19_Day.l0 k b d 0 0) (fun k => by rw [cutroomref19_Day.j0]; simp) hl
    rw [if_pos ho]
    simp only [hk, if_true]
    cases d
    · simp only [Bool.false_eq_true, if_false]; exact hj
    · simp only [if_true]
      by_cases h30 : b = 30
      · simp only [if_pos h30]; exact hj
      · have h60 : (b != 60) = false := by
          have : b = 30 ∨ b = 60 := by simpa [Okb, hk] using ho
          have : b = 60 := by omega
          simp [this]
        simp only [if_neg h30, h60]; exact hj
  · have hj : Ev (fun k => cutroomref19_Day.j0 k b d true) (0, 1) := by
      refine Ev.step (f := fun k => some (0, 1)) (fun k => by rw [cutroomref19_Day.j0]; simp) (Ev.now _)
    rw [if_neg ho]
    by_cases hk : Kn b = true
    · simp only [hk, if_true]
      cases d
      · exact absurd (by simp [Okb, hk]) ho
      · have hb : ¬ (b = 30) ∧ (b != 60) = true := by
          constructor
          · rintro rfl; exact ho (by decide)
          · simp only [bne_iff_ne]; rintro rfl; exact ho (by decide)
        simp only [if_true, if_neg hb.1, hb.2]; exact hj
    · simp only [if_neg hk]; exact hj


theorem rlabel_loop (b : Int) (d : Bool) (h : Okb b d = true) (N : Int) (hN : N < startV 1440 b d) (t : Nat) :
    ∀ m x : Int, 0 ≤ m → m + t = 1440 → N = startV m b d + x → 0 ≤ x → x ≤ 5184000 →
      Ev (fun k => cutroomref19_Label.l0 k x b d m) (minV N b d / 60, minV N b d % 60, restV N b d / b, restV N b d % b, b, d, 0) := by
  induction t with
  | zero =>
    intro m x hm ht hx h0 _
    have : m = 1440 := by omega
    subst this
    omega
  | succ t ih =>
    intro m x hm ht hx h0 hx2
    have hb := okb_bd h m
    refine Ev.step (f := fun k => _) (fun k => by rw [cutroomref19_Label.l0]) ?_
    simp only [rdropped_eq m b d hm h, Option.bind_some]
    rw [w64 (60 * b) (by omega) (by omega), w64 (60 * b - dropV m b d) (by omega) (by omega)]
    by_cases hc : x ≥ 60 * b - dropV m b d
    · simp only [if_pos hc]
      rw [w64 (m + 1) (by omega) (by omega), w64 (x - 60 * b) (by omega) (by omega), w64 _ (by omega) (by omega)]
      have hs := start_succ m b d h hm
      exact ih (m + 1) _ (by omega) (by omega) (by omega) (by omega) (by omega)
    · simp only [if_neg hc]
      obtain ⟨e1, e2⟩ := minute_of N m x b d h hm hx h0 (by omega)
      rw [if_neg (by omega), e1, e2, w64 (x + dropV m b d) (by omega) (by omega), tdv _ _ hm, tmd _ _ hm, tdv _ _ (by omega), tmd _ _ (by omega)]
      have g1 : 0 ≤ (x + dropV m b d) / b := Int.ediv_nonneg (by omega) (by omega)
      have g2 : (x + dropV m b d) / b ≤ x + dropV m b d := Int.ediv_le_self _ (by omega)
      rw [w64 (m / 60) (by omega) (by omega), w64 _ (by omega) (by omega)]
      exact Ev.now _

theorem rlabel_ev (n b : Int) (d : Bool) (hn : -9223372036854775808 ≤ n ∧ n ≤ 9223372036854775807) :
    Ev (fun k => cutroomref19_Label.f k n b d) (if Okb b d then labV n b d else (0, 0, 0, 0, 0, false, 1)) := by
  unfold cutroomref19_Label.f
  refine Ev.bind (rday_ev b d) ?_
  by_cases ho : Okb b d = true
  · obtain ⟨hs, h0, h1⟩ := dayV_start ho
    simp only [if_pos ho, if_true, if_neg (show ¬ dayV b d = 0 by omega)]
    have hm : Int.tmod (wrap64 (Int.tmod n (dayV b d) + dayV b d)) (dayV b d) = n % dayV b d := by
      have a1 : Int.tmod n (dayV b d) < dayV b d := Int.tmod_lt_of_pos n h0
      have a2 : -(dayV b d) < Int.tmod n (dayV b d) := by
        have := Int.tmod_lt_of_pos (-n) h0
        rw [Int.neg_tmod] at this; omega
      rw [w64 _ (by omega) (by omega), tmd _ _ (by omega), Int.add_emod_right]
      have h3 := Int.tmod_add_mul_tdiv n (dayV b d)
      conv => rhs; rw [← h3]
      rw [Int.add_mul_emod_self_left]
    rw [hm]
    have g0 := Int.emod_nonneg n (show dayV b d ≠ 0 by omega)
    have g1 := Int.emod_lt_of_pos n h0
    have hs0 : startV 0 b d = 0 := by simp [startV]
    exact rlabel_loop b d ho (n % dayV b d) (by omega) 1440 0 _ (by omega) (by omega) (by omega) g0 (by omega)
  · simp only [if_neg ho]
    exact Ev.now _

theorem awake_ev : Ev (fun k => cutroomlaw19_awake.f k) true := by
  refine Ev.of cutroomlaw19_awake.mono (k := 60) ?_
  decide +kernel

/-- Whether a rate is b or 1000/1001 of it; the base of a rate. -/
def isB (x y b : Int) : Bool := (x == 1000 * b && y == 1001) || (x == b && y == 1)
def baseV (x y : Int) : Int × Int :=
  if isB x y 24 then (24, 0) else if isB x y 25 then (25, 0) else if isB x y 30 then (30, 0) else if isB x y 48 then (48, 0) else if isB x y 50 then (50, 0) else if isB x y 60 then (60, 0) else (0, 1)

theorem of_ev (b : Int) (h : Kn b = true) : Ev (fun k => rational_Of.f k (wrap64 (b * 1000)) 1001) (1000 * b, 1001, 0) := by
  have hb : b = 24 ∨ b = 25 ∨ b = 30 ∨ b = 48 ∨ b = 50 ∨ b = 60 := by simp [Kn] at h; omega
  rcases hb with rfl | rfl | rfl | rfl | rfl | rfl <;> exact Ev.of (rational_Of.mono _ _) (k := 40) (by decide +kernel)

theorem base_step (x y : Int) (i : Nat) (b : Int) (hi : i < 6) (hb : rd [24, 25, 30, 48, 50, 60] (i : Int) = b) (hk : Kn b = true) (r : Int × Int)
    (h : Ev (fun k => timecode_Base.l0 k [24, 25, 30, 48, 50, 60] 6 ((i : Int) + 1) x y) r) :
    Ev (fun k => timecode_Base.l0 k [24, 25, 30, 48, 50, 60] 6 (i : Int) x y) (if isB x y b then (b, 0) else r) := by
  refine Ev.step (f := fun k => _) (fun k => by rw [timecode_Base.l0]) ?_
  have hl : ((i : Int) < (([24, 25, 30, 48, 50, 60] : List Int).length : Int)) := by simp; omega
  simp only [if_pos (show (i : Int) < 6 by omega), if_pos (show (0 : Int) ≤ (i : Int) by omega), if_pos hl, hb]
  refine Ev.bind (of_ev b hk) ?_
  rw [w64 _ (by omega) (by omega)]
  by_cases c1 : (x == 1000 * b && y == 1001) = true
  · simp only [c1, if_true, isB, Bool.true_or]; exact Ev.now _
  · have c1' := Bool.eq_false_iff.mpr c1
    by_cases c2 : (x == b && y == 1) = true
    · simp only [c1', c2, if_true, isB, Bool.or_true, Bool.false_eq_true, if_false]; exact Ev.now _
    · have c2' := Bool.eq_false_iff.mpr c2
      simp only [c1', c2', isB, Bool.or_self, Bool.false_eq_true, if_false]; exact h

theorem base_ev (x y : Int) : Ev (fun k => timecode_Base.f k x y) (baseV x y) := by
  unfold timecode_Base.f timecode_bases.f baseV
  simp only [Option.bind_some]
  show Ev (fun k => timecode_Base.l0 k [24, 25, 30, 48, 50, 60] 6 0 x y) _
  refine base_step x y 0 24 (by omega) (by decide) (by decide) _ ?_
  refine base_step x y 1 25 (by omega) (by decide) (by decide) _ ?_
  refine base_step x y 2 30 (by omega) (by decide) (by decide) _ ?_
  refine base_step x y 3 48 (by omega) (by decide) (by decide) _ ?_
  refine base_step x y 4 50 (by omega) (by decide) (by decide) _ ?_
  refine base_step x y 5 60 (by omega) (by decide) (by decide) _ ?_
  refine Ev.step (f := fun k => _) (fun k => by rw [timecode_Base.l0]) ?_
  simp only [if_neg (show ¬ ((5 : Nat) : Int) + 1 < 6 by omega)]
  exact Ev.now _

theorem below_ev (b : Int) (h : Kn b = true) : Ev (fun k => cutroomref19_below.f k b) (1000 * b, 1001) := by
  have hb : b = 24 ∨ b = 25 ∨ b = 30 ∨ b = 48 ∨ b = 50 ∨ b = 60 := by simp [Kn] at h; omega
  rcases hb with rfl | rfl | rfl | rfl | rfl | rfl <;> exact Ev.of (cutroomref19_below.mono _) (k := 10) (by decide +kernel)

theorem rbase_skip (x y b : Int) (h0 : 24 ≤ b) (h1 : b ≤ 60) (hk : Kn b = false) (r : Int × Int) (h : Ev (fun k => cutroomref19_Base.l0 k (b + 1) x y) r) :
    Ev (fun k => cutroomref19_Base.l0 k b x y) r := by
  refine Ev.step (f := fun k => _) (fun k => by rw [cutroomref19_Base.l0]) ?_
  simp only [if_pos h1, known_eq, hk, Option.bind_some, Bool.false_eq_true, if_false]
  rw [w64 _ (by omega) (by omega)]
  exact h

theorem rbase_step (x y b : Int) (h1 : b ≤ 60) (hk : Kn b = true) (r : Int × Int) (h : Ev (fun k => cutroomref19_Base.l0 k (b + 1) x y) r) :
    Ev (fun k => cutroomref19_Base.l0 k b x y) (if isB x y b then (b, 0) else r) := by
  have h0 : 24 ≤ b := by simp [Kn] at hk; omega
  refine Ev.step (f := fun k => _) (fun k => by rw [cutroomref19_Base.l0]) ?_
  simp only [if_pos h1, known_eq, hk, Option.bind_some, if_true]
  rw [w64 _ (by omega) (by omega)]
  by_cases c2 : (x == b && y == 1) = true
  · simp only [c2, if_true, isB, Bool.or_true]; exact Ev.now _
  · have c2' := Bool.eq_false_iff.mpr c2
    simp only [c2', Bool.false_eq_true, if_false]
    refine Ev.bind (below_ev b hk) ?_
    by_cases c1 : (x == 1000 * b && y == 1001) = true
    · simp only [c1, if_true, isB, Bool.true_or]; exact Ev.now _
    · have c1' := Bool.eq_false_iff.mpr c1
      simp only [c1', c2', isB, Bool.or_self, Bool.false_eq_true, if_false]; exact h

theorem rbase_skips (x y : Int) (t : Nat) : ∀ b c : Int, 24 ≤ b → b + t = c → c ≤ 61 → (∀ z, b ≤ z → z < c → Kn z = false) → ∀ r, Ev (fun k => cutroomref19_Base.l0 k c x y) r → Ev (fun k => cutroomref19_Base.l0 k b x y) r := by
  induction t with
  | zero =>
    intro b c _ h _ _ r hr
    have : b = c := by omega
    rw [this]; exact hr
  | succ t ih =>
    intro b c h0 h h1 hz r hr
    exact rbase_skip x y b h0 (by omega) (hz b (by omega) (by omega)) r (ih (b + 1) c (by omega) (by omega) h1 (fun z z0 z1 => hz z (by omega) z1) r hr)

theorem kn_no (z : Int) (h : ¬ (z = 24 ∨ z = 25 ∨ z = 30 ∨ z = 48 ∨ z = 50 ∨ z = 60)) : Kn z = false := by
  rw [Bool.eq_false_iff]; intro hk; apply h; simp [Kn] at hk; omega

theorem rbase_ev (x y : Int) : Ev (fun k => cutroomref19_Base.f k x y) (baseV x y) := by
  unfold cutroomref19_Base.f baseV
  refine rbase_step x y 24 (by omega) (by decide) _ ?_
  refine rbase_step x y 25 (by omega) (by decide) _ ?_
  refine rbase_skips x y 4 26 30 (by omega) (by omega) (by omega) (fun z _ _ => kn_no z (by omega)) _ ?_
  refine rbase_step x y 30 (by omega) (by decide) _ ?_
  refine rbase_skips x y 17 31 48 (by omega) (by omega) (by omega) (fun z _ _ => kn_no z (by omega)) _ ?_
  refine rbase_step x y 48 (by omega) (by decide) _ ?_
  refine rbase_skips x y 1 49 50 (by omega) (by omega) (by omega) (fun z _ _ => kn_no z (by omega)) _ ?_
  refine rbase_step x y 50 (by omega) (by decide) _ ?_
  refine rbase_skips x y 9 51 60 (by omega) (by omega) (by omega) (fun z _ _ => kn_no z (by omega)) _ ?_
  refine rbase_step x y 60 (by omega) (by decide) _ ?_
  refine Ev.step (f := fun k => _) (fun k => by rw [cutroomref19_Base.l0]) ?_
  simp only [if_neg (show ¬ (60 : Int) + 1 ≤ 60 by omega)]
  exact Ev.now _

theorem wu (n : Int) : IntKind.u64.wrap n = n % 18446744073709551616 := by simp [IntKind.wrap, IntKind.bits, IntKind.signed]
theorem wu_id (n : Int) (h0 : 0 ≤ n) (h1 : n < 18446744073709551616) : IntKind.u64.wrap n = n := by rw [wu]; omega

theorem gcd_ev (b : Nat) : ∀ a : Nat, Ev (fun k => rational_gcd.f k a b) ((Nat.gcd a b : Nat) : Int) := by
  induction b using Nat.strongRecOn with
  | _ b ih =>
    intro a
    show Ev (fun k => rational_gcd.l0 k a b) _
    refine Ev.step (f := fun k => _) (fun k => by rw [rational_gcd.l0]) ?_
    by_cases hb : b = 0
    · subst hb
      simp only [Int.natCast_zero, if_true, Nat.gcd_zero_right]
      exact Ev.now _
    · have hb' : ¬ (b : Int) = 0 := by omega
      simp only [if_neg hb']
      have e : Int.tmod (a : Int) (b : Int) = ((a % b : Nat) : Int) := by
        rw [tmd _ _ (by omega)]; rfl
      rw [e]
      have h := ih (a % b) (Nat.mod_lt _ (by omega)) b
      have eg : Nat.gcd b (a % b) = Nat.gcd a b := by
        rw [Nat.gcd_comm b, ← Nat.gcd_rec, Nat.gcd_comm]
      rw [eg] at h
      exact h

theorem abs_eq (a : Int) (h0 : -9223372036854775808 ≤ a) (h1 : a ≤ 9223372036854775807) : rational_abs.f a = some (a.natAbs : Int) := by
  unfold rational_abs.f
  rw [wu, wu]
  by_cases h : a < 0
  · rw [if_pos h]; congr 1; omega
  · rw [if_neg h]; congr 1; omega

theorem made_ev (s : Bool) (n d : Int) (hn : 0 ≤ n ∧ n ≤ 9223372036854775807) (hd : 0 ≤ d ∧ d ≤ 9223372036854775807) :
    Ev (fun k => rational_made.f k s n d) (if s then -n else n, d, 0) := by
  unfold rational_made.f
  simp only [if_neg (show ¬ n > 9223372036854775807 by omega), decide_eq_false (show ¬ d > 9223372036854775807 by omega)]
  refine Ev.step (f := fun k => _) (fun k => by rw [rational_made.j0]) ?_
  rw [w64 n (by omega) (by omega), w64 d (by omega) (by omega), w64 (-n) (by omega) (by omega)]
  cases s
  · exact Ev.now _
  · exact Ev.now _

/-- A fraction in lowest terms. -/
def lowV (p q : Int) : Int × Int := (p / (Int.gcd p q : Int), q / (Int.gcd p q : Int))

theorem natAbs_div (p : Int) (g : Nat) (h : (g : Int) ∣ p) : (if (p < 0) then -((p.natAbs / g : Nat) : Int) else ((p.natAbs / g : Nat) : Int)) = p / (g : Int) := by
  by_cases hp : p < 0
  · rw [if_pos hp]
    have e : p = -((p.natAbs : Nat) : Int) := by omega
    have hd : (g : Int) ∣ ((p.natAbs : Nat) : Int) := by rw [Int.dvd_natAbs]; exact h
    conv => rhs; rw [e]
    rw [Int.neg_ediv_of_dvd hd, Int.natCast_ediv]
  · rw [if_neg hp]
    have e : p = ((p.natAbs : Nat) : Int) := by omega
    conv => rhs; rw [e]
    rw [Int.natCast_ediv]

theorem of_low (p q : Int) (hp : -4611686018427387904 ≤ p ∧ p ≤ 4611686018427387904) (hq : 0 < q ∧ q ≤ 4611686018427387904) :
    Ev (fun k => rational_Of.f k p q) ((lowV p q).1, (lowV p q).2, 0) := by
  unfold rational_Of.f
  simp only [if_neg (show ¬ q = 0 by omega), abs_eq p (by omega) (by omega), abs_eq q (by omega) (by omega), Option.bind_some]
  refine Ev.bind (gcd_ev q.natAbs p.natAbs) ?_
  have hg : 0 < Nat.gcd p.natAbs q.natAbs := Nat.gcd_pos_of_pos_right _ (by omega)
  have hg' : ¬ ((Nat.gcd p.natAbs q.natAbs : Nat) : Int) = 0 := by omega
  simp only [if_neg hg', tdv _ _ (Int.natCast_nonneg _)]
  have e1 : ((p.natAbs : Nat) : Int) / ((Nat.gcd p.natAbs q.natAbs : Nat) : Int) = ((p.natAbs / Nat.gcd p.natAbs q.natAbs : Nat) : Int) := (Int.natCast_ediv _ _).symm
  have e2 : ((q.natAbs : Nat) : Int) / ((Nat.gcd p.natAbs q.natAbs : Nat) : Int) = ((q.natAbs / Nat.gcd p.natAbs q.natAbs : Nat) : Int) := (Int.natCast_ediv _ _).symm
  have l1 : p.natAbs / Nat.gcd p.natAbs q.natAbs ≤ p.natAbs := Nat.div_le_self _ _
  have l2 : q.natAbs / Nat.gcd p.natAbs q.natAbs ≤ q.natAbs := Nat.div_le_self _ _
  have z1 : (0 : Int) ≤ ((p.natAbs : Nat) : Int) / ((Nat.gcd p.natAbs q.natAbs : Nat) : Int) := Int.ediv_nonneg (by omega) (by omega)
  have z2 : (0 : Int) ≤ ((q.natAbs : Nat) : Int) / ((Nat.gcd p.natAbs q.natAbs : Nat) : Int) := Int.ediv_nonneg (by omega) (by omega)
  rw [e1, e2, wu_id _ (by omega) (by omega), wu_id _ (by omega) (by omega)]
  have hs : (decide (p < 0) != decide (q < 0)) = decide (p < 0) := by
    rw [decide_eq_false (show ¬ q < 0 by omega)]; simp
  rw [hs]
  refine Ev.bind (made_ev _ _ _ (by omega) (by omega)) ?_
  have k1 := natAbs_div p (Nat.gcd p.natAbs q.natAbs) (by exact Int.gcd_dvd_left ..)
  have k2 := natAbs_div q (Nat.gcd p.natAbs q.natAbs) (by exact Int.gcd_dvd_right ..)
  rw [if_neg (by omega)] at k2
  have r1 : (if decide (p < 0) = true then -((p.natAbs / Nat.gcd p.natAbs q.natAbs : Nat) : Int) else ((p.natAbs / Nat.gcd p.natAbs q.natAbs : Nat) : Int)) = (lowV p q).1 := by
    simp only [decide_eq_true_eq]; exact k1
  have r2 : ((q.natAbs / Nat.gcd p.natAbs q.natAbs : Nat) : Int) = (lowV p q).2 := k2
  simp only [r1, r2]
  exact Ev.now _

theorem low_props (p q : Int) (hq : 0 < q) : 0 < (lowV p q).2 ∧ Int.gcd (lowV p q).1 (lowV p q).2 = 1 ∧ (lowV p q).1 * q = p * (lowV p q).2 ∧ (lowV p q).1.natAbs ≤ p.natAbs ∧ (lowV p q).2 ≤ q := by
  have hg : 0 < Int.gcd p q := Int.gcd_pos_of_ne_zero_right _ (by omega)
  have hl : Int.gcd p q = Int.gcd p q := rfl
  unfold lowV
  obtain ⟨g, hG⟩ : ∃ g, Int.gcd p q = g := ⟨_, rfl⟩
  obtain ⟨p', hp⟩ : (g : Int) ∣ p := by rw [← hG]; exact Int.gcd_dvd_left ..
  obtain ⟨q', hq'⟩ : (g : Int) ∣ q := by rw [← hG]; exact Int.gcd_dvd_right ..
  rw [hG] at hg ⊢
  clear hl
  have e1 : p / (g : Int) = p' := by
    rw [hp, Int.mul_comm, Int.mul_ediv_cancel]
    omega
  have e2 : q / (g : Int) = q' := by
    rw [hq', Int.mul_comm, Int.mul_ediv_cancel]
    omega
  rw [e1, e2]
  have hq0 : 0 < q' := by
    rcases Int.lt_trichotomy q' 0 with h | h | h
    · have := Int.mul_neg_of_pos_of_neg (show (0 : Int) < g by omega) h; omega
    · subst h; omega
    · exact h
  refine ⟨hq0, ?_, ?_, ?_, ?_⟩
  · have h : Int.gcd p q = g * Int.gcd p' q' := by
      conv => lhs; rw [hp, hq']
      rw [Int.gcd_mul_left]; simp
    rw [hG] at h
    have : g * 1 = g * Int.gcd p' q' := by omega
    exact (Nat.eq_of_mul_eq_mul_left hg this).symm
  · rw [hp, hq']
    rw [Int.mul_comm p' ((g : Int) * q'), Int.mul_assoc, Int.mul_assoc, Int.mul_comm q' p']
  · rw [hp, Int.natAbs_mul]
    simp only [Int.natAbs_natCast]
    exact Nat.le_mul_of_pos_left _ hg
  · have : (1 : Int) * q' ≤ (g : Int) * q' := Int.mul_le_mul_of_nonneg_right (by omega) (by omega)
    omega

theorem dvd_cop (b a d : Int) (h : b ∣ a * d) (hc : Int.gcd a b = 1) : b ∣ d := by
  rw [← Int.natAbs_dvd_natAbs] at h ⊢
  rw [Int.natAbs_mul] at h
  exact Nat.Coprime.dvd_of_dvd_mul_left (by rw [Nat.coprime_comm]; exact hc) h

theorem low_unique (a b c d : Int) (hb : 0 < b) (hd : 0 < d) (h1 : Int.gcd a b = 1) (h2 : Int.gcd c d = 1) (h : a * d = c * b) : a = c ∧ b = d := by
  have d1 : b ∣ d := by
    have : b ∣ a * d := ⟨c, by rw [h, Int.mul_comm]⟩
    exact dvd_cop _ _ _ this h1
  have d2 : d ∣ b := by
    have : d ∣ c * b := ⟨a, by rw [← h, Int.mul_comm]⟩
    exact dvd_cop _ _ _ this h2
  have e : b = d := by
    have l1 := Int.le_of_dvd hd d1
    have l2 := Int.le_of_dvd hb d2
    omega
  subst e
  exact ⟨Int.eq_of_mul_eq_mul_right (by omega) h, rfl⟩

theorem mul64_eq (a b : Int) (a0 : 0 ≤ a) (a1 : a < 18446744073709551616) (b0 : 0 ≤ b) (b1 : b < 18446744073709551616) :
    bits_Mul64.f a b = some (a * b / 18446744073709551616, a * b % 18446744073709551616) := by
  unfold bits_Mul64.f
  rw [Go.and_low32 a a0 a1, Go.and_low32 b b0 b1]
  obtain ⟨p, q, hp0, hp1, hq0, hq1, rfl⟩ : ∃ p q : Int, 0 ≤ p ∧ p < 4294967296 ∧ 0 ≤ q ∧ q < 4294967296 ∧ a = 4294967296 * p + q := ⟨a / 4294967296, a % 4294967296, by omega, by omega, by omega, by omega, by omega⟩
  obtain ⟨r, s, hr0, hr1, hs0, hs1, rfl⟩ : ∃ r s : Int, 0 ≤ r ∧ r < 4294967296 ∧ 0 ≤ s ∧ s < 4294967296 ∧ b = 4294967296 * r + s := ⟨b / 4294967296, b % 4294967296, by omega, by omega, by omega, by omega, by omega⟩
  rw [show (4294967296 * p + q) / 4294967296 = p by omega, show (4294967296 * p + q) % 4294967296 = q by omega, show (4294967296 * r + s) / 4294967296 = r by omega, show (4294967296 * r + s) % 4294967296 = s by omega]
  have bd : ∀ x y : Int, 0 ≤ x → x < 4294967296 → 0 ≤ y → y < 4294967296 → 0 ≤ x * y ∧ x * y ≤ 18446744065119617025 := by
    intro x y x0 x1 y0 y1
    refine ⟨Int.mul_nonneg x0 y0, ?_⟩
    have h1 : x * y ≤ 4294967295 * y := Int.mul_le_mul_of_nonneg_right (by omega) y0
    have h2 : 4294967295 * y ≤ 4294967295 * 4294967295 := Int.mul_le_mul_of_nonneg_left (by omega) (by omega)
    omega
  have e : (4294967296 * p + q) * (4294967296 * r + s) = 18446744073709551616 * (p * r) + 4294967296 * (p * s) + 4294967296 * (q * r) + q * s := by
    rw [Int.add_mul, Int.mul_add, Int.mul_add, show 4294967296 * p * (4294967296 * r) = 18446744073709551616 * (p * r) by rw [Int.mul_assoc, Int.mul_left_comm p]; omega, show 4294967296 * p * s = 4294967296 * (p * s) by rw [Int.mul_assoc], show q * (4294967296 * r) = 4294967296 * (q * r) by rw [Int.mul_left_comm]]
    omega
  obtain ⟨x1, x2⟩ := bd p r hp0 hp1 hr0 hr1
  obtain ⟨y1, y2⟩ := bd p s hp0 hp1 hs0 hs1
  obtain ⟨z1, z2⟩ := bd q r hq0 hq1 hr0 hr1
  obtain ⟨t1, t2⟩ := bd q s hq0 hq1 hs0 hs1
  rw [e]
  generalize p * r = A at *
  generalize p * s = B at *
  generalize q * r = C at *
  generalize q * s = D at *
  clear e bd
  rw [wu_id A (by omega) (by omega), wu_id B (by omega) (by omega), wu_id C (by omega) (by omega), wu_id D (by omega) (by omega)]
  rw [wu_id (B + D / 4294967296) (by omega) (by omega)]
  rw [Go.and_low32 _ (by omega) (by omega)]
  rw [wu_id ((B + D / 4294967296) % 4294967296 + C) (by omega) (by omega)]
  rw [wu_id (A + (B + D / 4294967296) / 4294967296) (by omega) (by omega)]
  rw [wu_id (A + (B + D / 4294967296) / 4294967296 + _) (by omega) (by omega), wu]
  congr 2
  omega

theorem valid_ev (n d : Int) (hn : -9223372036854775807 ≤ n ∧ n ≤ 9223372036854775807) (hd : 0 < d ∧ d ≤ 9223372036854775807) (hg : Int.gcd n d = 1) :
    Ev (fun k => rational_Valid.f k n d) true := by
  unfold rational_Valid.f
  simp only [if_pos (show d ≥ 1 by omega), if_pos (show n ≥ (-9223372036854775807) by omega), abs_eq n (by omega) (by omega), Option.bind_some]
  rw [wu_id d (by omega) (by omega)]
  have e : d = ((d.natAbs : Nat) : Int) := by omega
  have h := gcd_ev d.natAbs n.natAbs
  rw [← e] at h
  refine Ev.bind h ?_
  have : (((Nat.gcd n.natAbs d.natAbs : Nat) : Int) == 1) = true := by
    rw [show Nat.gcd n.natAbs d.natAbs = 1 from hg]; rfl
  rw [this]
  exact Ev.now _

theorem times_eq (a b : Int) (ha : -9223372036854775808 ≤ a ∧ a ≤ 9223372036854775807) (hb : 0 ≤ b) (hb1 : b < 18446744073709551616) (hab : (a.natAbs : Int) * b < 18446744073709551616) :
    rational_times.f a b = some (decide (a < 0), 0, (a.natAbs : Int) * b) := by
  unfold rational_times.f
  simp only [abs_eq a ha.1 ha.2, Option.bind_some]
  have h0 : 0 ≤ (a.natAbs : Int) * b := Int.mul_nonneg (by omega) hb
  rw [mul64_eq _ _ (by omega) (by omega) hb hb1]
  simp only [Option.bind_some]
  rw [Int.ediv_eq_zero_of_lt h0 hab, Int.emod_eq_of_lt h0 hab]

/-- Adding small magnitudes with signs. -/
theorem plus_small (p q : Int) (A C : Nat) (hA : A < 4611686018427387904) (hC : C < 4611686018427387904) (hp : p.natAbs = A) (hq : q.natAbs = C) :
    ∃ s : Bool, rational_plus.f (decide (p < 0)) 0 A (decide (q < 0)) 0 C = some (s, 0, ((p + q).natAbs : Int)) ∧ (if s then -((p + q).natAbs : Int) else ((p + q).natAbs : Int)) = p + q := by
  unfold rational_plus.f
  rw [if_pos (by omega)]
  by_cases h1 : p < 0
  · by_cases h2 : q < 0
    · rw [decide_eq_true h1, decide_eq_true h2, if_pos rfl]
      refine ⟨true, ?_, by simp only [if_true]; omega⟩
      congr 2
      rw [Prod.mk.injEq]; omega
    · rw [decide_eq_true h1, decide_eq_false h2, if_neg (by decide)]
      by_cases h3 : (0 : Int) < 0 ∨ ((0 : Int) = 0 ∧ (A : Int) < C)
      · rw [if_pos h3, if_neg (by omega)]
        refine ⟨false, ?_, by simp only [Bool.false_eq_true, if_false]; omega⟩
        congr 2
        rw [Prod.mk.injEq]; omega
      · rw [if_neg h3, if_neg (by omega)]
        refine ⟨true, ?_, by simp only [if_true]; omega⟩
        congr 2
        rw [Prod.mk.injEq]; omega
  · by_cases h2 : q < 0
    · rw [decide_eq_false h1, decide_eq_true h2, if_neg (by decide)]
      by_cases h3 : (0 : Int) < 0 ∨ ((0 : Int) = 0 ∧ (A : Int) < C)
      · rw [if_pos h3, if_neg (by omega)]
        refine ⟨true, ?_, by simp only [if_true]; omega⟩
        congr 2
        rw [Prod.mk.injEq]; omega
      · rw [if_neg h3, if_neg (by omega)]
        refine ⟨false, ?_, by simp only [Bool.false_eq_true, if_false]; omega⟩
        congr 2
        rw [Prod.mk.injEq]; omega
    · rw [decide_eq_false h1, decide_eq_false h2, if_pos rfl]
      refine ⟨false, ?_, by simp only [Bool.false_eq_true, if_false]; omega⟩
      congr 2
      rw [Prod.mk.injEq]; omega

theorem rest_eq (s : Bool) (A g : Int) (hA : 0 ≤ A) (hA1 : A < 18446744073709551616) (hg : 0 < g) : rational_wide_rest.f s 0 A g = some (A % g) := by
  unfold rational_wide_rest.f bits_Rem64.f bits_Div64.f
  rw [if_neg (show ¬ g = 0 by omega), show Int.tmod 0 g = 0 by simp, if_pos ⟨rfl, hg, hA, hA1⟩]
  rfl

/-- Knuth's sum: what is in lowest terms after the gcd with the denominators' gcd alone. -/
theorem knuth (an cn : Int) (g x y : Nat) (hg : 0 < g) (hx : 0 < x) (hy : 0 < y) (hxy : Nat.gcd x y = 1) (ha : Nat.gcd an.natAbs (g * x) = 1) (hc : Nat.gcd cn.natAbs (g * y) = 1) (sum : Int) (hs : sum = an * y + cn * x) (h : Nat) (hh : h = Nat.gcd sum.natAbs g) :
    0 < h ∧ Nat.gcd (sum.natAbs / h) (x * (g * y / h)) = 1 ∧ h ∣ sum.natAbs ∧ h ∣ g := by
  have hpos : 0 < h := by rw [hh]; exact Nat.gcd_pos_of_pos_right _ hg
  have h1 : h ∣ sum.natAbs := by rw [hh]; exact Nat.gcd_dvd_left _ _
  have h2 : h ∣ g := by rw [hh]; exact Nat.gcd_dvd_right _ _
  refine ⟨hpos, ?_, h1, h2⟩
  have cx : Nat.Coprime sum.natAbs x := by
    show Nat.gcd sum.natAbs x = 1
    have d1 := Nat.gcd_dvd_left sum.natAbs x
    have d2 := Nat.gcd_dvd_right sum.natAbs x
    generalize Nat.gcd sum.natAbs x = d at *
    have d3 : (d : Int) ∣ an * y := by
      have k1 : (d : Int) ∣ sum := by rw [← Int.dvd_natAbs]; exact Int.natCast_dvd_natCast.mpr d1
      have k2 : (d : Int) ∣ cn * x := Int.dvd_trans (Int.natCast_dvd_natCast.mpr d2) (Int.dvd_mul_left ..)
      have : an * y = sum - cn * x := by rw [hs]; omega
      rw [this]; exact Int.dvd_sub k1 k2
    have d4 : d ∣ an.natAbs * y := by
      have := Int.natAbs_dvd_natAbs.mpr d3
      simpa [Int.natAbs_mul] using this
    have d5 : Nat.Coprime d an.natAbs := by
      have : Nat.Coprime an.natAbs (g * x) := ha
      exact (Nat.Coprime.coprime_dvd_right (Nat.dvd_trans d2 (Nat.dvd_mul_left x g)) this).symm
    have d6 : d ∣ y := Nat.Coprime.dvd_of_dvd_mul_left d5 d4
    have d7 : d ∣ Nat.gcd x y := Nat.dvd_gcd d2 d6
    rw [hxy] at d7
    exact Nat.dvd_one.mp d7
  have cy : Nat.Coprime sum.natAbs y := by
    show Nat.gcd sum.natAbs y = 1
    have d1 := Nat.gcd_dvd_left sum.natAbs y
    have d2 := Nat.gcd_dvd_right sum.natAbs y
    generalize Nat.gcd sum.natAbs y = d at *
    have d3 : (d : Int) ∣ cn * x := by
      have k1 : (d : Int) ∣ sum := by rw [← Int.dvd_natAbs]; exact Int.natCast_dvd_natCast.mpr d1
      have k2 : (d : Int) ∣ an * y := Int.dvd_trans (Int.natCast_dvd_natCast.mpr d2) (Int.dvd_mul_left ..)
      have : cn * x = sum - an * y := by rw [hs]; omega
      rw [this]; exact Int.dvd_sub k1 k2
    have d4 : d ∣ cn.natAbs * x := by
      have := Int.natAbs_dvd_natAbs.mpr d3
      simpa [Int.natAbs_mul] using this
    have d5 : Nat.Coprime d cn.natAbs := by
      have : Nat.Coprime cn.natAbs (g * y) := hc
      exact (Nat.Coprime.coprime_dvd_right (Nat.dvd_trans d2 (Nat.dvd_mul_left y g)) this).symm
    have d6 : d ∣ x := Nat.Coprime.dvd_of_dvd_mul_left d5 d4
    have d7 : d ∣ Nat.gcd x y := Nat.dvd_gcd d6 d2
    rw [hxy] at d7
    exact Nat.dvd_one.mp d7
  have cg : Nat.Coprime (sum.natAbs / h) (g / h) := by
    rw [hh]
    exact Nat.coprime_div_gcd_div_gcd (by rw [← hh]; exact hpos)
  have dd : sum.natAbs / h ∣ sum.natAbs := Nat.div_dvd_of_dvd h1
  have e : g * y / h = g / h * y := by
    obtain ⟨m, rfl⟩ := h2
    rw [Nat.mul_assoc, Nat.mul_div_cancel_left _ hpos, Nat.mul_div_cancel_left _ hpos]
  rw [e]
  exact Nat.Coprime.mul_right (Nat.Coprime.coprime_dvd_left dd cx) (Nat.Coprime.mul_right cg (Nat.Coprime.coprime_dvd_left dd cy))

theorem mul_bd40 (p : Int) (q : Nat) (hp : -1099511627776 ≤ p ∧ p ≤ 1099511627776) (hq : q ≤ 1048576) : p.natAbs * q ≤ 1152921504606846976 := by
  have h1 : p.natAbs ≤ 1099511627776 := by omega
  have h2 := Nat.mul_le_mul h1 hq
  simpa using h2
theorem mul_bd20 (x y : Nat) (hx : x ≤ 1048576) (hy : y ≤ 1048576) : x * y ≤ 1099511627776 := by
  have h2 := Nat.mul_le_mul hx hy
  simpa using h2

/-- Add of small numbers in lowest terms: the sum in lowest terms. -/
theorem add_low (an ad cn cd : Int) (ha : -1099511627776 ≤ an ∧ an ≤ 1099511627776) (hc : -1099511627776 ≤ cn ∧ cn ≤ 1099511627776) (hd : 0 < ad ∧ ad ≤ 1048576) (he : 0 < cd ∧ cd ≤ 1048576) (ga : Int.gcd an ad = 1) (gc : Int.gcd cn cd = 1) :
    ∃ N D : Int, Ev (fun k => rational_Add.f k an ad cn cd) (N, D, 0) ∧ 0 < D ∧ Int.gcd N D = 1 ∧ N * (ad * cd) = (an * cd + cn * ad) * D := by
  obtain ⟨a, rfl⟩ := Int.eq_ofNat_of_zero_le (show 0 ≤ ad by omega)
  obtain ⟨c, rfl⟩ := Int.eq_ofNat_of_zero_le (show 0 ≤ cd by omega)
  have hgp : 0 < Nat.gcd a c := Nat.gcd_pos_of_pos_left _ (by omega)
  obtain ⟨g, hG⟩ : ∃ g, Nat.gcd a c = g := ⟨_, rfl⟩
  obtain ⟨x, hx⟩ : g ∣ a := by rw [← hG]; exact Nat.gcd_dvd_left _ _
  obtain ⟨y, hy⟩ : g ∣ c := by rw [← hG]; exact Nat.gcd_dvd_right _ _
  rw [hG] at hgp
  have hx0 : 0 < x := by rcases Nat.eq_zero_or_pos x with h | h; (subst h; omega); exact h
  have hy0 : 0 < y := by rcases Nat.eq_zero_or_pos y with h | h; (subst h; omega); exact h
  have hxy : Nat.gcd x y = 1 := by
    have h := hG
    rw [hx, hy, Nat.gcd_mul_left] at h
    have : g * Nat.gcd x y = g * 1 := by omega
    exact Nat.eq_of_mul_eq_mul_left hgp this
  have dx : a / g = x := by rw [hx, Nat.mul_div_cancel_left _ hgp]
  have dy : c / g = y := by rw [hy, Nat.mul_div_cancel_left _ hgp]
  have lx : x ≤ a := by rw [← dx]; exact Nat.div_le_self _ _
  have ly : y ≤ c := by rw [← dy]; exact Nat.div_le_self _ _
  have lg : g ≤ a := by rw [hx]; exact Nat.le_mul_of_pos_right _ hx0
  obtain ⟨sum, hsum⟩ : ∃ s : Int, s = an * y + cn * x := ⟨_, rfl⟩
  obtain ⟨h, hh⟩ : ∃ h, h = Nat.gcd sum.natAbs g := ⟨_, rfl⟩
  obtain ⟨h0, kn, h1, h2⟩ := knuth an cn g x y hgp hx0 hy0 hxy (by rw [← hx]; exact ga) (by rw [← hy]; exact gc) sum hsum h hh
  rw [← hy] at kn
  have bdm := mul_bd40
  have bA := bdm an y ha (by omega)
  have bC := bdm cn x hc (by omega)
  have nA : (an * y).natAbs = an.natAbs * y := by rw [Int.natAbs_mul]; rfl
  have nC : (cn * x).natAbs = cn.natAbs * x := by rw [Int.natAbs_mul]; rfl
  have sgA : decide (an < 0) = decide (an * (y : Int) < 0) := by
    rw [decide_eq_decide]
    constructor
    · intro k; exact Int.mul_neg_of_neg_of_pos k (by omega)
    · intro k
      rcases Int.lt_or_le an 0 with k' | k'
      · exact k'
      · have := Int.mul_nonneg k' (show 0 ≤ (y : Int) by omega); omega
  have sgC : decide (cn < 0) = decide (cn * (x : Int) < 0) := by
    rw [decide_eq_decide]
    constructor
    · intro k; exact Int.mul_neg_of_neg_of_pos k (by omega)
    · intro k
      rcases Int.lt_or_le cn 0 with k' | k'
      · exact k'
      · have := Int.mul_nonneg k' (show 0 ≤ (x : Int) by omega); omega
  obtain ⟨s, hp, hs⟩ := plus_small (an * y) (cn * x) (an.natAbs * y) (cn.natAbs * x) (by omega) (by omega) nA nC
  rw [← hsum] at hp hs
  rw [← sgA, ← sgC] at hp
  have bs : sum.natAbs ≤ 2305843009213693952 := by omega
  have lc : c / h ≤ c := Nat.div_le_self _ _
  have lsum : sum.natAbs / h ≤ sum.natAbs := Nat.div_le_self _ _
  have bxc : x * (c / h) ≤ 1099511627776 := by
    exact mul_bd20 x (c / h) (by omega) (by omega)
  have hcd : h ∣ c := Nat.dvd_trans h2 (by rw [hy]; exact Nat.dvd_mul_right _ _)
  have hch : 0 < c / h := Nat.div_pos (Nat.le_of_dvd (by omega) hcd) h0
  refine ⟨if s then -((sum.natAbs / h : Nat) : Int) else ((sum.natAbs / h : Nat) : Int), ((x * (c / h) : Nat) : Int), ?_, ?_, ?_, ?_⟩
  · unfold rational_Add.f
    refine Ev.bind (valid_ev an a (by omega) (by omega) ga) ?_
    simp only [if_true]
    refine Ev.bind (valid_ev cn c (by omega) (by omega) gc) ?_
    simp only [Bool.not_true]
    refine Ev.step (f := fun k => _) (fun k => by rw [rational_Add.j0]) ?_
    simp only [Bool.false_eq_true, if_false]
    rw [wu_id (a : Int) (by omega) (by omega), wu_id (c : Int) (by omega) (by omega)]
    refine Ev.bind (gcd_ev c a) ?_
    rw [hG]
    have tx : Int.tdiv (a : Int) (g : Int) = (x : Int) := by
      rw [tdv _ _ (by omega), ← Int.natCast_ediv, dx]
    have ty : Int.tdiv (c : Int) (g : Int) = (y : Int) := by
      rw [tdv _ _ (by omega), ← Int.natCast_ediv, dy]
    simp only [if_neg (show ¬ (g : Int) = 0 by omega), tx, ty]
    rw [wu_id (x : Int) (by omega) (by omega), wu_id (y : Int) (by omega) (by omega)]
    have t1 := times_eq an y (by omega) (by omega) (by omega) (by rw [← Int.natCast_mul]; omega)
    have t2 := times_eq cn x (by omega) (by omega) (by omega) (by rw [← Int.natCast_mul]; omega)
    rw [← Int.natCast_mul] at t1 t2
    have ev : ∀ {α : Type} {o : Option α} {r : α}, o = some r → Ev (fun _ => o) r := fun h => ⟨0, fun _ _ => h⟩
    refine Ev.bind (ev t1) (Ev.bind (ev t2) (Ev.bind (ev hp) (Ev.bind (ev (rest_eq s (sum.natAbs : Int) (g : Int) (by omega) (by omega) (by omega))) ?_)))
    have em : ((sum.natAbs : Nat) : Int) % ((g : Nat) : Int) = ((sum.natAbs % g : Nat) : Int) := (Int.natCast_emod _ _).symm
    rw [em]
    refine Ev.bind (gcd_ev g (sum.natAbs % g)) ?_
    have eg : Nat.gcd (sum.natAbs % g) g = h := by
      rw [hh, Nat.gcd_comm sum.natAbs, Nat.gcd_rec g]
    rw [eg]
    have dv : bits_Div64.f 0 (sum.natAbs : Int) (h : Int) = some (((sum.natAbs / h : Nat) : Int), ((sum.natAbs % h : Nat) : Int)) := by
      unfold bits_Div64.f
      rw [if_pos ⟨rfl, by omega, by omega, by omega⟩, Int.natCast_ediv, Int.natCast_emod]
    have tc : Int.tdiv (c : Int) (h : Int) = ((c / h : Nat) : Int) := by
      rw [tdv _ _ (by omega), ← Int.natCast_ediv]
    simp only [if_neg (show ¬ (0 : Int) ≥ (h : Int) by omega)]
    refine Ev.bind (ev dv) ?_
    simp only [if_neg (show ¬ (h : Int) = 0 by omega), tc]
    have zc : (0 : Int) ≤ ((c / h : Nat) : Int) := Int.natCast_nonneg _
    have zl : ((c / h : Nat) : Int) ≤ (c : Int) := Int.ofNat_le.mpr lc
    have zx : (0 : Int) ≤ ((x * (c / h) : Nat) : Int) := Int.natCast_nonneg _
    have zx1 : ((x * (c / h) : Nat) : Int) ≤ 1099511627776 := by omega
    have m3 := mul64_eq (x : Int) ((c / h : Nat) : Int) (by omega) (by omega) zc (by omega)
    rw [← Int.natCast_mul, Int.ediv_eq_zero_of_lt zx (by omega), Int.emod_eq_of_lt zx (by omega)] at m3
    rw [wu_id _ zc (by omega)]
    refine Ev.bind (ev m3) ?_
    simp only [if_neg (show ¬ (0 : Int) > 0 by omega)]
    have zs : (0 : Int) ≤ ((sum.natAbs / h : Nat) : Int) := Int.natCast_nonneg _
    have zs1 : ((sum.natAbs / h : Nat) : Int) ≤ ((sum.natAbs : Nat) : Int) := Int.ofNat_le.mpr lsum
    exact Ev.bind (made_ev s _ _ ⟨zs, by omega⟩ ⟨zx, by omega⟩) (Ev.now _)
  · have : 0 < x * (c / h) := Nat.mul_pos hx0 hch
    omega
  · have e : (if s then -((sum.natAbs / h : Nat) : Int) else ((sum.natAbs / h : Nat) : Int)).natAbs = sum.natAbs / h := by
      cases s
      · simp only [Bool.false_eq_true, if_false, Int.natAbs_natCast]
      · simp only [if_true, Int.natAbs_neg, Int.natAbs_natCast]
    show Nat.gcd _ _ = 1
    rw [e, Int.natAbs_natCast]
    exact kn
  · have eN : (if s then -((sum.natAbs / h : Nat) : Int) else ((sum.natAbs / h : Nat) : Int)) * (h : Int) = sum := by
      have e1 : ((sum.natAbs / h : Nat) : Int) * (h : Int) = (sum.natAbs : Int) := by
        rw [← Int.natCast_mul, Nat.div_mul_cancel h1]
      cases s
      · simp only [Bool.false_eq_true, if_false] at hs ⊢
        rw [e1]; exact hs
      · simp only [if_true] at hs ⊢
        rw [Int.neg_mul, e1]; exact hs
    have eD : ((x * (c / h) : Nat) : Int) * (h : Int) = (x : Int) * (c : Int) := by
      rw [← Int.natCast_mul, Nat.mul_assoc, Nat.div_mul_cancel hcd, Int.natCast_mul]
    have hne : (h : Int) ≠ 0 := by omega
    apply Int.eq_of_mul_eq_mul_right hne
    generalize (if s then -((sum.natAbs / h : Nat) : Int) else ((sum.natAbs / h : Nat) : Int)) = N at *
    generalize ((x * (c / h) : Nat) : Int) = D at *
    have l : N * ((a : Int) * c) * h = (N * h) * (a * c) := by rw [Int.mul_assoc, Int.mul_comm ((a : Int) * c), ← Int.mul_assoc]
    have r : (an * (c : Int) + cn * a) * D * h = (an * c + cn * a) * (D * h) := Int.mul_assoc _ _ _
    rw [l, r, eN, eD]
    have ea : (a : Int) = g * x := by rw [hx, Int.natCast_mul]
    have ec : (c : Int) = g * y := by rw [hy, Int.natCast_mul]
    have e3 : an * (c : Int) + cn * a = g * sum := by
      rw [hsum, ea, ec, Int.mul_add, Int.mul_left_comm an, Int.mul_left_comm cn]
    rw [e3, ea]
    rw [Int.mul_comm (g : Int) sum, Int.mul_assoc, Int.mul_assoc]

theorem base_facts {x y b : Int} (h : baseV x y = (b, 0)) : Kn b = true ∧ ((x = 1000 * b ∧ y = 1001) ∨ (x = b ∧ y = 1)) := by
  have key : ∀ c, isB x y c = true → ((x = 1000 * c ∧ y = 1001) ∨ (x = c ∧ y = 1)) := by
    intro c hc
    simp only [isB, Bool.or_eq_true, Bool.and_eq_true, beq_iff_eq] at hc
    exact hc
  unfold baseV at h
  by_cases c1 : isB x y 24 = true
  · rw [if_pos c1] at h; simp only [Prod.mk.injEq, and_true] at h; subst h; exact ⟨by decide, key _ c1⟩
  rw [if_neg c1] at h
  by_cases c2 : isB x y 25 = true
  · rw [if_pos c2] at h; simp only [Prod.mk.injEq, and_true] at h; subst h; exact ⟨by decide, key _ c2⟩
  rw [if_neg c2] at h
  by_cases c3 : isB x y 30 = true
  · rw [if_pos c3] at h; simp only [Prod.mk.injEq, and_true] at h; subst h; exact ⟨by decide, key _ c3⟩
  rw [if_neg c3] at h
  by_cases c4 : isB x y 48 = true
  · rw [if_pos c4] at h; simp only [Prod.mk.injEq, and_true] at h; subst h; exact ⟨by decide, key _ c4⟩
  rw [if_neg c4] at h
  by_cases c5 : isB x y 50 = true
  · rw [if_pos c5] at h; simp only [Prod.mk.injEq, and_true] at h; subst h; exact ⟨by decide, key _ c5⟩
  rw [if_neg c5] at h
  by_cases c6 : isB x y 60 = true
  · rw [if_pos c6] at h; simp only [Prod.mk.injEq, and_true] at h; subst h; exact ⟨by decide, key _ c6⟩
  rw [if_neg c6] at h
  simp at h

/-- The time that frame n's label shows, in frames. -/
def timeV (n b : Int) (d : Bool) : Int := 60 * b * minV n b d + restV n b d

theorem time_bd (n b : Int) (d : Bool) (ho : Okb b d = true) (h0 : 0 ≤ n) (h1 : n < dayV b d) :
    0 ≤ minV n b d ∧ minV n b d < 1440 ∧ 0 ≤ restV n b d ∧ restV n b d < 60 * b ∧ 0 ≤ timeV n b d ∧ timeV n b d ≤ 5184000 ∧ n ≤ 5184000 ∧ 24 ≤ b ∧ b ≤ 60 := by
  unfold timeV minV restV
  rcases okb_cases ho with ⟨rfl, rfl⟩ | ⟨rfl, rfl⟩ | ⟨rfl, rfl⟩ | ⟨rfl, rfl⟩ | ⟨rfl, rfl⟩ | ⟨rfl, rfl⟩ | ⟨rfl, rfl⟩ | ⟨rfl, rfl⟩
  all_goals simp only [dayV, tenV, gapV, if_true, Bool.false_eq_true, if_false, Int.reduceDiv, Int.reduceMul, Int.reduceSub] at *
  all_goals (split <;> exact ⟨by omega, by omega, by omega, by omega, by omega, by omega, by omega, by omega, by omega⟩)

theorem time_code (M R b : Int) (hM : 0 ≤ M ∧ M < 1440) (hb : 24 ≤ b ∧ b ≤ 60) (hR : 0 ≤ R ∧ R < 60 * b) :
    wrap64 ((wrap64 ((wrap64 ((wrap64 ((wrap64 ((wrap64 (M / 60 * 60)) + M % 60)) * 60)) + R / b)) * b)) + R % b) = 60 * b * M + R := by
  have d0 : 0 ≤ R / b := Int.ediv_nonneg hR.1 (by omega)
  have d1 : R / b < 60 := by
    have : R < 60 * b := hR.2
    exact Int.ediv_lt_of_lt_mul (by omega) this
  have m0 := Int.emod_nonneg R (show b ≠ 0 by omega)
  have m1 := Int.emod_lt_of_pos R (show 0 < b by omega)
  have e := Int.mul_ediv_add_emod R b
  rw [w64 (M / 60 * 60) (by omega) (by omega), w64 (M / 60 * 60 + M % 60) (by omega) (by omega), show M / 60 * 60 + M % 60 = M by omega]
  rw [w64 (M * 60) (by omega) (by omega), w64 (M * 60 + R / b) (by omega) (by omega)]
  have p0 : 0 ≤ (M * 60 + R / b) * b := Int.mul_nonneg (by omega) (by omega)
  have p1 : (M * 60 + R / b) * b ≤ (M * 60 + R / b) * 60 := Int.mul_le_mul_of_nonneg_left (by omega) (by omega)
  rw [w64 ((M * 60 + R / b) * b) (by omega) (by omega), w64 ((M * 60 + R / b) * b + R % b) (by omega) (by omega), Int.add_mul, Int.mul_comm (R / b) b, Int.add_assoc, e]
  rw [Int.mul_comm (M * 60) b, Int.mul_comm M 60, ← Int.mul_assoc, Int.mul_comm b 60]

theorem drift_num (T n x y b : Int) (hT : 0 ≤ T ∧ T ≤ 5184000) (hn : 0 ≤ n ∧ n ≤ 5184000) (hb : 24 ≤ b ∧ b ≤ 60) (hr : (x = 1000 * b ∧ y = 1001) ∨ (x = b ∧ y = 1)) :
    ∃ N D : Int, Ev (fun k => (rational_Of.f k T b).bind fun bt232 => ((rational_Of.f k (wrap64 (n * y)) x).bind fun bt236 => ((rational_Sub.f k bt232.1 bt232.2.1 bt236.1 bt236.2.1).bind fun bt240 => (some (bt240.1, bt240.2.1, bt240.2.2))))) (N, D, 0) ∧ 0 < D ∧ Int.gcd N D = 1 ∧ N * (b * x) = (T * x - n * y * b) * D := by
  have hx : 24 ≤ x ∧ x ≤ 60000 := by omega
  have hny : 0 ≤ n * y ∧ n * y ≤ 5189184000 := by
    rcases hr with ⟨-, rfl⟩ | ⟨-, rfl⟩ <;> omega
  have L1 := low_props T b (by omega)
  have L2 := low_props (n * y) x (by omega)
  obtain ⟨l1, l2, l3, l4, l5⟩ := L1
  obtain ⟨t1, t2, t3, t4, t5⟩ := L2
  obtain ⟨N, D, hE, hD, hg, hv⟩ := add_low (lowV T b).1 (lowV T b).2 (-(lowV (n * y) x).1) (lowV (n * y) x).2 (by omega) (by omega) (by omega) (by omega) l2 (by rw [Int.neg_gcd]; exact t2)
  refine ⟨N, D, ?_, hD, hg, ?_⟩
  · refine Ev.bind (of_low T b (by omega) (by omega)) ?_
    rw [w64 (n * y) (by omega) (by omega)]
    refine Ev.bind (of_low (n * y) x (by omega) (by omega)) ?_
    have hS : Ev (fun k => rational_Sub.f k (lowV T b).1 (lowV T b).2 (lowV (n * y) x).1 (lowV (n * y) x).2) (N, D, 0) := by
      unfold rational_Sub.f
      refine Ev.bind (valid_ev _ _ (by omega) (by omega) l2) ?_
      simp only [if_true]
      refine Ev.bind (valid_ev _ _ (by omega) (by omega) t2) ?_
      simp only [if_true]
      rw [w64 _ (by omega) (by omega)]
      exact Ev.bind hE (Ev.now _)
    exact Ev.bind hS (Ev.now _)
  · generalize (lowV T b).1 = ln at *
    generalize (lowV T b).2 = ld at *
    generalize (lowV (n * y) x).1 = tn at *
    generalize (lowV (n * y) x).2 = td at *
    have hne : ld * td ≠ 0 := by
      have := Int.mul_pos l1 t1; omega
    apply Int.eq_of_mul_eq_mul_right hne
    have q1 : N * (b * x) * (ld * td) = N * (ld * td) * (b * x) := by ac_rfl
    rw [q1, hv]
    have q2 : (ln * td + -tn * ld) * D * (b * x) = (ln * b * (td * x) - tn * x * (ld * b)) * D := by
      rw [Int.sub_mul, Int.add_mul, Int.add_mul]
      have a1 : ln * td * D * (b * x) = ln * b * (td * x) * D := by ac_rfl
      have a2 : -tn * ld * D * (b * x) = -(tn * x * (ld * b) * D) := by
        rw [Int.neg_mul, Int.neg_mul, Int.neg_mul]
        congr 1
        ac_rfl
      rw [a1, a2]; omega
    rw [q2, l3, t3, Int.sub_mul, Int.sub_mul, Int.sub_mul]
    have b1 : T * ld * (td * x) * D = T * x * D * (ld * td) := by ac_rfl
    have b2 : n * y * td * (ld * b) * D = n * y * b * D * (ld * td) := by ac_rfl
    rw [b1, b2]

theorem drift_ev (n x y b : Int) (d : Bool) (hB : baseV x y = (b, 0)) (ho : Okb b d = true) (h0 : 0 ≤ n) (h1 : n < dayV b d) :
    ∃ N D : Int, Ev (fun k => timecode_Drift.f k n x y d) (N, D, 0) ∧ 0 < D ∧ Int.gcd N D = 1 ∧ N * (b * x) = (timeV n b d * x - n * y * b) * D := by
  obtain ⟨b0, b1, b2, b3, b4, b5, b6, b7, b8⟩ := time_bd n b d ho h0 h1
  obtain ⟨N, D, hE, hD, hg, hv⟩ := drift_num (timeV n b d) n x y b ⟨b4, b5⟩ ⟨h0, b6⟩ ⟨b7, b8⟩ (base_facts hB).2
  refine ⟨N, D, ?_, hD, hg, hv⟩
  unfold timecode_Drift.f
  have hb := base_ev x y
  rw [hB] at hb
  refine Ev.bind hb ?_
  simp only [if_true]
  have hd := day_ev b d
  rw [if_pos ho] at hd
  refine Ev.bind hd ?_
  simp only [if_true, if_neg (show ¬ n < 0 by omega), decide_eq_false (show ¬ n ≥ dayV b d by omega)]
  refine Ev.step (f := fun k => _) (fun k => by rw [timecode_Drift.j0]) ?_
  simp only [Bool.false_eq_true, if_false]
  have hl := label_ev n b d (by omega)
  rw [if_pos ho] at hl
  refine Ev.bind hl ?_
  simp only [labV, Int.emod_eq_of_lt h0 h1]
  rw [time_code (minV n b d) (restV n b d) b ⟨b0, b1⟩ ⟨b7, b8⟩ ⟨b2, b3⟩]
  exact hE

theorem den_bd (N D P Q : Int) (hD : 0 < D) (hQ : 0 < Q) (hg : Int.gcd N D = 1) (h : N * Q = P * D) : D ≤ Q := by
  have h1 : D ∣ N * Q := ⟨P, by rw [h, Int.mul_comm]⟩
  exact Int.le_of_dvd hQ (dvd_cop _ _ _ h1 hg)

theorem lowest_loop (p q : Int) (hq : 0 < q) (hq2 : q ≤ 4611686018427387904) (hp : -4611686018427387904 ≤ p ∧ p ≤ 4611686018427387904) (b : Nat) :
    ∀ a : Nat, Nat.gcd a b = Int.gcd p q → Ev (fun k => cutroomref19_lowest.l0 k p q (a : Int) (b : Int)) (lowV p q) := by
  induction b using Nat.strongRecOn with
  | _ b ih =>
    intro a hg
    refine Ev.step (f := fun k => _) (fun k => by rw [cutroomref19_lowest.l0]) ?_
    by_cases hb : b = 0
    · subst hb
      rw [Nat.gcd_zero_right] at hg
      have ha : 0 < a := by rw [hg]; exact Int.gcd_pos_of_ne_zero_right _ (by omega)
      simp only [Int.natCast_zero, if_true]
      by_cases hz : p = 0
      · subst hz
        have e : lowV 0 q = (0, 1) := by
          unfold lowV
          rw [Int.gcd_zero_left]
          have : ((q.natAbs : Nat) : Int) = q := by omega
          rw [this, Int.zero_ediv, Int.ediv_self (by omega)]
        simp only [if_true, if_neg (show ¬ q = 0 by omega), Int.zero_tdiv]
        rw [e, w64 0 (by omega) (by omega), w64 1 (by omega) (by omega)]
        exact Ev.now _
      · have gd1 : (a : Int) ∣ p := by rw [hg]; exact Int.gcd_dvd_left ..
        have e1 : Int.tdiv p (a : Int) = p / (a : Int) := by
          obtain ⟨p', rfl⟩ := gd1
          rw [Int.mul_tdiv_cancel_left _ (by omega), Int.mul_ediv_cancel_left _ (by omega)]
        have e2 : Int.tdiv q (a : Int) = q / (a : Int) := tdv _ _ (by omega)
        have z1 : (p / (a : Int)).natAbs ≤ p.natAbs := by
          have := (low_props p q hq).2.2.2.1
          rw [show (lowV p q).1 = p / (a : Int) by unfold lowV; rw [← hg]] at this
          exact this
        have z2 : 0 ≤ q / (a : Int) := Int.ediv_nonneg (by omega) (by omega)
        have z3 : q / (a : Int) ≤ q := Int.ediv_le_self _ (by omega)
        simp only [if_neg hz, if_neg (show ¬ (a : Int) = 0 by omega), e1, e2]
        rw [w64 _ (by omega) (by omega), w64 _ (by omega) (by omega)]
        have : lowV p q = (p / (a : Int), q / (a : Int)) := by unfold lowV; rw [← hg]
        rw [this]
        exact Ev.now _
    · have hb' : ¬ (b : Int) = 0 := by omega
      simp only [if_neg hb']
      have e : Int.tmod (a : Int) (b : Int) = ((a % b : Nat) : Int) := by
        rw [tmd _ _ (by omega)]; rfl
      rw [e]
      refine ih (a % b) (Nat.mod_lt _ (by omega)) b ?_
      rw [← hg, Nat.gcd_comm b, ← Nat.gcd_rec, Nat.gcd_comm]

theorem lowest_ev (p q : Int) (hq : 0 < q) (hq2 : q ≤ 4611686018427387904) (hp : -4611686018427387904 ≤ p ∧ p ≤ 4611686018427387904) :
    Ev (fun k => cutroomref19_lowest.f k p q) (lowV p q) := by
  have h := lowest_loop p q hq hq2 hp q.natAbs p.natAbs rfl
  have e2 : ((q.natAbs : Nat) : Int) = q := by omega
  rw [e2] at h
  have hj : Ev (fun k => cutroomref19_lowest.j0 k p q (p.natAbs : Int) q) (lowV p q) :=
    Ev.step (f := fun k => _) (fun k => by rw [cutroomref19_lowest.j0]) h
  unfold cutroomref19_lowest.f
  by_cases hn : p < 0
  · simp only [if_pos hn]
    rw [w64 (-p) (by omega) (by omega)]
    have e1 : ((p.natAbs : Nat) : Int) = -p := by omega
    rw [e1] at hj
    exact hj
  · simp only [if_neg hn]
    have e1 : ((p.natAbs : Nat) : Int) = p := by omega
    rw [e1] at hj
    exact hj

theorem rdrift_ev (n x y b : Int) (d : Bool) (hB : baseV x y = (b, 0)) (ho : Okb b d = true) (h0 : 0 ≤ n) (h1 : n < dayV b d) :
    Ev (fun k => cutroomref19_Drift.f k n x y d) ((lowV (timeV n b d * x - n * y * b) (b * x)).1, (lowV (timeV n b d * x - n * y * b) (b * x)).2, 0) := by
  obtain ⟨b0, b1, b2, b3, b4, b5, b6, b7, b8⟩ := time_bd n b d ho h0 h1
  have hr := (base_facts hB).2
  have hx : 24 ≤ x ∧ x ≤ 60000 := by omega
  unfold cutroomref19_Drift.f
  have hb := rbase_ev x y
  rw [hB] at hb
  refine Ev.bind hb ?_
  simp only [if_true]
  have hd := rday_ev b d
  rw [if_pos ho] at hd
  refine Ev.bind hd ?_
  simp only [if_true, if_neg (show ¬ n < 0 by omega), decide_eq_false (show ¬ n ≥ dayV b d by omega)]
  refine Ev.step (f := fun k => _) (fun k => by rw [cutroomref19_Drift.j0]) ?_
  simp only [Bool.false_eq_true, if_false]
  have hl := rlabel_ev n b d (by omega)
  rw [if_pos ho] at hl
  refine Ev.bind hl ?_
  simp only [labV, Int.emod_eq_of_lt h0 h1, cutroomref19_Time.f, Option.bind_some]
  rw [time_code (minV n b d) (restV n b d) b ⟨b0, b1⟩ ⟨b7, b8⟩ ⟨b2, b3⟩]
  have eT : 60 * b * minV n b d + restV n b d = timeV n b d := rfl
  rw [eT]
  have ny : 0 ≤ n * y ∧ n * y ≤ 5189184000 := by
    rcases hr with ⟨-, rfl⟩ | ⟨-, rfl⟩ <;> omega
  have tx : 0 ≤ timeV n b d * x ∧ timeV n b d * x ≤ 5184000 * 60000 := ⟨Int.mul_nonneg b4 (by omega), Int.mul_le_mul b5 hx.2 (by omega) (by omega)⟩
  have nb : 0 ≤ n * y * b ∧ n * y * b ≤ 5189184000 * 60 := ⟨Int.mul_nonneg ny.1 (by omega), Int.mul_le_mul ny.2 b8 (by omega) (by omega)⟩
  have bx : 576 ≤ b * x ∧ b * x ≤ 60 * 60000 := ⟨Int.mul_le_mul b7 hx.1 (by omega) (by omega), Int.mul_le_mul b8 hx.2 (by omega) (by omega)⟩
  rw [w64 (timeV n b d * x) (by omega) (by omega), w64 (n * y) (by omega) (by omega), w64 (n * y * b) (by omega) (by omega), w64 _ (by omega) (by omega), w64 (b * x) (by omega) (by omega)]
  exact Ev.bind (lowest_ev _ _ (by omega) (by omega) (by omega)) (Ev.now _)

theorem drift_no (n x y : Int) (d : Bool) : ∀ b e : Int, baseV x y = (b, e) → ¬ (e = 0 ∧ Okb b d = true ∧ 0 ≤ n ∧ n < dayV b d) →
    ∃ r : Int × Int × Int, Ev (fun k => timecode_Drift.f k n x y d) r ∧ Ev (fun k => cutroomref19_Drift.f k n x y d) r := by
  intro b e hB hno
  unfold timecode_Drift.f cutroomref19_Drift.f
  have h1 := base_ev x y
  have h2 := rbase_ev x y
  rw [hB] at h1 h2
  by_cases he : e = 0
  · by_cases ho : Okb b d = true
    · refine ⟨(0, 0, 2), Ev.bind h1 ?_, Ev.bind h2 ?_⟩
      · have h3 := day_ev b d
        rw [if_pos ho] at h3
        simp only [if_pos he]
        refine Ev.bind h3 ?_
        simp only [if_true]
        have hj : Ev (fun k => timecode_Drift.j0 k n d b true x y) (0, 0, 2) := by
          refine Ev.step (f := fun k => some (0, 0, 2)) (fun k => by rw [timecode_Drift.j0]; simp) (Ev.now _)
        by_cases hn : n < 0
        · simp only [if_pos hn]; exact hj
        · simp only [if_neg hn]
          rw [decide_eq_true (show n ≥ dayV b d by
            by_cases k : n ≥ dayV b d
            · exact k
            · exact absurd ⟨he, ho, by omega, by omega⟩ hno)]
          exact hj
      · have h3 := rday_ev b d
        rw [if_pos ho] at h3
        simp only [if_pos he]
        refine Ev.bind h3 ?_
        simp only [if_true]
        have hj : Ev (fun k => cutroomref19_Drift.j0 k n d b true x y) (0, 0, 2) := by
          refine Ev.step (f := fun k => some (0, 0, 2)) (fun k => by rw [cutroomref19_Drift.j0]; simp) (Ev.now _)
        by_cases hn : n < 0
        · simp only [if_pos hn]; exact hj
        · simp only [if_neg hn]
          rw [decide_eq_true (show n ≥ dayV b d by
            by_cases k : n ≥ dayV b d
            · exact k
            · exact absurd ⟨he, ho, by omega, by omega⟩ hno)]
          exact hj
    · refine ⟨(0, 0, 1), Ev.bind h1 ?_, Ev.bind h2 ?_⟩
      · have h3 := day_ev b d
        rw [if_neg ho] at h3
        simp only [if_pos he]
        refine Ev.bind h3 ?_
        exact Ev.now _
      · have h3 := rday_ev b d
        rw [if_neg ho] at h3
        simp only [if_pos he]
        refine Ev.bind h3 ?_
        exact Ev.now _
  · refine ⟨(0, 0, e), Ev.bind h1 ?_, Ev.bind h2 ?_⟩
    · simp only [if_neg he]; exact Ev.now _
    · simp only [if_neg he]; exact Ev.now _

theorem TimecodeDrifts (n x y : Int) (d : Bool) : ∃ k, cutroomlaw19_TimecodeDrifts.f k n x y d = some true := by
  refine Ev.rounds ?_
  have hr : ∃ r : Int × Int × Int, Ev (fun k => timecode_Drift.f k n x y d) r ∧ Ev (fun k => cutroomref19_Drift.f k n x y d) r := by
    obtain ⟨b, hb⟩ : ∃ b, (baseV x y).1 = b := ⟨_, rfl⟩
    obtain ⟨e, he⟩ : ∃ e, (baseV x y).2 = e := ⟨_, rfl⟩
    have hB : baseV x y = (b, e) := by rw [← hb, ← he]
    by_cases hy : e = 0 ∧ Okb b d = true ∧ 0 ≤ n ∧ n < dayV b d
    · obtain ⟨rfl, ho, h0, h1⟩ := hy
      have hE2 := rdrift_ev n x y b d hB ho h0 h1
      obtain ⟨N, D, hE, hD, hg, hv⟩ := drift_ev n x y b d hB ho h0 h1
      have hr := (base_facts hB).2
      have b7 := time_bd n b d ho h0 h1
      have hx : 24 ≤ x ∧ x ≤ 60000 := by omega
      have hbx : 0 < b * x := Int.mul_pos (by omega) (by omega)
      obtain ⟨l1, l2, l3, -, -⟩ := low_props (timeV n b d * x - n * y * b) (b * x) hbx
      have heq : N * (lowV (timeV n b d * x - n * y * b) (b * x)).2 = (lowV (timeV n b d * x - n * y * b) (b * x)).1 * D := by
        have hne : b * x ≠ 0 := by omega
        apply Int.eq_of_mul_eq_mul_right hne
        generalize (lowV (timeV n b d * x - n * y * b) (b * x)).1 = p at *
        generalize (lowV (timeV n b d * x - n * y * b) (b * x)).2 = q at *
        have e1 : N * q * (b * x) = N * (b * x) * q := by ac_rfl
        have e2 : p * D * (b * x) = p * (b * x) * D := by ac_rfl
        rw [e1, e2, hv, l3]
        ac_rfl
      obtain ⟨rfl, rfl⟩ := low_unique N D _ _ hD l1 hg l2 heq
      exact ⟨_, hE, hE2⟩
    · exact drift_no n x y d b e hB hy
  obtain ⟨r, h1, h2⟩ := hr
  unfold cutroomlaw19_TimecodeDrifts.f
  refine Ev.bind h1 (Ev.bind h2 ?_)
  simp only [beq_self_eq_true, Bool.and_self, if_true]
  exact Ev.bind awake_ev (Ev.now _)

end Go.Proofs.Ytfdhjnfpppafaaa.Pure
