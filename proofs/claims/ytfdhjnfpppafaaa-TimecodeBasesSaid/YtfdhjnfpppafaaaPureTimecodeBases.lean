/- Pure part of TimecodeBases: what the printed Go functions compute answers true, for every input. No conditions. -/
import Derived.Test.YtfdhjnfpppafaaaPTimecodeBasesx5
set_option linter.unusedVariables false
set_option linter.unusedSimpArgs false
namespace Go.Proofs.Ytfdhjnfpppafaaa.Pure
open Go.RowKit Go.Proofs.Ytfdhjnfpppafaaa.PTimecodeBases Go.Proofs.YtfdhjnfpppafaaaW.PrintWords Go.Proofs.YtfdhjnfpppafaaaW.PrintLast

/-- The bounds of an int64. -/
theorem b64 {n : Int} (h : (Lit.int .i64 n).wf = true) : -9223372036854775808 ≤ n ∧ n ≤ 9223372036854775807 := by
  simpa [Lit.wf, IntKind.min, IntKind.max, IntKind.signed, IntKind.bits] using h
theorem w64 (n : Int) (h1 : -9223372036854775808 ≤ n) (h2 : n ≤ 9223372036854775807) : wrap64 n = n := by unfold wrap64; omega
theorem tdv (a b : Int) (h : 0 ≤ a) : Int.tdiv a b = a / b := Int.tdiv_eq_ediv_of_nonneg h
theorem tmd (a b : Int) (h : 0 ≤ a) : Int.tmod a b = a % b := Int.tmod_eq_emod_of_nonneg h

/-- The known bases. -/
def Kn (b : Int) : Bool := b == 24 || b == 25 || b == 30 || b == 48 || b == 50 || b == 60
/-- A base and a choice of dropping that go together. -/
def Okb (b : Int) (d : Bool) : Bool := Kn b && (!d || b == 30 || b == 60)
/-- The labels that a minute lacks. -/
def gapV (b : Int) (d : Bool) : Int := if d then b / 15 else 0
/-- The labels of ten minutes, and of a day. -/
def tenV (b : Int) (d : Bool) : Int := 600 * b - 9 * gapV b d
def dayV (b : Int) (d : Bool) : Int := 144 * tenV b d

theorem okb_cases {b : Int} {d : Bool} (h : Okb b d = true) :
    (b = 24 ∧ d = false) ∨ (b = 25 ∧ d = false) ∨ (b = 30 ∧ d = false) ∨ (b = 48 ∧ d = false) ∨ (b = 50 ∧ d = false) ∨ (b = 60 ∧ d = false) ∨ (b = 30 ∧ d = true) ∨ (b = 60 ∧ d = true) := by
  cases d <;> simp [Okb, Kn] at h ⊢ <;> omega

theorem isBase_ev (b : Int) : Ev (fun k => timecode_isBase.f k b) (Kn b) := by
  refine Ev.of (timecode_isBase.mono b) (k := 7) ?_
  simp only [timecode_isBase.f, timecode_bases.f, timecode_isBase.l0, Option.bind_some]
  simp [rd, wrap64, Kn]
  by_cases h1 : b = 24
  · simp [h1]
  by_cases h2 : b = 25
  · simp [h2]
  by_cases h3 : b = 30
  · simp [h3]
  by_cases h4 : b = 48
  · simp [h4]
  by_cases h5 : b = 50
  · simp [h5]
  by_cases h6 : b = 60
  · simp [h6]
  simp [h1, h2, h3, h4, h5, h6, Ne.symm h1, Ne.symm h2, Ne.symm h3, Ne.symm h4, Ne.symm h5, Ne.symm h6]

theorem dropped_eq (b : Int) (d : Bool) (h : Okb b d = true) : timecode_dropped.f b d = some (gapV b d) := by
  rcases okb_cases h with ⟨rfl, rfl⟩ | ⟨rfl, rfl⟩ | ⟨rfl, rfl⟩ | ⟨rfl, rfl⟩ | ⟨rfl, rfl⟩ | ⟨rfl, rfl⟩ | ⟨rfl, rfl⟩ | ⟨rfl, rfl⟩ <;> decide +kernel

theorem tenMinutes_eq (b : Int) (d : Bool) (h : Okb b d = true) : timecode_tenMinutes.f b d = some (tenV b d) := by
  rcases okb_cases h with ⟨rfl, rfl⟩ | ⟨rfl, rfl⟩ | ⟨rfl, rfl⟩ | ⟨rfl, rfl⟩ | ⟨rfl, rfl⟩ | ⟨rfl, rfl⟩ | ⟨rfl, rfl⟩ | ⟨rfl, rfl⟩ <;> decide +kernel

theorem canDrop_eq (b : Int) : timecode_CanDrop.f b = some (b == 30 || b == 60) := by
  simp only [timecode_CanDrop.f]
  split
  all_goals simp_all

theorem day_ev (b : Int) (d : Bool) : Ev (fun k => timecode_Day.f k b d) (if Okb b d then (dayV b d, 0) else (0, 1)) := by
  unfold timecode_Day.f
  refine Ev.bind (isBase_ev b) ?_
  by_cases hk : Kn b = true
  · by_cases ho : Okb b d = true
    · rw [if_pos hk, if_pos ho, tenMinutes_eq b d ho, canDrop_eq]
      have hw : wrap64 (144 * tenV b d) = dayV b d := by
        rcases okb_cases ho with ⟨rfl, rfl⟩ | ⟨rfl, rfl⟩ | ⟨rfl, rfl⟩ | ⟨rfl, rfl⟩ | ⟨rfl, rfl⟩ | ⟨rfl, rfl⟩ | ⟨rfl, rfl⟩ | ⟨rfl, rfl⟩ <;> decide +kernel
      simp only [Option.bind_some, hw]
      cases d
      · exact Ev.now _
      · have : (b == 30 || b == 60) = true := by simpa [Okb, hk] using ho
        rw [this]
        exact Ev.now _
    · rw [if_pos hk, if_neg ho, canDrop_eq]
      cases d
      · exact absurd (by simp [Okb, hk]) ho
      · have : (b == 30 || b == 60) = false := by
          rw [Bool.eq_false_iff]; intro h; exact ho (by simpa [Okb, hk] using h)
        simp only [Option.bind_some, this]
        exact Ev.now _
  · rw [if_neg hk, if_neg (by simp [Okb, hk])]
    exact Ev.now _

/-- Frame number n of the day: its minute, and what is left in the minute, the gap counted. -/
def minV (N b : Int) (d : Bool) : Int := 10 * (N / tenV b d) + (if N % tenV b d ≥ 60 * b then 1 + (N % tenV b d - 60 * b) / (60 * b - gapV b d) else 0)
def restV (N b : Int) (d : Bool) : Int := if N % tenV b d ≥ 60 * b then (N % tenV b d - 60 * b) % (60 * b - gapV b d) + gapV b d else N % tenV b d

/-- The label of frame n. -/
def labV (n b : Int) (d : Bool) : Int × Int × Int × Int × Int × Bool × Int :=
  (minV (n % dayV b d) b d / 60, minV (n % dayV b d) b d % 60, restV (n % dayV b d) b d / b, restV (n % dayV b d) b d % b, b, d, 0)

theorem within_eq (n m : Int) (hn : -9223372036854775808 ≤ n ∧ n ≤ 9223372036854775807) (hm : 0 < m) (hm2 : m ≤ 9223372036854775807) : timecode_within.f n m = some (n % m) := by
  unfold timecode_within.f
  rw [if_neg (by omega)]
  have h1 := Int.tmod_add_mul_tdiv n m
  have h2 : n % m = (Int.tmod n m) % m := by
    conv => lhs; rw [← h1]
    rw [Int.add_mul_emod_self_left]
  by_cases hs : 0 ≤ n
  · rw [tmd n m hs, if_neg (by have := Int.emod_nonneg n (show m ≠ 0 by omega); omega)]
  · have h3 : Int.tmod n m ≤ 0 := by
      have := Int.tmod_nonneg m (show 0 ≤ -n by omega)
      rw [Int.neg_tmod] at this; omega
    have h4 : -m < Int.tmod n m := by
      have := Int.tmod_lt_of_pos (-n) hm
      rw [Int.neg_tmod] at this; omega
    by_cases hz : Int.tmod n m < 0
    · rw [if_pos hz, w64 _ (by omega) (by omega), h2]
      congr 1
      rw [← Int.add_emod_right, Int.emod_eq_of_lt (by omega) (by omega)]
    · have h0 : Int.tmod n m = 0 := by omega
      rw [if_neg hz, h2, h0]; simp

theorem label_ev (n b : Int) (d : Bool) (hn : -9223372036854775808 ≤ n ∧ n ≤ 9223372036854775807) :
    Ev (fun k => timecode_Label.f k n b d) (if Okb b d then labV n b d else (0, 0, 0, 0, 0, false, 1)) := by
  unfold timecode_Label.f
  refine Ev.bind (day_ev b d) ?_
  by_cases ho : Okb b d = true
  · have hd : 0 < dayV b d ∧ dayV b d ≤ 9223372036854775807 := by
      rcases okb_cases ho with ⟨rfl, rfl⟩ | ⟨rfl, rfl⟩ | ⟨rfl, rfl⟩ | ⟨rfl, rfl⟩ | ⟨rfl, rfl⟩ | ⟨rfl, rfl⟩ | ⟨rfl, rfl⟩ | ⟨rfl, rfl⟩ <;> decide
    simp only [if_pos ho, if_true, within_eq n _ hn hd.1 hd.2, dropped_eq b d ho, tenMinutes_eq b d ho, Option.bind_some]
    unfold labV
    have h0 := Int.emod_nonneg n (show dayV b d ≠ 0 by omega)
    have h1 := Int.emod_lt_of_pos n hd.1
    clear hd
    generalize n % dayV b d = N at *
    rcases okb_cases ho with ⟨rfl, rfl⟩ | ⟨rfl, rfl⟩ | ⟨rfl, rfl⟩ | ⟨rfl, rfl⟩ | ⟨rfl, rfl⟩ | ⟨rfl, rfl⟩ | ⟨rfl, rfl⟩ | ⟨rfl, rfl⟩ <;>
    · simp only [dayV, tenV, gapV, if_true, Bool.false_eq_true, if_false, Int.reduceMul, Int.reduceSub, Int.reduceDiv] at h1
      refine Ev.congr (f := fun _ => some _) (fun k => ?_) (Ev.now _)
      simp (disch := omega) only [minV, restV, tenV, gapV, if_true, Bool.false_eq_true, if_false, w64, tdv, tmd, Int.reduceMul, Int.reduceSub, Int.reduceAdd, Int.reduceDiv, Int.reduceEq]
      split
      · try simp (disch := omega) only [w64, tdv, tmd]
        simp only [Option.some.injEq, Prod.mk.injEq, and_true, true_and]
        omega
      · try simp (disch := omega) only [w64, tdv, tmd]
        simp only [Option.some.injEq, Prod.mk.injEq, and_true, true_and]
        omega
  · simp only [if_neg ho, if_false]
    exact Ev.now _

theorem known_eq (b : Int) : cutroomref19_Known.f b = some (Kn b) := by
  simp only [cutroomref19_Known.f, Kn]
  repeat' split
  all_goals simp_all


theorem awake_ev : Ev (fun k => cutroomlaw19_awake.f k) true := by
  refine Ev.of cutroomlaw19_awake.mono (k := 60) ?_
  decide +kernel

/-- Whether a rate is b or 1000/1001 of it; the base of a rate. -/
def isB (x y b : Int) : Bool := (x == 1000 * b && y == 1001) || (x == b && y == 1)
def baseV (x y : Int) : Int × Int :=
  if isB x y 24 then (24, 0) else if isB x y 25 then (25, 0) else if isB x y 30 then (30, 0) else if isB x y 48 then (48, 0) else if isB x y 50 then (50, 0) else if isB x y 60 then (60, 0) else (0, 1)

theorem of_ev (b : Int) (h : Kn b = true) : Ev (fun k => rational_Of.f k (wrap64 (b * 1000)) 1001) (1000 * b, 1001, 0) := by
  have hb : b = 24 ∨ b = 25 ∨ b = 30 ∨ b = 48 ∨ b = 50 ∨ b = 60 := by simp [Kn] at h; omega
  rcases hb with rfl | rfl | rfl | rfl | rfl | rfl <;> exact Ev.of (rational_Of.mono _ _) (k := 40) (by decide +kernel)

theorem base_step (x y : Int) (i : Nat) (b : Int) (hi : i < 6) (hb : rd [24, 25, 30, 48, 50, 60] (i : Int) = b) (hk : Kn b = true) (r : Int × Int)
    (h : Ev (fun k => timecode_Base.l0 k [24, 25, 30, 48, 50, 60] 6 ((i : Int) + 1) x y) r) :
    Ev (fun k => timecode_Base.l0 k [24, 25, 30, 48, 50, 60] 6 (i : Int) x y) (if isB x y b then (b, 0) else r) := by
  refine Ev.step (f := fun k => _) (fun k => by rw [timecode_Base.l0]) ?_
  have hl : ((i : Int) < (([24, 25, 30, 48, 50, 60] : List Int).length : Int)) := by simp; omega
  simp only [if_pos (show (i : Int) < 6 by omega), if_pos (show (0 : Int) ≤ (i : Int) by omega), if_pos hl, hb]
  refine Ev.bind (of_ev b hk) ?_
  rw [w64 _ (by omega) (by omega)]
  by_cases c1 : (x == 1000 * b && y == 1001) = true
  · simp only [c1, if_true, isB, Bool.true_or]; exact Ev.now _
  · have c1' := Bool.eq_false_iff.mpr c1
    by_cases c2 : (x == b && y == 1) = true
    · simp only [c1', c2, if_true, isB, Bool.or_true, Bool.false_eq_true, if_false]; exact Ev.now _
    · have c2' := Bool.eq_false_iff.mpr c2
      simp only [c1', c2', isB, Bool.or_self, Bool.false_eq_true, if_false]; exact h

theorem base_ev (x y : Int) : Ev (fun k => timecode_Base.f k x y) (baseV x y) := by
  unfold timecode_Base.f timecode_bases.f baseV
  simp only [Option.bind_some]
  show Ev (fun k => timecode_Base.l0 k [24, 25, 30, 48, 50, 60] 6 0 x y) _
  refine base_step x y 0 24 (by omega) (by decide) (by decide) _ ?_
  refine base_step x y 1 25 (by omega) (by decide) (by decide) _ ?_
  refine base_step x y 2 30 (by omega) (by decide) (by decide) _ ?_
  refine base_step x y 3 48 (by omega) (by decide) (by decide) _ ?_
  refine base_step x y 4 50 (by omega) (by decide) (by decide) _ ?_
  refine base_step x y 5 60 (by omega) (by decide) (by decide) _ ?_
  refine Ev.step (f := fun k => _) (fun k => by rw [timecode_Base.l0]) ?_
  simp only [if_neg (show ¬ ((5 : Nat) : Int) + 1 < 6 by omega)]
  exact Ev.now _

theorem below_ev (b : Int) (h : Kn b = true) : Ev (fun k => cutroomref19_below.f k b) (1000 * b, 1001) := by
  have hb : b = 24 ∨ b = 25 ∨ b = 30 ∨ b = 48 ∨ b = 50 ∨ b = 60 := by simp [Kn] at h; omega
  rcases hb with rfl | rfl | rfl | rfl | rfl | rfl <;> exact Ev.of (cutroomref19_below.mono _) (k := 10) (by decide +kernel)

theorem rbase_skip (x y b : Int) (h0 : 24 ≤ b) (h1 : b ≤ 60) (hk : Kn b = false) (r : Int × Int) (h : Ev (fun k => cutroomref19_Base.l0 k (b + 1) x y) r) :
    Ev (fun k => cutroomref19_Base.l0 k b x y) r := by
  refine Ev.step (f := fun k => _) (fun k => by rw [cutroomref19_Base.l0]) ?_
  simp only [if_pos h1, known_eq, hk, Option.bind_some, Bool.false_eq_true, if_false]
  rw [w64 _ (by omega) (by omega)]
  exact h

theorem rbase_step (x y b : Int) (h1 : b ≤ 60) (hk : Kn b = true) (r : Int × Int) (h : Ev (fun k => cutroomref19_Base.l0 k (b + 1) x y) r) :
    Ev (fun k => cutroomref19_Base.l0 k b x y) (if isB x y b then (b, 0) else r) := by
  have h0 : 24 ≤ b := by simp [Kn] at hk; omega
  refine Ev.step (f := fun k => _) (fun k => by rw [cutroomref19_Base.l0]) ?_
  simp only [if_pos h1, known_eq, hk, Option.bind_some, if_true]
  rw [w64 _ (by omega) (by omega)]
  by_cases c2 : (x == b && y == 1) = true
  · simp only [c2, if_true, isB, Bool.or_true]; exact Ev.now _
  · have c2' := Bool.eq_false_iff.mpr c2
    simp only [c2', Bool.false_eq_true, if_false]
    refine Ev.bind (below_ev b hk) ?_
    by_cases c1 : (x == 1000 * b && y == 1001) = true
    · simp only [c1, if_true, isB, Bool.true_or]; exact Ev.now _
    · have c1' := Bool.eq_false_iff.mpr c1
      simp only [c1', c2', isB, Bool.or_self, Bool.false_eq_true, if_false]; exact h

theorem rbase_skips (x y : Int) (t : Nat) : ∀ b c : Int, 24 ≤ b → b + t = c → c ≤ 61 → (∀ z, b ≤ z → z < c → Kn z = false) → ∀ r, Ev (fun k => cutroomref19_Base.l0 k c x y) r → Ev (fun k => cutroomref19_Base.l0 k b x y) r := by
  induction t with
  | zero =>
    intro b c _ h _ _ r hr
    have : b = c := by omega
    rw [this]; exact hr
  | succ t ih =>
    intro b c h0 h h1 hz r hr
    exact rbase_skip x y b h0 (by omega) (hz b (by omega) (by omega)) r (ih (b + 1) c (by omega) (by omega) h1 (fun z z0 z1 => hz z (by omega) z1) r hr)

theorem kn_no (z : Int) (h : ¬ (z = 24 ∨ z = 25 ∨ z = 30 ∨ z = 48 ∨ z = 50 ∨ z = 60)) : Kn z = false := by
  rw [Bool.eq_false_iff]; intro hk; apply h; simp [Kn] at hk; omega

theorem rbase_ev (x y : Int) : Ev (fun k => cutroomref19_Base.f k x y) (baseV x y) := by
  unfold cutroomref19_Base.f baseV
  refine rbase_step x y 24 (by omega) (by decide) _ ?_
  refine rbase_step x y 25 (by omega) (by decide) _ ?_
  refine rbase_skips x y 4 26 30 (by omega) (by omega) (by omega) (fun z _ _ => kn_no z (by omega)) _ ?_
  refine rbase_step x y 30 (by omega) (by decide) _ ?_
  refine rbase_skips x y 17 31 48 (by omega) (by omega) (by omega) (fun z _ _ => kn_no z (by omega)) _ ?_
  refine rbase_step x y 48 (by omega) (by decide) _ ?_
  refine rbase_skips x y 1 49 50 (by omega) (by omega) (by omega) (fun z _ _ => kn_no z (by omega)) _ ?_
  refine rbase_step x y 50 (by omega) (by decide) _ ?_
  refine rbase_skips x y 9 51 60 (by omega) (by omega) (by omega) (fun z _ _ => kn_no z (by omega)) _ ?_
  refine rbase_step x y 60 (by omega) (by decide) _ ?_
  refine Ev.step (f := fun k => _) (fun k => by rw [cutroomref19_Base.l0]) ?_
  simp only [if_neg (show ¬ (60 : Int) + 1 ≤ 60 by omega)]
  exact Ev.now _

theorem TimecodeBases (x y b : Int) : ∃ k, cutroomlaw19_TimecodeBases.f k x y b = some true := by
  refine Ev.rounds ?_
  unfold cutroomlaw19_TimecodeBases.f
  refine Ev.bind (base_ev x y) (Ev.bind (rbase_ev x y) ?_)
  simp only [if_true, canDrop_eq, Option.bind_some]
  by_cases h : b = 30
  · simp only [if_pos h, h, beq_self_eq_true, Bool.true_or, if_true]; exact Ev.bind awake_ev (Ev.now _)
  · have : (b == 30) = false := by simpa using h
    simp only [if_neg h, this, Bool.false_or, beq_self_eq_true, if_true]; exact Ev.bind awake_ev (Ev.now _)

end Go.Proofs.Ytfdhjnfpppafaaa.Pure
