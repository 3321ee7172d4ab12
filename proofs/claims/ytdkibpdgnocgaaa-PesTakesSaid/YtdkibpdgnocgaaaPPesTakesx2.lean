-- Written for this claim by a turned copy of the kit's print (wip/printx/mk.py). By an AI agent.
import Derived.Test.YtdkibpdgnocgaaaPPesTakesx0
namespace Go.Proofs.Ytdkibpdgnocgaaa.PPesTakes
open Go.RowKit Go.Proofs.YtdkibpdgnocgaaaW.PrintWords Go.Proofs.YtdkibpdgnocgaaaW.PrintLast Go.Proofs.YtdkibpdgnocgaaaW.PrintMore
attribute [local go_sem] max2_int min2_int max_two min_two max_three min_three max_four min_four   -- for this text's walks alone
set_option linter.unusedVariables false
set_option linter.unusedSimpArgs false

/-! ### pes_stamped: function 36 -/
def pes_stamped.f (a0 : Int) : Option (Int × Bool) := if a0 = 0 then (some (0, true)) else (if a0 = 128 then (some (5, true)) else (if a0 = 192 then (some (10, true)) else (some (0, false))))
set_option maxHeartbeats 8000000 in
set_option maxRecDepth 100000 in
theorem pes_stamped.calls (a0 : Int) (r1 : Int) (r2 : Bool) (w : World) (h : pes_stamped.f a0 = some (r1, r2)) :
    Calls Try.prog 36 #[.int .u8 a0] w fun e w' => e = .returned (.tuple #[.int .i64 r1, .bool r2]) ∧ Drawn0 w w' := by
  have H : (if a0 = 0 then (some (0, true)) else (if a0 = 128 then (some (5, true)) else (if a0 = 192 then (some (10, true)) else (some (0, false))))) = some (r1, r2) := h
  clear h
  by_cases c2 : a0 = 0
  · rw [if_pos c2] at H
    have c2b0 : (a0 == 0) = true := beq_iff_eq.mpr c2
    have c2b1 : (a0 != 0) = false := bne_eq_false_iff_eq.mpr c2
    clear c2
    simp only [Option.some.injEq, Prod.mk.injEq] at H
    obtain ⟨rfl, rfl⟩ := H
    go_enter Try.func36, Try.ntmps36
    go_wp2
    go_ret2
    exact ⟨by first | rfl | (simp; done) | (simp [*]; done), by repeat (first | exact Drawn0.refl _ | apply Drawn0.step)⟩
  · rw [if_neg c2] at H
    have c2b0 : (a0 == 0) = false := beq_eq_false_iff_ne.mpr c2
    have c2b1 : (a0 != 0) = true := bne_iff_ne.mpr c2
    by_cases c3 : a0 = 128
    · rw [if_pos c3] at H
      have c3b0 : (a0 == 128) = true := beq_iff_eq.mpr c3
      have c3b1 : (a0 != 128) = false := bne_eq_false_iff_eq.mpr c3
      clear c3
      simp only [Option.some.injEq, Prod.mk.injEq] at H
      obtain ⟨rfl, rfl⟩ := H
      go_enter Try.func36, Try.ntmps36
      go_wp2
      go_ret2
      exact ⟨by first | rfl | (simp; done) | (simp [*]; done), by repeat (first | exact Drawn0.refl _ | apply Drawn0.step)⟩
    · rw [if_neg c3] at H
      have c3b0 : (a0 == 128) = false := beq_eq_false_iff_ne.mpr c3
      have c3b1 : (a0 != 128) = true := bne_iff_ne.mpr c3
      by_cases c4 : a0 = 192
      · rw [if_pos c4] at H
        have c4b0 : (a0 == 192) = true := beq_iff_eq.mpr c4
        have c4b1 : (a0 != 192) = false := bne_eq_false_iff_eq.mpr c4
        clear c4
        simp only [Option.some.injEq, Prod.mk.injEq] at H
        obtain ⟨rfl, rfl⟩ := H
        go_enter Try.func36, Try.ntmps36
        go_wp2
        go_ret2
        exact ⟨by first | rfl | (simp; done) | (simp [*]; done), by repeat (first | exact Drawn0.refl _ | apply Drawn0.step)⟩
      · rw [if_neg c4] at H
        have c4b0 : (a0 == 192) = false := beq_eq_false_iff_ne.mpr c4
        have c4b1 : (a0 != 192) = true := bne_iff_ne.mpr c4
        simp only [Option.some.injEq, Prod.mk.injEq] at H
        obtain ⟨rfl, rfl⟩ := H
        go_enter Try.func36, Try.ntmps36
        go_wp2
        go_ret2
        exact ⟨by first | rfl | (simp; done) | (simp [*]; done), by repeat (first | exact Drawn0.refl _ | apply Drawn0.step)⟩

/-! ### pes_unstamp: function 37 -/
def pes_unstamp.f (l0 : List Int) (a1 : Int) : Option (Int × Bool) := if 0 < (l0.length : Int) then (if 1 < (l0.length : Int) then (if 2 < (l0.length : Int) then (if 3 < (l0.length : Int) then (if 4 < (l0.length : Int) then (if (wrap64 ((rd l0 0) / 16)) = a1 then (if (Go.bits .and .u8 (rd l0 0) 1) = 1 then (if (Go.bits .and .u8 (rd l0 2) 1) = 1 then (some (Go.bits .or .i64 (Go.bits .or .i64 (Go.bits .or .i64 (Go.bits .or .i64 (wrap64 ((wrap64 (Go.bits .and .u8 ((rd l0 0) / 2) 7)) * 1073741824)) (wrap64 ((wrap64 (rd l0 1)) * 4194304))) (wrap64 ((wrap64 ((rd l0 2) / 2)) * 32768))) (wrap64 ((wrap64 (rd l0 3)) * 128))) (wrap64 ((rd l0 4) / 2)), ((Go.bits .and .u8 (rd l0 4) 1) == 1))) else (some (Go.bits .or .i64 (Go.bits .or .i64 (Go.bits .or .i64 (Go.bits .or .i64 (wrap64 ((wrap64 (Go.bits .and .u8 ((rd l0 0) / 2) 7)) * 1073741824)) (wrap64 ((wrap64 (rd l0 1)) * 4194304))) (wrap64 ((wrap64 ((rd l0 2) / 2)) * 32768))) (wrap64 ((wrap64 (rd l0 3)) * 128))) (wrap64 ((rd l0 4) / 2)), false))) else (some (Go.bits .or .i64 (Go.bits .or .i64 (Go.bits .or .i64 (Go.bits .or .i64 (wrap64 ((wrap64 (Go.bits .and .u8 ((rd l0 0) / 2) 7)) * 1073741824)) (wrap64 ((wrap64 (rd l0 1)) * 4194304))) (wrap64 ((wrap64 ((rd l0 2) / 2)) * 32768))) (wrap64 ((wrap64 (rd l0 3)) * 128))) (wrap64 ((rd l0 4) / 2)), false))) else (some (Go.bits .or .i64 (Go.bits .or .i64 (Go.bits .or .i64 (Go.bits .or .i64 (wrap64 ((wrap64 (Go.bits .and .u8 ((rd l0 0) / 2) 7)) * 1073741824)) (wrap64 ((wrap64 (rd l0 1)) * 4194304))) (wrap64 ((wrap64 ((rd l0 2) / 2)) * 32768))) (wrap64 ((wrap64 (rd l0 3)) * 128))) (wrap64 ((rd l0 4) / 2)), false))) else (none)) else (none)) else (none)) else (none)) else (none)
set_option maxHeartbeats 8000000 in
set_option maxRecDepth 100000 in
theorem pes_unstamp.calls (A0 : Option Addr) (c0 : Nat) (l0 : List Int) (a1 : Int) (r1 : Int) (r2 : Bool) (w : World) (hr0 : Kd.C (Kd.int .u8) w A0 l0.length l0) (hc0 : l0.length ≤ c0) (h : pes_unstamp.f l0 a1 = some (r1, r2)) :
    Calls Try.prog 37 #[.slice A0 l0.length c0, .int .i64 a1] w fun e w' => e = .returned (.tuple #[.int .i64 r1, .bool r2]) ∧ Drawn0 w w' := by
  have HR0 := Aside0.mk hr0
  have HC0 := Aside0.mk hc0
  clear hr0 hc0
  have H : (if 0 < (l0.length : Int) then (if 1 < (l0.length : Int) then (if 2 < (l0.length : Int) then (if 3 < (l0.length : Int) then (if 4 < (l0.length : Int) then (if (wrap64 ((rd l0 0) / 16)) = a1 then (if (Go.bits .and .u8 (rd l0 0) 1) = 1 then (if (Go.bits .and .u8 (rd l0 2) 1) = 1 then (some (Go.bits .or .i64 (Go.bits .or .i64 (Go.bits .or .i64 (Go.bits .or .i64 (wrap64 ((wrap64 (Go.bits .and .u8 ((rd l0 0) / 2) 7)) * 1073741824)) (wrap64 ((wrap64 (rd l0 1)) * 4194304))) (wrap64 ((wrap64 ((rd l0 2) / 2)) * 32768))) (wrap64 ((wrap64 (rd l0 3)) * 128))) (wrap64 ((rd l0 4) / 2)), ((Go.bits .and .u8 (rd l0 4) 1) == 1))) else (some (Go.bits .or .i64 (Go.bits .or .i64 (Go.bits .or .i64 (Go.bits .or .i64 (wrap64 ((wrap64 (Go.bits .and .u8 ((rd l0 0) / 2) 7)) * 1073741824)) (wrap64 ((wrap64 (rd l0 1)) * 4194304))) (wrap64 ((wrap64 ((rd l0 2) / 2)) * 32768))) (wrap64 ((wrap64 (rd l0 3)) * 128))) (wrap64 ((rd l0 4) / 2)), false))) else (some (Go.bits .or .i64 (Go.bits .or .i64 (Go.bits .or .i64 (Go.bits .or .i64 (wrap64 ((wrap64 (Go.bits .and .u8 ((rd l0 0) / 2) 7)) * 1073741824)) (wrap64 ((wrap64 (rd l0 1)) * 4194304))) (wrap64 ((wrap64 ((rd l0 2) / 2)) * 32768))) (wrap64 ((wrap64 (rd l0 3)) * 128))) (wrap64 ((rd l0 4) / 2)), false))) else (some (Go.bits .or .i64 (Go.bits .or .i64 (Go.bits .or .i64 (Go.bits .or .i64 (wrap64 ((wrap64 (Go.bits .and .u8 ((rd l0 0) / 2) 7)) * 1073741824)) (wrap64 ((wrap64 (rd l0 1)) * 4194304))) (wrap64 ((wrap64 ((rd l0 2) / 2)) * 32768))) (wrap64 ((wrap64 (rd l0 3)) * 128))) (wrap64 ((rd l0 4) / 2)), false))) else (none)) else (none)) else (none)) else (none)) else (none)) = some (r1, r2) := h
  clear h
  by_cases c3 : 0 < (l0.length : Int)
  · rw [if_pos c3] at H
    have c3b0 : decide (0 < (l0.length : Int)) = true := decide_eq_true c3
    have c3b1 : decide (0 < l0.length) = true := decide_eq_true (by omega)
    clear c3
    by_cases c4 : 1 < (l0.length : Int)
    · rw [if_pos c4] at H
      have c4b0 : decide (1 < (l0.length : Int)) = true := decide_eq_true c4
      have c4b1 : decide (1 < l0.length) = true := decide_eq_true (by omega)
      clear c4
      by_cases c5 : 2 < (l0.length : Int)
      · rw [if_pos c5] at H
        have c5b0 : decide (2 < (l0.length : Int)) = true := decide_eq_true c5
        have c5b1 : decide (2 < l0.length) = true := decide_eq_true (by omega)
        clear c5
        by_cases c6 : 3 < (l0.length : Int)
        · rw [if_pos c6] at H
          have c6b0 : decide (3 < (l0.length : Int)) = true := decide_eq_true c6
          have c6b1 : decide (3 < l0.length) = true := decide_eq_true (by omega)
          clear c6
          by_cases c7 : 4 < (l0.length : Int)
          · rw [if_pos c7] at H
            have c7b0 : decide (4 < (l0.length : Int)) = true := decide_eq_true c7
            have c7b1 : decide (4 < l0.length) = true := decide_eq_true (by omega)
            clear c7
            by_cases c8 : (wrap64 ((rd l0 0) / 16)) = a1
            · rw [if_pos c8] at H
              have c8b0 : ((wrap64 ((rd l0 0) / 16)) == a1) = true := beq_iff_eq.mpr c8
              have c8b1 : ((wrap64 ((rd l0 0) / 16)) != a1) = false := bne_eq_false_iff_eq.mpr c8
              clear c8
              by_cases c9 : (Go.bits .and .u8 (rd l0 0) 1) = 1
              · rw [if_pos c9] at H
                have c9b0 : ((Go.bits .and .u8 (rd l0 0) 1) == 1) = true := beq_iff_eq.mpr c9
                have c9b1 : ((Go.bits .and .u8 (rd l0 0) 1) != 1) = false := bne_eq_false_iff_eq.mpr c9
                clear c9
                by_cases c10 : (Go.bits .and .u8 (rd l0 2) 1) = 1
                · rw [if_pos c10] at H
                  have c10b0 : ((Go.bits .and .u8 (rd l0 2) 1) == 1) = true := beq_iff_eq.mpr c10
                  have c10b1 : ((Go.bits .and .u8 (rd l0 2) 1) != 1) = false := bne_eq_false_iff_eq.mpr c10
                  clear c10
                  simp only [Option.some.injEq, Prod.mk.injEq] at H
                  obtain ⟨rfl, rfl⟩ := H
                  have p157 : 0 ≤ (0 : Int) := (by omega)
                  have q157 : 0 < (l0.length : Int) := of_decide_eq_true (by first | (with_reducible assumption) | assumption)
                  obtain ⟨ad157, e157, hx157_0⟩ := Kd.at_int HR0.out 0 p157 q157
                  cases e157
                  have qi157 : (0 < l0.length) = True := eq_true (by omega)
                  (try rw [show ((0 : Int)).toNat = 0 from rfl] at hx157_0)
                  (try rw [Addr.add_zero'] at hx157_0)
                  replace p157 := eq_true p157
                  replace q157 := eq_true q157
                  have p158 : 0 ≤ (1 : Int) := (by omega)
                  have q158 : 1 < (l0.length : Int) := of_decide_eq_true (by first | (with_reducible assumption) | assumption)
                  obtain ⟨ad158, e158, hx158_0⟩ := Kd.at_int HR0.out 1 p158 q158
                  obtain rfl : ad157 = ad158 := (by injection e158)
                  (try simp only [show (1 : Int).toNat = 1 from rfl, Nat.reduceMul, Nat.reduceEqDiff, Go.Addr.add, ↓reduceIte] at hx158_0)
                  have qi158 : (1 < l0.length) = True := eq_true (by omega)
                  (try rw [show ((1 : Int)).toNat = 1 from rfl] at hx158_0)
                  replace p158 := eq_true p158
                  replace q158 := eq_true q158
                  have p159 : 0 ≤ (2 : Int) := (by omega)
                  have q159 : 2 < (l0.length : Int) := of_decide_eq_true (by first | (with_reducible assumption) | assumption)
                  obtain ⟨ad159, e159, hx159_0⟩ := Kd.at_int HR0.out 2 p159 q159
                  obtain rfl : ad157 = ad159 := (by injection e159)
                  (try simp only [show (2 : Int).toNat = 2 from rfl, Nat.reduceMul, Nat.reduceEqDiff, Go.Addr.add, ↓reduceIte] at hx159_0)
                  have qi159 : (2 < l0.length) = True := eq_true (by omega)
                  (try rw [show ((2 : Int)).toNat = 2 from rfl] at hx159_0)
                  replace p159 := eq_true p159
                  replace q159 := eq_true q159
                  have p160 : 0 ≤ (3 : Int) := (by omega)
                  have q160 : 3 < (l0.length : Int) := of_decide_eq_true (by first | (with_reducible assumption) | assumption)
                  obtain ⟨ad160, e160, hx160_0⟩ := Kd.at_int HR0.out 3 p160 q160
                  obtain rfl : ad157 = ad160 := (by injection e160)
                  (try simp only [show (3 : Int).toNat = 3 from rfl, Nat.reduceMul, Nat.reduceEqDiff, Go.Addr.add, ↓reduceIte] at hx160_0)
                  have qi160 : (3 < l0.length) = True := eq_true (by omega)
                  (try rw [show ((3 : Int)).toNat = 3 from rfl] at hx160_0)
                  replace p160 := eq_true p160
                  replace q160 := eq_true q160
                  have p161 : 0 ≤ (4 : Int) := (by omega)
                  have q161 : 4 < (l0.length : Int) := of_decide_eq_true (by first | (with_reducible assumption) | assumption)
                  obtain ⟨ad161, e161, hx161_0⟩ := Kd.at_int HR0.out 4 p161 q161
                  obtain rfl : ad157 = ad161 := (by injection e161)
                  (try simp only [show (4 : Int).toNat = 4 from rfl, Nat.reduceMul, Nat.reduceEqDiff, Go.Addr.add, ↓reduceIte] at hx161_0)
                  have qi161 : (4 < l0.length) = True := eq_true (by omega)
                  (try rw [show ((4 : Int)).toNat = 4 from rfl] at hx161_0)
                  replace p161 := eq_true p161
                  replace q161 := eq_true q161
                  have p162 : 0 ≤ (0 : Int) := (by omega)
                  have q162 : 0 < (l0.length : Int) := of_decide_eq_true (by first | (with_reducible assumption) | assumption)
                  obtain ⟨ad162, e162, hx162_0⟩ := Kd.at_int HR0.out 0 p162 q162
                  obtain rfl : ad157 = ad162 := (by injection e162)
                  have qi162 : (0 < l0.length) = True := eq_true (by omega)
                  (try rw [show ((0 : Int)).toNat = 0 from rfl] at hx162_0)
                  (try rw [Addr.add_zero'] at hx162_0)
                  replace p162 := eq_true p162
                  replace q162 := eq_true q162
                  have p163 : 0 ≤ (0 : Int) := (by omega)
                  have q163 : 0 < (l0.length : Int) := of_decide_eq_true (by first | (with_reducible assumption) | assumption)
                  obtain ⟨ad163, e163, hx163_0⟩ := Kd.at_int HR0.out 0 p163 q163
                  obtain rfl : ad157 = ad163 := (by injection e163)
                  have qi163 : (0 < l0.length) = True := eq_true (by omega)
                  (try rw [show ((0 : Int)).toNat = 0 from rfl] at hx163_0)
                  (try rw [Addr.add_zero'] at hx163_0)
                  replace p163 := eq_true p163
                  replace q163 := eq_true q163
                  have p164 : 0 ≤ (2 : Int) := (by omega)
                  have q164 : 2 < (l0.length : Int) := of_decide_eq_true (by first | (with_reducible assumption) | assumption)
                  obtain ⟨ad164, e164, hx164_0⟩ := Kd.at_int HR0.out 2 p164 q164
                  obtain rfl : ad157 = ad164 := (by injection e164)
                  (try simp only [show (2 : Int).toNat = 2 from rfl, Nat.reduceMul, Nat.reduceEqDiff, Go.Addr.add, ↓reduceIte] at hx164_0)
                  have qi164 : (2 < l0.length) = True := eq_true (by omega)
                  (try rw [show ((2 : Int)).toNat = 2 from rfl] at hx164_0)
                  replace p164 := eq_true p164
                  replace q164 := eq_true q164
                  have p165 : 0 ≤ (4 : Int) := (by omega)
                  have q165 : 4 < (l0.length : Int) := of_decide_eq_true (by first | (with_reducible assumption) | assumption)
                  obtain ⟨ad165, e165, hx165_0⟩ := Kd.at_int HR0.out 4 p165 q165
                  obtain rfl : ad157 = ad165 := (by injection e165)
                  (try simp only [show (4 : Int).toNat = 4 from rfl, Nat.reduceMul, Nat.reduceEqDiff, Go.Addr.add, ↓reduceIte] at hx165_0)
                  have qi165 : (4 < l0.length) = True := eq_true (by omega)
                  (try rw [show ((4 : Int)).toNat = 4 from rfl] at hx165_0)
                  replace p165 := eq_true p165
                  replace q165 := eq_true q165
                  go_enter Try.func37, Try.ntmps37
                  go_wp2
                  repeat (go_quiet (fail); try go_wp2)
                  go_ret2
                  exact ⟨by first | rfl | (simp; done) | (simp [*]; done), by repeat (first | exact Drawn0.refl _ | apply Drawn0.step)⟩
                · rw [if_neg c10] at H
                  have c10b0 : ((Go.bits .and .u8 (rd l0 2) 1) == 1) = false := beq_eq_false_iff_ne.mpr c10
                  have c10b1 : ((Go.bits .and .u8 (rd l0 2) 1) != 1) = true := bne_iff_ne.mpr c10
                  simp only [Option.some.injEq, Prod.mk.injEq] at H
                  obtain ⟨rfl, rfl⟩ := H
                  have p157 : 0 ≤ (0 : Int) := (by omega)
                  have q157 : 0 < (l0.length : Int) := of_decide_eq_true (by first | (with_reducible assumption) | assumption)
                  obtain ⟨ad157, e157, hx157_0⟩ := Kd.at_int HR0.out 0 p157 q157
                  cases e157
                  have qi157 : (0 < l0.length) = True := eq_true (by omega)
                  (try rw [show ((0 : Int)).toNat = 0 from rfl] at hx157_0)
                  (try rw [Addr.add_zero'] at hx157_0)
                  replace p157 := eq_true p157
                  replace q157 := eq_true q157
                  have p158 : 0 ≤ (1 : Int) := (by omega)
                  have q158 : 1 < (l0.length : Int) := of_decide_eq_true (by first | (with_reducible assumption) | assumption)
                  obtain ⟨ad158, e158, hx158_0⟩ := Kd.at_int HR0.out 1 p158 q158
                  obtain rfl : ad157 = ad158 := (by injection e158)
                  (try simp only [show (1 : Int).toNat = 1 from rfl, Nat.reduceMul, Nat.reduceEqDiff, Go.Addr.add, ↓reduceIte] at hx158_0)
                  have qi158 : (1 < l0.length) = True := eq_true (by omega)
                  (try rw [show ((1 : Int)).toNat = 1 from rfl] at hx158_0)
                  replace p158 := eq_true p158
                  replace q158 := eq_true q158
                  have p159 : 0 ≤ (2 : Int) := (by omega)
                  have q159 : 2 < (l0.length : Int) := of_decide_eq_true (by first | (with_reducible assumption) | assumption)
                  obtain ⟨ad159, e159, hx159_0⟩ := Kd.at_int HR0.out 2 p159 q159
                  obtain rfl : ad157 = ad159 := (by injection e159)
                  (try simp only [show (2 : Int).toNat = 2 from rfl, Nat.reduceMul, Nat.reduceEqDiff, Go.Addr.add, ↓reduceIte] at hx159_0)
                  have qi159 : (2 < l0.length) = True := eq_true (by omega)
                  (try rw [show ((2 : Int)).toNat = 2 from rfl] at hx159_0)
                  replace p159 := eq_true p159
                  replace q159 := eq_true q159
                  have p160 : 0 ≤ (3 : Int) := (by omega)
                  have q160 : 3 < (l0.length : Int) := of_decide_eq_true (by first | (with_reducible assumption) | assumption)
                  obtain ⟨ad160, e160, hx160_0⟩ := Kd.at_int HR0.out 3 p160 q160
                  obtain rfl : ad157 = ad160 := (by injection e160)
                  (try simp only [show (3 : Int).toNat = 3 from rfl, Nat.reduceMul, Nat.reduceEqDiff, Go.Addr.add, ↓reduceIte] at hx160_0)
                  have qi160 : (3 < l0.length) = True := eq_true (by omega)
                  (try rw [show ((3 : Int)).toNat = 3 from rfl] at hx160_0)
                  replace p160 := eq_true p160
                  replace q160 := eq_true q160
                  have p161 : 0 ≤ (4 : Int) := (by omega)
                  have q161 : 4 < (l0.length : Int) := of_decide_eq_true (by first | (with_reducible assumption) | assumption)
                  obtain ⟨ad161, e161, hx161_0⟩ := Kd.at_int HR0.out 4 p161 q161
                  obtain rfl : ad157 = ad161 := (by injection e161)
                  (try simp only [show (4 : Int).toNat = 4 from rfl, Nat.reduceMul, Nat.reduceEqDiff, Go.Addr.add, ↓reduceIte] at hx161_0)
                  have qi161 : (4 < l0.length) = True := eq_true (by omega)
                  (try rw [show ((4 : Int)).toNat = 4 from rfl] at hx161_0)
                  replace p161 := eq_true p161
                  replace q161 := eq_true q161
                  have p162 : 0 ≤ (0 : Int) := (by omega)
                  have q162 : 0 < (l0.length : Int) := of_decide_eq_true (by first | (with_reducible assumption) | assumption)
                  obtain ⟨ad162, e162, hx162_0⟩ := Kd.at_int HR0.out 0 p162 q162
                  obtain rfl : ad157 = ad162 := (by injection e162)
                  have qi162 : (0 < l0.length) = True := eq_true (by omega)
                  (try rw [show ((0 : Int)).toNat = 0 from rfl] at hx162_0)
                  (try rw [Addr.add_zero'] at hx162_0)
                  replace p162 := eq_true p162
                  replace q162 := eq_true q162
                  have p163 : 0 ≤ (0 : Int) := (by omega)
                  have q163 : 0 < (l0.length : Int) := of_decide_eq_true (by first | (with_reducible assumption) | assumption)
                  obtain ⟨ad163, e163, hx163_0⟩ := Kd.at_int HR0.out 0 p163 q163
                  obtain rfl : ad157 = ad163 := (by injection e163)
                  have qi163 : (0 < l0.length) = True := eq_true (by omega)
                  (try rw [show ((0 : Int)).toNat = 0 from rfl] at hx163_0)
                  (try rw [Addr.add_zero'] at hx163_0)
                  replace p163 := eq_true p163
                  replace q163 := eq_true q163
                  have p164 : 0 ≤ (2 : Int) := (by omega)
                  have q164 : 2 < (l0.length : Int) := of_decide_eq_true (by first | (with_reducible assumption) | assumption)
                  obtain ⟨ad164, e164, hx164_0⟩ := Kd.at_int HR0.out 2 p164 q164
                  obtain rfl : ad157 = ad164 := (by injection e164)
                  (try simp only [show (2 : Int).toNat = 2 from rfl, Nat.reduceMul, Nat.reduceEqDiff, Go.Addr.add, ↓reduceIte] at hx164_0)
                  have qi164 : (2 < l0.length) = True := eq_true (by omega)
                  (try rw [show ((2 : Int)).toNat = 2 from rfl] at hx164_0)
                  replace p164 := eq_true p164
                  replace q164 := eq_true q164
                  go_enter Try.func37, Try.ntmps37
                  go_wp2
                  repeat (go_quiet (fail); try go_wp2)
                  go_ret2
                  exact ⟨by first | rfl | (simp; done) | (simp [*]; done), by repeat (first | exact Drawn0.refl _ | apply Drawn0.step)⟩
              · rw [if_neg c9] at H
                have c9b0 : ((Go.bits .and .u8 (rd l0 0) 1) == 1) = false := beq_eq_false_iff_ne.mpr c9
                have c9b1 : ((Go.bits .and .u8 (rd l0 0) 1) != 1) = true := bne_iff_ne.mpr c9
                simp only [Option.some.injEq, Prod.mk.injEq] at H
                obtain ⟨rfl, rfl⟩ := H
                have p157 : 0 ≤ (0 : Int) := (by omega)
                have q157 : 0 < (l0.length : Int) := of_decide_eq_true (by first | (with_reducible assumption) | assumption)
                obtain ⟨ad157, e157, hx157_0⟩ := Kd.at_int HR0.out 0 p157 q157
                cases e157
                have qi157 : (0 < l0.length) = True := eq_true (by omega)
                (try rw [show ((0 : Int)).toNat = 0 from rfl] at hx157_0)
                (try rw [Addr.add_zero'] at hx157_0)
                replace p157 := eq_true p157
                replace q157 := eq_true q157
                have p158 : 0 ≤ (1 : Int) := (by omega)
                have q158 : 1 < (l0.length : Int) := of_decide_eq_true (by first | (with_reducible assumption) | assumption)
                obtain ⟨ad158, e158, hx158_0⟩ := Kd.at_int HR0.out 1 p158 q158
                obtain rfl : ad157 = ad158 := (by injection e158)
                (try simp only [show (1 : Int).toNat = 1 from rfl, Nat.reduceMul, Nat.reduceEqDiff, Go.Addr.add, ↓reduceIte] at hx158_0)
                have qi158 : (1 < l0.length) = True := eq_true (by omega)
                (try rw [show ((1 : Int)).toNat = 1 from rfl] at hx158_0)
                replace p158 := eq_true p158
                replace q158 := eq_true q158
                have p159 : 0 ≤ (2 : Int) := (by omega)
                have q159 : 2 < (l0.length : Int) := of_decide_eq_true (by first | (with_reducible assumption) | assumption)
                obtain ⟨ad159, e159, hx159_0⟩ := Kd.at_int HR0.out 2 p159 q159
                obtain rfl : ad157 = ad159 := (by injection e159)
                (try simp only [show (2 : Int).toNat = 2 from rfl, Nat.reduceMul, Nat.reduceEqDiff, Go.Addr.add, ↓reduceIte] at hx159_0)
                have qi159 : (2 < l0.length) = True := eq_true (by omega)
                (try rw [show ((2 : Int)).toNat = 2 from rfl] at hx159_0)
                replace p159 := eq_true p159
                replace q159 := eq_true q159
                have p160 : 0 ≤ (3 : Int) := (by omega)
                have q160 : 3 < (l0.length : Int) := of_decide_eq_true (by first | (with_reducible assumption) | assumption)
                obtain ⟨ad160, e160, hx160_0⟩ := Kd.at_int HR0.out 3 p160 q160
                obtain rfl : ad157 = ad160 := (by injection e160)
                (try simp only [show (3 : Int).toNat = 3 from rfl, Nat.reduceMul, Nat.reduceEqDiff, Go.Addr.add, ↓reduceIte] at hx160_0)
                have qi160 : (3 < l0.length) = True := eq_true (by omega)
                (try rw [show ((3 : Int)).toNat = 3 from rfl] at hx160_0)
                replace p160 := eq_true p160
                replace q160 := eq_true q160
                have p161 : 0 ≤ (4 : Int) := (by omega)
                have q161 : 4 < (l0.length : Int) := of_decide_eq_true (by first | (with_reducible assumption) | assumption)
                obtain ⟨ad161, e161, hx161_0⟩ := Kd.at_int HR0.out 4 p161 q161
                obtain rfl : ad157 = ad161 := (by injection e161)
                (try simp only [show (4 : Int).toNat = 4 from rfl, Nat.reduceMul, Nat.reduceEqDiff, Go.Addr.add, ↓reduceIte] at hx161_0)
                have qi161 : (4 < l0.length) = True := eq_true (by omega)
                (try rw [show ((4 : Int)).toNat = 4 from rfl] at hx161_0)
                replace p161 := eq_true p161
                replace q161 := eq_true q161
                have p162 : 0 ≤ (0 : Int) := (by omega)
                have q162 : 0 < (l0.length : Int) := of_decide_eq_true (by first | (with_reducible assumption) | assumption)
                obtain ⟨ad162, e162, hx162_0⟩ := Kd.at_int HR0.out 0 p162 q162
                obtain rfl : ad157 = ad162 := (by injection e162)
                have qi162 : (0 < l0.length) = True := eq_true (by omega)
                (try rw [show ((0 : Int)).toNat = 0 from rfl] at hx162_0)
                (try rw [Addr.add_zero'] at hx162_0)
                replace p162 := eq_true p162
                replace q162 := eq_true q162
                have p163 : 0 ≤ (0 : Int) := (by omega)
                have q163 : 0 < (l0.length : Int) := of_decide_eq_true (by first | (with_reducible assumption) | assumption)
                obtain ⟨ad163, e163, hx163_0⟩ := Kd.at_int HR0.out 0 p163 q163
                obtain rfl : ad157 = ad163 := (by injection e163)
                have qi163 : (0 < l0.length) = True := eq_true (by omega)
                (try rw [show ((0 : Int)).toNat = 0 from rfl] at hx163_0)
                (try rw [Addr.add_zero'] at hx163_0)
                replace p163 := eq_true p163
                replace q163 := eq_true q163
                go_enter Try.func37, Try.ntmps37
                go_wp2
                repeat (go_quiet (fail); try go_wp2)
                go_ret2
                exact ⟨by first | rfl | (simp; done) | (simp [*]; done), by repeat (first | exact Drawn0.refl _ | apply Drawn0.step)⟩
            · rw [if_neg c8] at H
              have c8b0 : ((wrap64 ((rd l0 0) / 16)) == a1) = false := beq_eq_false_iff_ne.mpr c8
              have c8b1 : ((wrap64 ((rd l0 0) / 16)) != a1) = true := bne_iff_ne.mpr c8
              simp only [Option.some.injEq, Prod.mk.injEq] at H
              obtain ⟨rfl, rfl⟩ := H
              have p157 : 0 ≤ (0 : Int) := (by omega)
              have q157 : 0 < (l0.length : Int) := of_decide_eq_true (by first | (with_reducible assumption) | assumption)
              obtain ⟨ad157, e157, hx157_0⟩ := Kd.at_int HR0.out 0 p157 q157
              cases e157
              have qi157 : (0 < l0.length) = True := eq_true (by omega)
              (try rw [show ((0 : Int)).toNat = 0 from rfl] at hx157_0)
              (try rw [Addr.add_zero'] at hx157_0)
              replace p157 := eq_true p157
              replace q157 := eq_true q157
              have p158 : 0 ≤ (1 : Int) := (by omega)
              have q158 : 1 < (l0.length : Int) := of_decide_eq_true (by first | (with_reducible assumption) | assumption)
              obtain ⟨ad158, e158, hx158_0⟩ := Kd.at_int HR0.out 1 p158 q158
              obtain rfl : ad157 = ad158 := (by injection e158)
              (try simp only [show (1 : Int).toNat = 1 from rfl, Nat.reduceMul, Nat.reduceEqDiff, Go.Addr.add, ↓reduceIte] at hx158_0)
              have qi158 : (1 < l0.length) = True := eq_true (by omega)
              (try rw [show ((1 : Int)).toNat = 1 from rfl] at hx158_0)
              replace p158 := eq_true p158
              replace q158 := eq_true q158
              have p159 : 0 ≤ (2 : Int) := (by omega)
              have q159 : 2 < (l0.length : Int) := of_decide_eq_true (by first | (with_reducible assumption) | assumption)
              obtain ⟨ad159, e159, hx159_0⟩ := Kd.at_int HR0.out 2 p159 q159
              obtain rfl : ad157 = ad159 := (by injection e159)
              (try simp only [show (2 : Int).toNat = 2 from rfl, Nat.reduceMul, Nat.reduceEqDiff, Go.Addr.add, ↓reduceIte] at hx159_0)
              have qi159 : (2 < l0.length) = True := eq_true (by omega)
              (try rw [show ((2 : Int)).toNat = 2 from rfl] at hx159_0)
              replace p159 := eq_true p159
              replace q159 := eq_true q159
              have p160 : 0 ≤ (3 : Int) := (by omega)
              have q160 : 3 < (l0.length : Int) := of_decide_eq_true (by first | (with_reducible assumption) | assumption)
              obtain ⟨ad160, e160, hx160_0⟩ := Kd.at_int HR0.out 3 p160 q160
              obtain rfl : ad157 = ad160 := (by injection e160)
              (try simp only [show (3 : Int).toNat = 3 from rfl, Nat.reduceMul, Nat.reduceEqDiff, Go.Addr.add, ↓reduceIte] at hx160_0)
              have qi160 : (3 < l0.length) = True := eq_true (by omega)
              (try rw [show ((3 : Int)).toNat = 3 from rfl] at hx160_0)
              replace p160 := eq_true p160
              replace q160 := eq_true q160
              have p161 : 0 ≤ (4 : Int) := (by omega)
              have q161 : 4 < (l0.length : Int) := of_decide_eq_true (by first | (with_reducible assumption) | assumption)
              obtain ⟨ad161, e161, hx161_0⟩ := Kd.at_int HR0.out 4 p161 q161
              obtain rfl : ad157 = ad161 := (by injection e161)
              (try simp only [show (4 : Int).toNat = 4 from rfl, Nat.reduceMul, Nat.reduceEqDiff, Go.Addr.add, ↓reduceIte] at hx161_0)
              have qi161 : (4 < l0.length) = True := eq_true (by omega)
              (try rw [show ((4 : Int)).toNat = 4 from rfl] at hx161_0)
              replace p161 := eq_true p161
              replace q161 := eq_true q161
              have p162 : 0 ≤ (0 : Int) := (by omega)
              have q162 : 0 < (l0.length : Int) := of_decide_eq_true (by first | (with_reducible assumption) | assumption)
              obtain ⟨ad162, e162, hx162_0⟩ := Kd.at_int HR0.out 0 p162 q162
              obtain rfl : ad157 = ad162 := (by injection e162)
              have qi162 : (0 < l0.length) = True := eq_true (by omega)
              (try rw [show ((0 : Int)).toNat = 0 from rfl] at hx162_0)
              (try rw [Addr.add_zero'] at hx162_0)
              replace p162 := eq_true p162
              replace q162 := eq_true q162
              go_enter Try.func37, Try.ntmps37
              go_wp2
              repeat (go_quiet (fail); try go_wp2)
              go_ret2
              exact ⟨by first | rfl | (simp; done) | (simp [*]; done), by repeat (first | exact Drawn0.refl _ | apply Drawn0.step)⟩
          · rw [if_neg c7] at H
            exact absurd H (by simp)
        · rw [if_neg c6] at H
          exact absurd H (by simp)
      · rw [if_neg c5] at H
        exact absurd H (by simp)
    · rw [if_neg c4] at H
      exact absurd H (by simp)
  · rw [if_neg c3] at H
    exact absurd H (by simp)

end Go.Proofs.Ytdkibpdgnocgaaa.PPesTakes
