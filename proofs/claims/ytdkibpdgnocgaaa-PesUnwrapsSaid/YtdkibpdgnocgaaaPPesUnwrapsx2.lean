-- Written for this claim by a turned copy of the kit's print (wip/printx/mk.py). By an AI agent.
import Derived.Test.YtdkibpdgnocgaaaPPesUnwrapsx0
import Derived.Test.YtdkibpdgnocgaaaPPesUnwrapsx1
namespace Go.Proofs.Ytdkibpdgnocgaaa.PPesUnwraps
open Go.RowKit Go.Proofs.YtdkibpdgnocgaaaW.PrintWords Go.Proofs.YtdkibpdgnocgaaaW.PrintLast Go.Proofs.YtdkibpdgnocgaaaW.PrintMore
attribute [local go_sem] max2_int min2_int max_two min_two max_three min_three max_four min_four   -- for this text's walks alone
set_option linter.unusedVariables false
set_option linter.unusedSimpArgs false

/-! ### pes_Unwrap: function 11 -/
def pes_Unwrap.j0 : Nat → Int → Int → Bool → Option (Int)
  | 0, _, _, _ => none
  | k + 1, x0, x1, x19 => if x19 = true then (some 0) else ((pes_within.f (wrap64 (x1 - x0))).bind fun t154 => (if t154 > 4294967296 then (some (wrap64 (x0 + (wrap64 (t154 - 8589934592))))) else (some (wrap64 (x0 + t154)))))
def pes_Unwrap.f (k : Nat) (a0 : Int) (a1 : Int) : Option (Int) := if a0 < (-4611686018427387904) then (pes_Unwrap.j0 k a0 a1 true) else (if a0 > 4611686018427387904 then (pes_Unwrap.j0 k a0 a1 true) else (if a1 < 0 then (pes_Unwrap.j0 k a0 a1 true) else (pes_Unwrap.j0 k a0 a1 (decide (a1 ≥ 8589934592)))))
theorem pes_Unwrap.mono_l : ∀ k, (∀ y0 y1 y2, LeO (pes_Unwrap.j0 k y0 y1 y2) (pes_Unwrap.j0 (k + 1) y0 y1 y2))
  | 0 => fun _ _ _ r h => by simp [pes_Unwrap.j0] at h
  | k + 1 => by
    have ih0 := pes_Unwrap.mono_l k
    · intro y0 y1 y2
      unfold pes_Unwrap.j0
      repeat' first
      | (with_reducible exact ih0 _ _ _)
      | (with_reducible exact LeO.refl _)
      | (with_reducible exact LeO.none _)
      | (with_reducible refine LeO.ite ?_ ?_)
      | (with_reducible refine LeO.bind ?_ (fun _ => ?_))
      | exact ih0 _ _ _
      | exact LeO.none _
      | refine LeO.ite ?_ ?_
      | refine LeO.bind ?_ (fun _ => ?_)
theorem pes_Unwrap.mono : ∀ a0 a1 k, LeO (pes_Unwrap.f k a0 a1) (pes_Unwrap.f (k + 1) a0 a1) := by
  intro a0 a1 k
  have ih0 := pes_Unwrap.mono_l k
  unfold pes_Unwrap.f
  repeat' first
      | (with_reducible exact ih0 _ _ _)
      | (with_reducible exact LeO.refl _)
      | (with_reducible exact LeO.none _)
      | (with_reducible refine LeO.ite ?_ ?_)
      | (with_reducible refine LeO.bind ?_ (fun _ => ?_))
      | exact ih0 _ _ _
      | exact LeO.none _
      | refine LeO.ite ?_ ?_
      | refine LeO.bind ?_ (fun _ => ?_)
set_option maxHeartbeats 8000000 in
set_option maxRecDepth 100000 in
theorem pes_Unwrap.calls (k : Nat) (a0 : Int) (a1 : Int) (r : Int) (w : World) (h : pes_Unwrap.f k a0 a1 = some r) :
    Calls Try.prog 11 #[.int .i64 a0, .int .i64 a1] w fun e w' => e = .returned (.int .i64 r) ∧ Drawn0 w w' := by
  have H : (if a0 < (-4611686018427387904) then (pes_Unwrap.j0 k a0 a1 true) else (if a0 > 4611686018427387904 then (pes_Unwrap.j0 k a0 a1 true) else (if a1 < 0 then (pes_Unwrap.j0 k a0 a1 true) else (pes_Unwrap.j0 k a0 a1 (decide (a1 ≥ 8589934592)))))) = some r := h
  clear h
  have HC3 := Aside0.mk H
  clear H
  go_enter Try.func11, Try.ntmps11
  go_upto_region 1 with (fail)
  go_cut [19] (fun v19 wc => ∃ (kq : Nat) (x19_2 : Bool), v19 = .bool x19_2 ∧ Aside0 (pes_Unwrap.j0 kq a0 a1 x19_2 = some r) ∧ Aside0 (kq ≤ k) ∧ Drawn0 w wc)
  case first =>
    have H := HC3.out
    clear HC3
    by_cases c4 : a0 < (-4611686018427387904)
    · rw [if_pos c4] at H
      have c4b0 : decide (a0 < (-4611686018427387904)) = true := decide_eq_true c4
      clear c4
      (first | rw [c4b0] | (simp only [i64_w, i32_w]; rw [c4b0]) | skip)
      have H' := Aside0.mk H
      clear H
      go_wp2
      go_meet
      case rel => exact ⟨_, (true), (by first | rfl | (simp; done) | (simp [*]; done)), H', ⟨by first | omega | exact Nat.le_refl _⟩, by repeat (first | exact Drawn0.refl _ | apply Drawn0.step)⟩
    · rw [if_neg c4] at H
      have c4b0 : decide (a0 < (-4611686018427387904)) = false := decide_eq_false c4
      clear c4
      (first | rw [c4b0] | (simp only [i64_w, i32_w]; rw [c4b0]) | skip)
      by_cases c5 : a0 > 4611686018427387904
      · rw [if_pos c5] at H
        have c5b0 : decide (4611686018427387904 < a0) = true := decide_eq_true c5
        clear c5
        have H' := Aside0.mk H
        clear H
        go_wp2
        go_meet
        case rel => exact ⟨_, (true), (by first | rfl | (simp; done) | (simp [*]; done)), H', ⟨by first | omega | exact Nat.le_refl _⟩, by repeat (first | exact Drawn0.refl _ | apply Drawn0.step)⟩
      · rw [if_neg c5] at H
        have c5b0 : decide (4611686018427387904 < a0) = false := decide_eq_false c5
        clear c5
        by_cases c6 : a1 < 0
        · rw [if_pos c6] at H
          have c6b0 : decide (a1 < 0) = true := decide_eq_true c6
          clear c6
          have H' := Aside0.mk H
          clear H
          go_wp2
          go_meet
          case rel => exact ⟨_, (true), (by first | rfl | (simp; done) | (simp [*]; done)), H', ⟨by first | omega | exact Nat.le_refl _⟩, by repeat (first | exact Drawn0.refl _ | apply Drawn0.step)⟩
        · rw [if_neg c6] at H
          have c6b0 : decide (a1 < 0) = false := decide_eq_false c6
          clear c6
          have H' := Aside0.mk H
          clear H
          go_wp2
          go_meet
          case rel => exact ⟨_, (decide (a1 ≥ 8589934592)), (by first | rfl | (simp; done) | (simp [*]; done)), H', ⟨by first | omega | exact Nat.le_refl _⟩, by repeat (first | exact Drawn0.refl _ | apply Drawn0.step)⟩
  case rest =>
    clear HC3
    try clear c1
    try clear p2
    try clear c4
    try clear c4b0
    try clear c5
    try clear c5b0
    try clear c6
    try clear c6b0
    obtain ⟨kq, x19_2, rfl, HA, HJ2, ⟨mc2, rfl⟩⟩ := hcut
    cases kq with
    | zero => exact absurd HA.out (by simp [pes_Unwrap.j0])
    | succ kj2 =>
      have H := HA.out
      clear HA
      simp only [pes_Unwrap.j0] at H
      by_cases c7 : x19_2 = true
      · subst c7
        have H1 : (some 0) = some r := by rw [if_pos rfl] at H; exact H
        clear H
        have H := H1
        clear H1
        obtain rfl := Option.some.inj H
        go_wp2
        go_ret
        exact ⟨by first | rfl | (simp; done) | (simp [*]; done), by repeat (first | exact Drawn0.refl _ | apply Drawn0.step)⟩
      · replace c7 := Bool.eq_false_iff.mpr c7
        subst c7
        have H1 : ((pes_within.f (wrap64 (a1 - a0))).bind fun t154 => (if t154 > 4294967296 then (some (wrap64 (a0 + (wrap64 (t154 - 8589934592))))) else (some (wrap64 (a0 + t154))))) = some r := by rw [if_neg (show ¬ (false = true) by decide)] at H; exact H
        clear H
        have H := H1
        clear H1
        replace H := Option.bind_eq_some_iff.mp H
        obtain ⟨t154, A80, H⟩ := H
        replace H : (if t154 > 4294967296 then (some (wrap64 (a0 + (wrap64 (t154 - 8589934592))))) else (some (wrap64 (a0 + t154)))) = some r := H
        have A8 := Aside0.mk A80
        clear A80
        by_cases c9 : t154 > 4294967296
        · rw [if_pos c9] at H
          have c9b0 : decide (4294967296 < t154) = true := decide_eq_true c9
          clear c9
          obtain rfl := Option.some.inj H
          go_wp2_with (first | ((with_reducible refine gate_callee (f := 28) rfl ?_); refine goesL_ (some 23) rfl rfl Try.func28 (by kernel_rfl) rfl #[.int .i64 (wrap64 (a1 - a0))] rfl (by (try simp only [List.map_toArray, List.map_cons, List.map_nil]); first | done | rfl | (simp only [List.length_drop, List.length_take]; rfl)) ?_; (with_reducible refine (pes_within.calls (wrap64 (a1 - a0)) t154 _ A8.out).mono ?_); rintro e w' ⟨rfl, ⟨nd, rfl⟩⟩; refine ⟨_, rfl, ?_⟩))
          go_ret
          exact ⟨by first | rfl | (simp; done) | (simp [*]; done), by repeat (first | exact Drawn0.refl _ | apply Drawn0.step)⟩
        · rw [if_neg c9] at H
          have c9b0 : decide (4294967296 < t154) = false := decide_eq_false c9
          clear c9
          obtain rfl := Option.some.inj H
          go_wp2_with (first | ((with_reducible refine gate_callee (f := 28) rfl ?_); refine goesL_ (some 23) rfl rfl Try.func28 (by kernel_rfl) rfl #[.int .i64 (wrap64 (a1 - a0))] rfl (by (try simp only [List.map_toArray, List.map_cons, List.map_nil]); first | done | rfl | (simp only [List.length_drop, List.length_take]; rfl)) ?_; (with_reducible refine (pes_within.calls (wrap64 (a1 - a0)) t154 _ A8.out).mono ?_); rintro e w' ⟨rfl, ⟨nd, rfl⟩⟩; refine ⟨_, rfl, ?_⟩))
          go_ret
          exact ⟨by first | rfl | (simp; done) | (simp [*]; done), by repeat (first | exact Drawn0.refl _ | apply Drawn0.step)⟩

/-! ### cutroomref16_Unwrap: function 12 -/
def cutroomref16_Unwrap.j0 : Nat → Int → Int → Bool → Option (Int)
  | 0, _, _, _ => none
  | k + 1, x0, x1, x19 => if x19 = true then (some 0) else (if (Int.tmod (wrap64 ((wrap64 (x0 + 4294967296)) - x1)) 8589934592) < 0 then (some (wrap64 ((wrap64 (x0 + 4294967296)) - (wrap64 ((Int.tmod (wrap64 ((wrap64 (x0 + 4294967296)) - x1)) 8589934592) + 8589934592))))) else (some (wrap64 ((wrap64 (x0 + 4294967296)) - (Int.tmod (wrap64 ((wrap64 (x0 + 4294967296)) - x1)) 8589934592)))))
def cutroomref16_Unwrap.f (k : Nat) (a0 : Int) (a1 : Int) : Option (Int) := if a0 < (-4611686018427387904) then (cutroomref16_Unwrap.j0 k a0 a1 true) else (if a0 > 4611686018427387904 then (cutroomref16_Unwrap.j0 k a0 a1 true) else (if a1 < 0 then (cutroomref16_Unwrap.j0 k a0 a1 true) else (cutroomref16_Unwrap.j0 k a0 a1 (decide (a1 ≥ 8589934592)))))
theorem cutroomref16_Unwrap.mono_l : ∀ k, (∀ y0 y1 y2, LeO (cutroomref16_Unwrap.j0 k y0 y1 y2) (cutroomref16_Unwrap.j0 (k + 1) y0 y1 y2))
  | 0 => fun _ _ _ r h => by simp [cutroomref16_Unwrap.j0] at h
  | k + 1 => by
    have ih0 := cutroomref16_Unwrap.mono_l k
    · intro y0 y1 y2
      unfold cutroomref16_Unwrap.j0
      repeat' first
      | (with_reducible exact ih0 _ _ _)
      | (with_reducible exact LeO.refl _)
      | (with_reducible exact LeO.none _)
      | (with_reducible refine LeO.ite ?_ ?_)
      | (with_reducible refine LeO.bind ?_ (fun _ => ?_))
      | exact ih0 _ _ _
      | exact LeO.none _
      | refine LeO.ite ?_ ?_
      | refine LeO.bind ?_ (fun _ => ?_)
theorem cutroomref16_Unwrap.mono : ∀ a0 a1 k, LeO (cutroomref16_Unwrap.f k a0 a1) (cutroomref16_Unwrap.f (k + 1) a0 a1) := by
  intro a0 a1 k
  have ih0 := cutroomref16_Unwrap.mono_l k
  unfold cutroomref16_Unwrap.f
  repeat' first
      | (with_reducible exact ih0 _ _ _)
      | (with_reducible exact LeO.refl _)
      | (with_reducible exact LeO.none _)
      | (with_reducible refine LeO.ite ?_ ?_)
      | (with_reducible refine LeO.bind ?_ (fun _ => ?_))
      | exact ih0 _ _ _
      | exact LeO.none _
      | refine LeO.ite ?_ ?_
      | refine LeO.bind ?_ (fun _ => ?_)
set_option maxHeartbeats 8000000 in
set_option maxRecDepth 100000 in
theorem cutroomref16_Unwrap.calls (k : Nat) (a0 : Int) (a1 : Int) (r : Int) (w : World) (h : cutroomref16_Unwrap.f k a0 a1 = some r) :
    Calls Try.prog 12 #[.int .i64 a0, .int .i64 a1] w fun e w' => e = .returned (.int .i64 r) ∧ Drawn0 w w' := by
  have H : (if a0 < (-4611686018427387904) then (cutroomref16_Unwrap.j0 k a0 a1 true) else (if a0 > 4611686018427387904 then (cutroomref16_Unwrap.j0 k a0 a1 true) else (if a1 < 0 then (cutroomref16_Unwrap.j0 k a0 a1 true) else (cutroomref16_Unwrap.j0 k a0 a1 (decide (a1 ≥ 8589934592)))))) = some r := h
  clear h
  have HC3 := Aside0.mk H
  clear H
  go_enter Try.func12, Try.ntmps12
  go_upto_region 1 with (fail)
  go_cut [19] (fun v19 wc => ∃ (kq : Nat) (x19_2 : Bool), v19 = .bool x19_2 ∧ Aside0 (cutroomref16_Unwrap.j0 kq a0 a1 x19_2 = some r) ∧ Aside0 (kq ≤ k) ∧ Drawn0 w wc)
  case first =>
    have H := HC3.out
    clear HC3
    by_cases c4 : a0 < (-4611686018427387904)
    · rw [if_pos c4] at H
      have c4b0 : decide (a0 < (-4611686018427387904)) = true := decide_eq_true c4
      clear c4
      (first | rw [c4b0] | (simp only [i64_w, i32_w]; rw [c4b0]) | skip)
      have H' := Aside0.mk H
      clear H
      go_wp2
      go_meet
      case rel => exact ⟨_, (true), (by first | rfl | (simp; done) | (simp [*]; done)), H', ⟨by first | omega | exact Nat.le_refl _⟩, by repeat (first | exact Drawn0.refl _ | apply Drawn0.step)⟩
    · rw [if_neg c4] at H
      have c4b0 : decide (a0 < (-4611686018427387904)) = false := decide_eq_false c4
      clear c4
      (first | rw [c4b0] | (simp only [i64_w, i32_w]; rw [c4b0]) | skip)
      by_cases c5 : a0 > 4611686018427387904
      · rw [if_pos c5] at H
        have c5b0 : decide (4611686018427387904 < a0) = true := decide_eq_true c5
        clear c5
        have H' := Aside0.mk H
        clear H
        go_wp2
        go_meet
        case rel => exact ⟨_, (true), (by first | rfl | (simp; done) | (simp [*]; done)), H', ⟨by first | omega | exact Nat.le_refl _⟩, by repeat (first | exact Drawn0.refl _ | apply Drawn0.step)⟩
      · rw [if_neg c5] at H
        have c5b0 : decide (4611686018427387904 < a0) = false := decide_eq_false c5
        clear c5
        by_cases c6 : a1 < 0
        · rw [if_pos c6] at H
          have c6b0 : decide (a1 < 0) = true := decide_eq_true c6
          clear c6
          have H' := Aside0.mk H
          clear H
          go_wp2
          go_meet
          case rel => exact ⟨_, (true), (by first | rfl | (simp; done) | (simp [*]; done)), H', ⟨by first | omega | exact Nat.le_refl _⟩, by repeat (first | exact Drawn0.refl _ | apply Drawn0.step)⟩
        · rw [if_neg c6] at H
          have c6b0 : decide (a1 < 0) = false := decide_eq_false c6
          clear c6
          have H' := Aside0.mk H
          clear H
          go_wp2
          go_meet
          case rel => exact ⟨_, (decide (a1 ≥ 8589934592)), (by first | rfl | (simp; done) | (simp [*]; done)), H', ⟨by first | omega | exact Nat.le_refl _⟩, by repeat (first | exact Drawn0.refl _ | apply Drawn0.step)⟩
  case rest =>
    clear HC3
    try clear c1
    try clear p2
    try clear c4
    try clear c4b0
    try clear c5
    try clear c5b0
    try clear c6
    try clear c6b0
    obtain ⟨kq, x19_2, rfl, HA, HJ2, ⟨mc2, rfl⟩⟩ := hcut
    cases kq with
    | zero => exact absurd HA.out (by simp [cutroomref16_Unwrap.j0])
    | succ kj2 =>
      have H := HA.out
      clear HA
      simp only [cutroomref16_Unwrap.j0] at H
      by_cases c7 : x19_2 = true
      · subst c7
        have H1 : (some 0) = some r := by rw [if_pos rfl] at H; exact H
        clear H
        have H := H1
        clear H1
        obtain rfl := Option.some.inj H
        go_wp2
        go_ret
        exact ⟨by first | rfl | (simp; done) | (simp [*]; done), by repeat (first | exact Drawn0.refl _ | apply Drawn0.step)⟩
      · replace c7 := Bool.eq_false_iff.mpr c7
        subst c7
        have H1 : (if (Int.tmod (wrap64 ((wrap64 (a0 + 4294967296)) - a1)) 8589934592) < 0 then (some (wrap64 ((wrap64 (a0 + 4294967296)) - (wrap64 ((Int.tmod (wrap64 ((wrap64 (a0 + 4294967296)) - a1)) 8589934592) + 8589934592))))) else (some (wrap64 ((wrap64 (a0 + 4294967296)) - (Int.tmod (wrap64 ((wrap64 (a0 + 4294967296)) - a1)) 8589934592))))) = some r := by rw [if_neg (show ¬ (false = true) by decide)] at H; exact H
        clear H
        have H := H1
        clear H1
        by_cases c8 : (Int.tmod (wrap64 ((wrap64 (a0 + 4294967296)) - a1)) 8589934592) < 0
        · rw [if_pos c8] at H
          have c8b0 : decide ((Int.tmod (wrap64 ((wrap64 (a0 + 4294967296)) - a1)) 8589934592) < 0) = true := decide_eq_true c8
          clear c8
          obtain rfl := Option.some.inj H
          go_wp2
          go_ret
          exact ⟨by first | rfl | (simp; done) | (simp [*]; done), by repeat (first | exact Drawn0.refl _ | apply Drawn0.step)⟩
        · rw [if_neg c8] at H
          have c8b0 : decide ((Int.tmod (wrap64 ((wrap64 (a0 + 4294967296)) - a1)) 8589934592) < 0) = false := decide_eq_false c8
          clear c8
          obtain rfl := Option.some.inj H
          go_wp2
          go_ret
          exact ⟨by first | rfl | (simp; done) | (simp [*]; done), by repeat (first | exact Drawn0.refl _ | apply Drawn0.step)⟩

/-! ### cutroomlaw16_PesUnwraps: function 3 -/
def cutroomlaw16_PesUnwraps.f (k : Nat) (a0 : Int) (a1 : Int) : Option (Bool) := (cutroomlaw16_awake.f k).bind fun t155 => (if t155 = true then ((pes_Unwrap.f k a0 a1).bind fun t156 => ((cutroomref16_Unwrap.f k a0 a1).bind fun t157 => (some (t156 == t157)))) else (some false))
theorem cutroomlaw16_PesUnwraps.mono : ∀ a0 a1 k, LeO (cutroomlaw16_PesUnwraps.f k a0 a1) (cutroomlaw16_PesUnwraps.f (k + 1) a0 a1) := by
  intro a0 a1 k
  unfold cutroomlaw16_PesUnwraps.f
  repeat' first
      | (with_reducible exact cutroomlaw16_awake.mono _)
      | (with_reducible exact cutroomref16_Unwrap.mono _ _ _)
      | (with_reducible exact pes_Unwrap.mono _ _ _)
      | (with_reducible exact LeO.refl _)
      | (with_reducible exact LeO.none _)
      | (with_reducible refine LeO.ite ?_ ?_)
      | (with_reducible refine LeO.bind ?_ (fun _ => ?_))
      | exact cutroomlaw16_awake.mono _
      | exact cutroomref16_Unwrap.mono _ _ _
      | exact pes_Unwrap.mono _ _ _
      | exact LeO.none _
      | refine LeO.ite ?_ ?_
      | refine LeO.bind ?_ (fun _ => ?_)
set_option maxHeartbeats 8000000 in
set_option maxRecDepth 100000 in
theorem cutroomlaw16_PesUnwraps.calls (k : Nat) (a0 : Int) (a1 : Int) (r : Bool) (w : World) (h : cutroomlaw16_PesUnwraps.f k a0 a1 = some r) :
    Calls Try.prog 3 #[.int .i64 a0, .int .i64 a1] w fun e w' => e = .returned (.bool r) ∧ Below w.heap.size w w' := by
  have HB := Aside0.mk (Below.refl w.heap.size w)
  have H : ((cutroomlaw16_awake.f k).bind fun t155 => (if t155 = true then ((pes_Unwrap.f k a0 a1).bind fun t156 => ((cutroomref16_Unwrap.f k a0 a1).bind fun t157 => (some (t156 == t157)))) else (some false))) = some r := h
  clear h
  replace H := Option.bind_eq_some_iff.mp H
  obtain ⟨t155, A30, H⟩ := H
  replace H : (if t155 = true then ((pes_Unwrap.f k a0 a1).bind fun t156 => ((cutroomref16_Unwrap.f k a0 a1).bind fun t157 => (some (t156 == t157)))) else (some false)) = some r := H
  have A3 := Aside0.mk A30
  clear A30
  by_cases c4 : t155 = true
  · subst c4
    have H1 : ((pes_Unwrap.f k a0 a1).bind fun t156 => ((cutroomref16_Unwrap.f k a0 a1).bind fun t157 => (some (t156 == t157)))) = some r := by rw [if_pos rfl] at H; exact H
    clear H
    have H := H1
    clear H1
    replace H := Option.bind_eq_some_iff.mp H
    obtain ⟨t156, A50, H⟩ := H
    replace H : ((cutroomref16_Unwrap.f k a0 a1).bind fun t157 => (some (t156 == t157))) = some r := H
    have A5 := Aside0.mk A50
    clear A50
    replace H := Option.bind_eq_some_iff.mp H
    obtain ⟨t157, A60, H⟩ := H
    replace H : (some (t156 == t157)) = some r := H
    have A6 := Aside0.mk A60
    clear A60
    obtain rfl := Option.some.inj H
    go_enter Try.func3, Try.ntmps3
    go_wp2_with (first | ((with_reducible refine gate_callee (f := 10) rfl ?_); refine goesL_ (some 5) rfl rfl Try.func10 (by kernel_rfl) rfl #[] rfl (by (try simp only [List.map_toArray, List.map_cons, List.map_nil]); first | done | rfl | (simp only [List.length_drop, List.length_take]; rfl)) ?_; (with_reducible refine (cutroomlaw16_awake.calls k  true _ A3.out).mono ?_); rintro e w7 ⟨rfl, hb⟩; refine ⟨_, rfl, ?_⟩; have n0_ := Aside0.mk (below_step (by repeat (first | (with_reducible first | exact HB.out | apply below_alloc | apply pw_below_drewN | apply below_drew1) | exact HB.out)) hb); clear HB; have HB := n0_; clear n0_; (try clear hb); (try clear hb2); (try clear hk); (try clear hi)) | (go_at_call 11; (with_reducible refine (pes_Unwrap.calls k a0 a1 t156 _ A5.out).mono ?_); rintro e w' ⟨rfl, ⟨nd, rfl⟩⟩) | (go_at_call 12; (with_reducible refine (cutroomref16_Unwrap.calls k a0 a1 t157 _ A6.out).mono ?_); rintro e w' ⟨rfl, ⟨nd, rfl⟩⟩))
    go_ret
    exact ⟨by first | rfl | (simp [errW_none, errW_some] <;> rfl) | (simp [*, errW_none, errW_some] <;> rfl), by repeat (first | (with_reducible first | exact HB.out | apply below_alloc | apply pw_below_drewN | apply below_drew1) | exact HB.out)⟩
  · replace c4 := Bool.eq_false_iff.mpr c4
    subst c4
    have H1 : (some false) = some r := by rw [if_neg (show ¬ (false = true) by decide)] at H; exact H
    clear H
    have H := H1
    clear H1
    obtain rfl := Option.some.inj H
    go_enter Try.func3, Try.ntmps3
    go_wp2_with (first | ((with_reducible refine gate_callee (f := 10) rfl ?_); refine goesL_ (some 5) rfl rfl Try.func10 (by kernel_rfl) rfl #[] rfl (by (try simp only [List.map_toArray, List.map_cons, List.map_nil]); first | done | rfl | (simp only [List.length_drop, List.length_take]; rfl)) ?_; (with_reducible refine (cutroomlaw16_awake.calls k  false _ A3.out).mono ?_); rintro e w8 ⟨rfl, hb⟩; refine ⟨_, rfl, ?_⟩; have n0_ := Aside0.mk (below_step (by repeat (first | (with_reducible first | exact HB.out | apply below_alloc | apply pw_below_drewN | apply below_drew1) | exact HB.out)) hb); clear HB; have HB := n0_; clear n0_; (try clear hb); (try clear hb2); (try clear hk); (try clear hi)))
    go_ret
    exact ⟨by first | rfl | (simp [errW_none, errW_some] <;> rfl) | (simp [*, errW_none, errW_some] <;> rfl), by repeat (first | (with_reducible first | exact HB.out | apply below_alloc | apply pw_below_drewN | apply below_drew1) | exact HB.out)⟩

/-- THE ONE PURE STATEMENT of cutroomlaw16_PesUnwraps: yours. -/
def cutroomlaw16_PesUnwraps.Pure : Prop := ∀ (a0 : Int) (a1 : Int), (Lit.int .i64 a0).wf = true → (Lit.int .i64 a1).wf = true → ∃ k, cutroomlaw16_PesUnwraps.f k a0 a1 = some true
theorem cutroomlaw16_PesUnwraps.walk (P : cutroomlaw16_PesUnwraps.Pure) (a0 : Int) (a1 : Int) (w : World) (w0 : (Lit.int .i64 a0).wf = true) (w1 : (Lit.int .i64 a1).wf = true) :
    Calls Try.prog 3 #[.int .i64 a0, .int .i64 a1] w fun e w' => e = .returned (.bool true) ∧ Below w.heap.size w w' := by
  obtain ⟨k, h⟩ := P a0 a1 w0 w1
  refine (cutroomlaw16_PesUnwraps.calls k a0 a1 true w h).mono ?_
  rintro e w' ⟨rfl, hd⟩
  exact ⟨rfl, hd⟩

end Go.Proofs.Ytdkibpdgnocgaaa.PPesUnwraps
