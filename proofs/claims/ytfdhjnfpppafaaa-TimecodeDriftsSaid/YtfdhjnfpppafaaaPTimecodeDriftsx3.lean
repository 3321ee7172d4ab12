-- Written for this claim by a turned copy of the kit's print (wip/printx/mk.py). By an AI agent.
import Derived.Test.YtfdhjnfpppafaaaPTimecodeDriftsx0
import Derived.Test.YtfdhjnfpppafaaaPTimecodeDriftsx2
namespace Go.Proofs.Ytfdhjnfpppafaaa.PTimecodeDrifts
open Go.RowKit Go.Proofs.YtfdhjnfpppafaaaW.PrintWords Go.Proofs.YtfdhjnfpppafaaaW.PrintLast Go.Proofs.YtfdhjnfpppafaaaW.PrintMore
attribute [local go_sem] max2_int min2_int max_two min_two max_three min_three max_four min_four   -- for this text's walks alone
set_option linter.unusedVariables false
set_option linter.unusedSimpArgs false

/-! ### timecode_Day: function 21 -/
def timecode_Day.f (k : Nat) (a0 : Int) (a1 : Bool) : Option (Int × Int) := (timecode_isBase.f k a0).bind fun t127 => (if t127 = true then (if a1 = true then ((timecode_CanDrop.f a0).bind fun t128 => (if t128 = true then ((timecode_tenMinutes.f a0 a1).bind fun t129 => (some (wrap64 (144 * t129), 0))) else (some (0, 1)))) else ((timecode_tenMinutes.f a0 a1).bind fun t130 => (some (wrap64 (144 * t130), 0)))) else (some (0, 1)))
theorem timecode_Day.mono : ∀ a0 a1 k, LeO (timecode_Day.f k a0 a1) (timecode_Day.f (k + 1) a0 a1) := by
  intro a0 a1 k
  unfold timecode_Day.f
  repeat' first
      | (with_reducible exact timecode_isBase.mono _ _)
      | (with_reducible exact LeO.refl _)
      | (with_reducible exact LeO.none _)
      | (with_reducible refine LeO.ite ?_ ?_)
      | (with_reducible refine LeO.bind ?_ (fun _ => ?_))
      | exact timecode_isBase.mono _ _
      | exact LeO.none _
      | refine LeO.ite ?_ ?_
      | refine LeO.bind ?_ (fun _ => ?_)
set_option maxHeartbeats 8000000 in
set_option maxRecDepth 100000 in
theorem timecode_Day.calls (k : Nat) (a0 : Int) (a1 : Bool) (r1 : Int) (r2 : Int) (w : World) (h : timecode_Day.f k a0 a1 = some (r1, r2)) :
    Calls Try.prog 21 #[.int .i64 a0, .bool a1] w fun e w' => e = .returned (.tuple #[.int .i64 r1, .int .i64 r2]) ∧ Below w.heap.size w w' := by
  have HB := Aside0.mk (Below.refl w.heap.size w)
  have H : ((timecode_isBase.f k a0).bind fun t127 => (if t127 = true then (if a1 = true then ((timecode_CanDrop.f a0).bind fun t128 => (if t128 = true then ((timecode_tenMinutes.f a0 a1).bind fun t129 => (some (wrap64 (144 * t129), 0))) else (some (0, 1)))) else ((timecode_tenMinutes.f a0 a1).bind fun t130 => (some (wrap64 (144 * t130), 0)))) else (some (0, 1)))) = some (r1, r2) := h
  clear h
  replace H := Option.bind_eq_some_iff.mp H
  obtain ⟨t127, A30, H⟩ := H
  replace H : (if t127 = true then (if a1 = true then ((timecode_CanDrop.f a0).bind fun t128 => (if t128 = true then ((timecode_tenMinutes.f a0 a1).bind fun t129 => (some (wrap64 (144 * t129), 0))) else (some (0, 1)))) else ((timecode_tenMinutes.f a0 a1).bind fun t130 => (some (wrap64 (144 * t130), 0)))) else (some (0, 1))) = some (r1, r2) := H
  have A3 := Aside0.mk A30
  clear A30
  by_cases c4 : t127 = true
  · subst c4
    have H1 : (if a1 = true then ((timecode_CanDrop.f a0).bind fun t128 => (if t128 = true then ((timecode_tenMinutes.f a0 a1).bind fun t129 => (some (wrap64 (144 * t129), 0))) else (some (0, 1)))) else ((timecode_tenMinutes.f a0 a1).bind fun t130 => (some (wrap64 (144 * t130), 0)))) = some (r1, r2) := by rw [if_pos rfl] at H; exact H
    clear H
    have H := H1
    clear H1
    by_cases c5 : a1 = true
    · subst c5
      have H1 : ((timecode_CanDrop.f a0).bind fun t128 => (if t128 = true then ((timecode_tenMinutes.f a0 true).bind fun t129 => (some (wrap64 (144 * t129), 0))) else (some (0, 1)))) = some (r1, r2) := by rw [if_pos rfl] at H; exact H
      clear H
      have H := H1
      clear H1
      replace H := Option.bind_eq_some_iff.mp H
      obtain ⟨t128, A60, H⟩ := H
      replace H : (if t128 = true then ((timecode_tenMinutes.f a0 true).bind fun t129 => (some (wrap64 (144 * t129), 0))) else (some (0, 1))) = some (r1, r2) := H
      have A6 := Aside0.mk A60
      clear A60
      by_cases c7 : t128 = true
      · subst c7
        have H1 : ((timecode_tenMinutes.f a0 true).bind fun t129 => (some (wrap64 (144 * t129), 0))) = some (r1, r2) := by rw [if_pos rfl] at H; exact H
        clear H
        have H := H1
        clear H1
        replace H := Option.bind_eq_some_iff.mp H
        obtain ⟨t129, A80, H⟩ := H
        replace H : (some (wrap64 (144 * t129), 0)) = some (r1, r2) := H
        have A8 := Aside0.mk A80
        clear A80
        simp only [Option.some.injEq, Prod.mk.injEq] at H
        obtain ⟨rfl, rfl⟩ := H
        go_enter Try.func21, Try.ntmps21
        go_wp2_with (first | ((with_reducible refine gate_callee (f := 39) rfl ?_); refine goesL_ (some 7) rfl rfl Try.func39 (by kernel_rfl) rfl #[.int .i64 a0] rfl (by (try simp only [List.map_toArray, List.map_cons, List.map_nil]); first | done | rfl | (simp only [List.length_drop, List.length_take]; rfl)) ?_; (with_reducible refine (timecode_isBase.calls k a0 true _ A3.out).mono ?_); rintro e w9 ⟨rfl, hb⟩; refine ⟨_, rfl, ?_⟩; have n0_ := Aside0.mk (below_step (by repeat (first | (with_reducible first | exact HB.out | apply below_alloc | apply pw_below_drewN | apply below_drew1) | exact HB.out)) hb); clear HB; have HB := n0_; clear n0_; (try clear hb); (try clear hb2); (try clear hk); (try clear hi)) | (go_at_call 19; (with_reducible refine (timecode_CanDrop.calls a0 true _ A6.out).mono ?_); rintro e w' ⟨rfl, ⟨nd, rfl⟩⟩) | ((with_reducible refine gate_callee (f := 40) rfl ?_); refine goesL_ (some 19) rfl rfl Try.func40 (by kernel_rfl) rfl #[.int .i64 a0, .bool true] rfl (by (try simp only [List.map_toArray, List.map_cons, List.map_nil]); first | done | rfl | (simp only [List.length_drop, List.length_take]; rfl)) ?_; (with_reducible refine (timecode_tenMinutes.calls a0 true t129 _ A8.out).mono ?_); rintro e w' ⟨rfl, ⟨nd, rfl⟩⟩; refine ⟨_, rfl, ?_⟩))
        go_ret2
        exact ⟨by first | rfl | (simp [errW_none, errW_some] <;> rfl) | (simp [*, errW_none, errW_some] <;> rfl), by repeat (first | (with_reducible first | exact HB.out | apply below_alloc | apply pw_below_drewN | apply below_drew1) | exact HB.out)⟩
      · replace c7 := Bool.eq_false_iff.mpr c7
        subst c7
        have H1 : (some (0, 1)) = some (r1, r2) := by rw [if_neg (show ¬ (false = true) by decide)] at H; exact H
        clear H
        have H := H1
        clear H1
        simp only [Option.some.injEq, Prod.mk.injEq] at H
        obtain ⟨rfl, rfl⟩ := H
        go_enter Try.func21, Try.ntmps21
        go_wp2_with (first | ((with_reducible refine gate_callee (f := 39) rfl ?_); refine goesL_ (some 7) rfl rfl Try.func39 (by kernel_rfl) rfl #[.int .i64 a0] rfl (by (try simp only [List.map_toArray, List.map_cons, List.map_nil]); first | done | rfl | (simp only [List.length_drop, List.length_take]; rfl)) ?_; (with_reducible refine (timecode_isBase.calls k a0 true _ A3.out).mono ?_); rintro e w10 ⟨rfl, hb⟩; refine ⟨_, rfl, ?_⟩; have n0_ := Aside0.mk (below_step (by repeat (first | (with_reducible first | exact HB.out | apply below_alloc | apply pw_below_drewN | apply below_drew1) | exact HB.out)) hb); clear HB; have HB := n0_; clear n0_; (try clear hb); (try clear hb2); (try clear hk); (try clear hi)) | (go_at_call 19; (with_reducible refine (timecode_CanDrop.calls a0 false _ A6.out).mono ?_); rintro e w' ⟨rfl, ⟨nd, rfl⟩⟩))
        go_ret2
        exact ⟨by first | rfl | (simp [errW_none, errW_some] <;> rfl) | (simp [*, errW_none, errW_some] <;> rfl), by repeat (first | (with_reducible first | exact HB.out | apply below_alloc | apply pw_below_drewN | apply below_drew1) | exact HB.out)⟩
    · replace c5 := Bool.eq_false_iff.mpr c5
      subst c5
      have H1 : ((timecode_tenMinutes.f a0 false).bind fun t130 => (some (wrap64 (144 * t130), 0))) = some (r1, r2) := by rw [if_neg (show ¬ (false = true) by decide)] at H; exact H
      clear H
      have H := H1
      clear H1
      replace H := Option.bind_eq_some_iff.mp H
      obtain ⟨t130, A110, H⟩ := H
      replace H : (some (wrap64 (144 * t130), 0)) = some (r1, r2) := H
      have A11 := Aside0.mk A110
      clear A110
      simp only [Option.some.injEq, Prod.mk.injEq] at H
      obtain ⟨rfl, rfl⟩ := H
      go_enter Try.func21, Try.ntmps21
      go_wp2_with (first | ((with_reducible refine gate_callee (f := 39) rfl ?_); refine goesL_ (some 7) rfl rfl Try.func39 (by kernel_rfl) rfl #[.int .i64 a0] rfl (by (try simp only [List.map_toArray, List.map_cons, List.map_nil]); first | done | rfl | (simp only [List.length_drop, List.length_take]; rfl)) ?_; (with_reducible refine (timecode_isBase.calls k a0 true _ A3.out).mono ?_); rintro e w12 ⟨rfl, hb⟩; refine ⟨_, rfl, ?_⟩; have n0_ := Aside0.mk (below_step (by repeat (first | (with_reducible first | exact HB.out | apply below_alloc | apply pw_below_drewN | apply below_drew1) | exact HB.out)) hb); clear HB; have HB := n0_; clear n0_; (try clear hb); (try clear hb2); (try clear hk); (try clear hi)) | ((with_reducible refine gate_callee (f := 40) rfl ?_); refine goesL_ (some 19) rfl rfl Try.func40 (by kernel_rfl) rfl #[.int .i64 a0, .bool false] rfl (by (try simp only [List.map_toArray, List.map_cons, List.map_nil]); first | done | rfl | (simp only [List.length_drop, List.length_take]; rfl)) ?_; (with_reducible refine (timecode_tenMinutes.calls a0 false t130 _ A11.out).mono ?_); rintro e w' ⟨rfl, ⟨nd, rfl⟩⟩; refine ⟨_, rfl, ?_⟩))
      go_ret2
      exact ⟨by first | rfl | (simp [errW_none, errW_some] <;> rfl) | (simp [*, errW_none, errW_some] <;> rfl), by repeat (first | (with_reducible first | exact HB.out | apply below_alloc | apply pw_below_drewN | apply below_drew1) | exact HB.out)⟩
  · replace c4 := Bool.eq_false_iff.mpr c4
    subst c4
    have H1 : (some (0, 1)) = some (r1, r2) := by rw [if_neg (show ¬ (false = true) by decide)] at H; exact H
    clear H
    have H := H1
    clear H1
    simp only [Option.some.injEq, Prod.mk.injEq] at H
    obtain ⟨rfl, rfl⟩ := H
    go_enter Try.func21, Try.ntmps21
    go_wp2_with (first | ((with_reducible refine gate_callee (f := 39) rfl ?_); refine goesL_ (some 7) rfl rfl Try.func39 (by kernel_rfl) rfl #[.int .i64 a0] rfl (by (try simp only [List.map_toArray, List.map_cons, List.map_nil]); first | done | rfl | (simp only [List.length_drop, List.length_take]; rfl)) ?_; (with_reducible refine (timecode_isBase.calls k a0 false _ A3.out).mono ?_); rintro e w13 ⟨rfl, hb⟩; refine ⟨_, rfl, ?_⟩; have n0_ := Aside0.mk (below_step (by repeat (first | (with_reducible first | exact HB.out | apply below_alloc | apply pw_below_drewN | apply below_drew1) | exact HB.out)) hb); clear HB; have HB := n0_; clear n0_; (try clear hb); (try clear hb2); (try clear hk); (try clear hi)))
    go_ret2
    exact ⟨by first | rfl | (simp [errW_none, errW_some] <;> rfl) | (simp [*, errW_none, errW_some] <;> rfl), by repeat (first | (with_reducible first | exact HB.out | apply below_alloc | apply pw_below_drewN | apply below_drew1) | exact HB.out)⟩

/-! ### timecode_within: function 42 -/
def timecode_within.f (a0 : Int) (a1 : Int) : Option (Int) := if a1 = 0 then (none) else (if (Int.tmod a0 a1) < 0 then (some (wrap64 ((Int.tmod a0 a1) + a1))) else (some (Int.tmod a0 a1)))
set_option maxHeartbeats 8000000 in
set_option maxRecDepth 100000 in
theorem timecode_within.calls (a0 : Int) (a1 : Int) (r : Int) (w : World) (h : timecode_within.f a0 a1 = some r) :
    Calls Try.prog 42 #[.int .i64 a0, .int .i64 a1] w fun e w' => e = .returned (.int .i64 r) ∧ Drawn0 w w' := by
  have H : (if a1 = 0 then (none) else (if (Int.tmod a0 a1) < 0 then (some (wrap64 ((Int.tmod a0 a1) + a1))) else (some (Int.tmod a0 a1)))) = some r := h
  clear h
  by_cases c3 : a1 = 0
  · rw [if_pos c3] at H
    exact absurd H (by simp)
  · rw [if_neg c3] at H
    have c3b0 : (a1 == 0) = false := beq_eq_false_iff_ne.mpr c3
    have c3b1 : (a1 != 0) = true := bne_iff_ne.mpr c3
    by_cases c4 : (Int.tmod a0 a1) < 0
    · rw [if_pos c4] at H
      have c4b0 : decide ((Int.tmod a0 a1) < 0) = true := decide_eq_true c4
      clear c4
      obtain rfl := Option.some.inj H
      go_enter Try.func42, Try.ntmps42
      go_wp2
      go_ret
      exact ⟨by first | rfl | (simp; done) | (simp [*]; done), by repeat (first | exact Drawn0.refl _ | apply Drawn0.step)⟩
    · rw [if_neg c4] at H
      have c4b0 : decide ((Int.tmod a0 a1) < 0) = false := decide_eq_false c4
      clear c4
      obtain rfl := Option.some.inj H
      go_enter Try.func42, Try.ntmps42
      go_wp2
      go_ret
      exact ⟨by first | rfl | (simp; done) | (simp [*]; done), by repeat (first | exact Drawn0.refl _ | apply Drawn0.step)⟩

/-! ### timecode_Label: function 23 -/
def timecode_Label.f (k : Nat) (a0 : Int) (a1 : Int) (a2 : Bool) : Option (Int × Int × Int × Int × Int × Bool × Int) := (timecode_Day.f k a1 a2).bind fun bt132 => (if bt132.2 = 0 then ((timecode_within.f a0 bt132.1).bind fun t134 => ((timecode_dropped.f a1 a2).bind fun t135 => ((timecode_tenMinutes.f a1 a2).bind fun t136 => (if t136 = 0 then (none) else ((timecode_tenMinutes.f a1 a2).bind fun t137 => (if t137 = 0 then (none) else (if (Int.tmod t134 t137) ≥ (wrap64 (60 * a1)) then (if (wrap64 ((wrap64 (60 * a1)) - t135)) = 0 then (none) else (if a1 = 0 then (none) else (some (wrap64 (Int.tdiv (wrap64 ((wrap64 (1 + (wrap64 (Int.tdiv (wrap64 ((Int.tmod t134 t137) - (wrap64 (60 * a1)))) (wrap64 ((wrap64 (60 * a1)) - t135)))))) + (wrap64 ((wrap64 (Int.tdiv t134 t136)) * 10)))) 60), Int.tmod (wrap64 ((wrap64 (1 + (wrap64 (Int.tdiv (wrap64 ((Int.tmod t134 t137) - (wrap64 (60 * a1)))) (wrap64 ((wrap64 (60 * a1)) - t135)))))) + (wrap64 ((wrap64 (Int.tdiv t134 t136)) * 10)))) 60, wrap64 (Int.tdiv (wrap64 ((Int.tmod (wrap64 ((Int.tmod t134 t137) - (wrap64 (60 * a1)))) (wrap64 ((wrap64 (60 * a1)) - t135))) + t135)) a1), Int.tmod (wrap64 ((Int.tmod (wrap64 ((Int.tmod t134 t137) - (wrap64 (60 * a1)))) (wrap64 ((wrap64 (60 * a1)) - t135))) + t135)) a1, a1, a2, 0)))) else (if a1 = 0 then (none) else (some (wrap64 (Int.tdiv (wrap64 ((wrap64 ((wrap64 (Int.tdiv t134 t136)) * 10)))) 60), Int.tmod (wrap64 ((wrap64 ((wrap64 (Int.tdiv t134 t136)) * 10)))) 60, wrap64 (Int.tdiv (Int.tmod t134 t137) a1), Int.tmod (Int.tmod t134 t137) a1, a1, a2, 0)))))))))) else (some (0, 0, 0, 0, 0, false, bt132.2)))
theorem timecode_Label.mono : ∀ a0 a1 a2 k, LeO (timecode_Label.f k a0 a1 a2) (timecode_Label.f (k + 1) a0 a1 a2) := by
  intro a0 a1 a2 k
  unfold timecode_Label.f
  repeat' first
      | (with_reducible exact timecode_Day.mono _ _ _)
      | (with_reducible exact LeO.refl _)
      | (with_reducible exact LeO.none _)
      | (with_reducible refine LeO.ite ?_ ?_)
      | (with_reducible refine LeO.bind ?_ (fun _ => ?_))
      | exact timecode_Day.mono _ _ _
      | exact LeO.none _
      | refine LeO.ite ?_ ?_
      | refine LeO.bind ?_ (fun _ => ?_)
def timecode_Label.T17 : Bool × List (List Nat × List Nat) := (true, [([], []), ([], []), ([0, 1], [0, 1]), ([], []), ([], []), ([3, 4], [3, 4]), ([0, 1, 2], []), ([6, 2, 0, 1, 2], [2, 6]), ([0, 1, 2, 3, 4, 5, 6, 7], []), ([8, 5, 7, 0, 1, 2, 3, 4, 5, 6, 7], [5, 8])])
def timecode_Label.B17 : List Nat := [0, 0, 3, 0, 0, 24, 7, 71, 255, 511]
theorem timecode_Label.tab17 : rtab .any (opsOf Try.f23 17) = timecode_Label.T17 := by kernel_rfl
theorem timecode_Label.bits17 : waitsOk timecode_Label.T17.2 timecode_Label.B17 = true := by kernel_rfl
set_option maxHeartbeats 8000000 in
set_option maxRecDepth 100000 in
theorem timecode_Label.calls (k : Nat) (a0 : Int) (a1 : Int) (a2 : Bool) (r1 : Int) (r2 : Int) (r3 : Int) (r4 : Int) (r5 : Int) (r6 : Bool) (r7 : Int) (w : World) (h : timecode_Label.f k a0 a1 a2 = some (r1, r2, r3, r4, r5, r6, r7)) :
    Calls Try.prog 23 #[.int .i64 a0, .int .i64 a1, .bool a2] w fun e w' => e = .returned (.tuple #[.agg #[.int .i64 r1, .int .i64 r2, .int .i64 r3, .int .i64 r4, .int .i64 r5, .bool r6], .int .i64 r7]) ∧ Below w.heap.size w w' := by
  have hu34 := Try.underlying34
  have HB := Aside0.mk (Below.refl w.heap.size w)
  have H : ((timecode_Day.f k a1 a2).bind fun bt132 => (if bt132.2 = 0 then ((timecode_within.f a0 bt132.1).bind fun t134 => ((timecode_dropped.f a1 a2).bind fun t135 => ((timecode_tenMinutes.f a1 a2).bind fun t136 => (if t136 = 0 then (none) else ((timecode_tenMinutes.f a1 a2).bind fun t137 => (if t137 = 0 then (none) else (if (Int.tmod t134 t137) ≥ (wrap64 (60 * a1)) then (if (wrap64 ((wrap64 (60 * a1)) - t135)) = 0 then (none) else (if a1 = 0 then (none) else (some (wrap64 (Int.tdiv (wrap64 ((wrap64 (1 + (wrap64 (Int.tdiv (wrap64 ((Int.tmod t134 t137) - (wrap64 (60 * a1)))) (wrap64 ((wrap64 (60 * a1)) - t135)))))) + (wrap64 ((wrap64 (Int.tdiv t134 t136)) * 10)))) 60), Int.tmod (wrap64 ((wrap64 (1 + (wrap64 (Int.tdiv (wrap64 ((Int.tmod t134 t137) - (wrap64 (60 * a1)))) (wrap64 ((wrap64 (60 * a1)) - t135)))))) + (wrap64 ((wrap64 (Int.tdiv t134 t136)) * 10)))) 60, wrap64 (Int.tdiv (wrap64 ((Int.tmod (wrap64 ((Int.tmod t134 t137) - (wrap64 (60 * a1)))) (wrap64 ((wrap64 (60 * a1)) - t135))) + t135)) a1), Int.tmod (wrap64 ((Int.tmod (wrap64 ((Int.tmod t134 t137) - (wrap64 (60 * a1)))) (wrap64 ((wrap64 (60 * a1)) - t135))) + t135)) a1, a1, a2, 0)))) else (if a1 = 0 then (none) else (some (wrap64 (Int.tdiv (wrap64 ((wrap64 ((wrap64 (Int.tdiv t134 t136)) * 10)))) 60), Int.tmod (wrap64 ((wrap64 ((wrap64 (Int.tdiv t134 t136)) * 10)))) 60, wrap64 (Int.tdiv (Int.tmod t134 t137) a1), Int.tmod (Int.tmod t134 t137) a1, a1, a2, 0)))))))))) else (some (0, 0, 0, 0, 0, false, bt132.2)))) = some (r1, r2, r3, r4, r5, r6, r7) := h
  clear h
  replace H := Option.bind_eq_some_iff.mp H
  obtain ⟨⟨t132, t133⟩, A40, H⟩ := H
  replace H : (if t133 = 0 then ((timecode_within.f a0 t132).bind fun t134 => ((timecode_dropped.f a1 a2).bind fun t135 => ((timecode_tenMinutes.f a1 a2).bind fun t136 => (if t136 = 0 then (none) else ((timecode_tenMinutes.f a1 a2).bind fun t137 => (if t137 = 0 then (none) else (if (Int.tmod t134 t137) ≥ (wrap64 (60 * a1)) then (if (wrap64 ((wrap64 (60 * a1)) - t135)) = 0 then (none) else (if a1 = 0 then (none) else (some (wrap64 (Int.tdiv (wrap64 ((wrap64 (1 + (wrap64 (Int.tdiv (wrap64 ((Int.tmod t134 t137) - (wrap64 (60 * a1)))) (wrap64 ((wrap64 (60 * a1)) - t135)))))) + (wrap64 ((wrap64 (Int.tdiv t134 t136)) * 10)))) 60), Int.tmod (wrap64 ((wrap64 (1 + (wrap64 (Int.tdiv (wrap64 ((Int.tmod t134 t137) - (wrap64 (60 * a1)))) (wrap64 ((wrap64 (60 * a1)) - t135)))))) + (wrap64 ((wrap64 (Int.tdiv t134 t136)) * 10)))) 60, wrap64 (Int.tdiv (wrap64 ((Int.tmod (wrap64 ((Int.tmod t134 t137) - (wrap64 (60 * a1)))) (wrap64 ((wrap64 (60 * a1)) - t135))) + t135)) a1), Int.tmod (wrap64 ((Int.tmod (wrap64 ((Int.tmod t134 t137) - (wrap64 (60 * a1)))) (wrap64 ((wrap64 (60 * a1)) - t135))) + t135)) a1, a1, a2, 0)))) else (if a1 = 0 then (none) else (some (wrap64 (Int.tdiv (wrap64 ((wrap64 ((wrap64 (Int.tdiv t134 t136)) * 10)))) 60), Int.tmod (wrap64 ((wrap64 ((wrap64 (Int.tdiv t134 t136)) * 10)))) 60, wrap64 (Int.tdiv (Int.tmod t134 t137) a1), Int.tmod (Int.tmod t134 t137) a1, a1, a2, 0)))))))))) else (some (0, 0, 0, 0, 0, false, t133))) = some (r1, r2, r3, r4, r5, r6, r7) := H
  have A4 := Aside0.mk A40
  clear A40
  by_cases c5 : t133 = 0
  · rw [if_pos c5] at H
    have c5b0 : (t133 == 0) = true := beq_iff_eq.mpr c5
    have c5b1 : (t133 != 0) = false := bne_eq_false_iff_eq.mpr c5
    clear c5
    replace H := Option.bind_eq_some_iff.mp H
    obtain ⟨t134, A60, H⟩ := H
    replace H : ((timecode_dropped.f a1 a2).bind fun t135 => ((timecode_tenMinutes.f a1 a2).bind fun t136 => (if t136 = 0 then (none) else ((timecode_tenMinutes.f a1 a2).bind fun t137 => (if t137 = 0 then (none) else (if (Int.tmod t134 t137) ≥ (wrap64 (60 * a1)) then (if (wrap64 ((wrap64 (60 * a1)) - t135)) = 0 then (none) else (if a1 = 0 then (none) else (some (wrap64 (Int.tdiv (wrap64 ((wrap64 (1 + (wrap64 (Int.tdiv (wrap64 ((Int.tmod t134 t137) - (wrap64 (60 * a1)))) (wrap64 ((wrap64 (60 * a1)) - t135)))))) + (wrap64 ((wrap64 (Int.tdiv t134 t136)) * 10)))) 60), Int.tmod (wrap64 ((wrap64 (1 + (wrap64 (Int.tdiv (wrap64 ((Int.tmod t134 t137) - (wrap64 (60 * a1)))) (wrap64 ((wrap64 (60 * a1)) - t135)))))) + (wrap64 ((wrap64 (Int.tdiv t134 t136)) * 10)))) 60, wrap64 (Int.tdiv (wrap64 ((Int.tmod (wrap64 ((Int.tmod t134 t137) - (wrap64 (60 * a1)))) (wrap64 ((wrap64 (60 * a1)) - t135))) + t135)) a1), Int.tmod (wrap64 ((Int.tmod (wrap64 ((Int.tmod t134 t137) - (wrap64 (60 * a1)))) (wrap64 ((wrap64 (60 * a1)) - t135))) + t135)) a1, a1, a2, 0)))) else (if a1 = 0 then (none) else (some (wrap64 (Int.tdiv (wrap64 ((wrap64 ((wrap64 (Int.tdiv t134 t136)) * 10)))) 60), Int.tmod (wrap64 ((wrap64 ((wrap64 (Int.tdiv t134 t136)) * 10)))) 60, wrap64 (Int.tdiv (Int.tmod t134 t137) a1), Int.tmod (Int.tmod t134 t137) a1, a1, a2, 0))))))))) = some (r1, r2, r3, r4, r5, r6, r7) := H
    have A6 := Aside0.mk A60
    clear A60
    replace H := Option.bind_eq_some_iff.mp H
    obtain ⟨t135, A70, H⟩ := H
    replace H : ((timecode_tenMinutes.f a1 a2).bind fun t136 => (if t136 = 0 then (none) else ((timecode_tenMinutes.f a1 a2).bind fun t137 => (if t137 = 0 then (none) else (if (Int.tmod t134 t137) ≥ (wrap64 (60 * a1)) then (if (wrap64 ((wrap64 (60 * a1)) - t135)) = 0 then (none) else (if a1 = 0 then (none) else (some (wrap64 (Int.tdiv (wrap64 ((wrap64 (1 + (wrap64 (Int.tdiv (wrap64 ((Int.tmod t134 t137) - (wrap64 (60 * a1)))) (wrap64 ((wrap64 (60 * a1)) - t135)))))) + (wrap64 ((wrap64 (Int.tdiv t134 t136)) * 10)))) 60), Int.tmod (wrap64 ((wrap64 (1 + (wrap64 (Int.tdiv (wrap64 ((Int.tmod t134 t137) - (wrap64 (60 * a1)))) (wrap64 ((wrap64 (60 * a1)) - t135)))))) + (wrap64 ((wrap64 (Int.tdiv t134 t136)) * 10)))) 60, wrap64 (Int.tdiv (wrap64 ((Int.tmod (wrap64 ((Int.tmod t134 t137) - (wrap64 (60 * a1)))) (wrap64 ((wrap64 (60 * a1)) - t135))) + t135)) a1), Int.tmod (wrap64 ((Int.tmod (wrap64 ((Int.tmod t134 t137) - (wrap64 (60 * a1)))) (wrap64 ((wrap64 (60 * a1)) - t135))) + t135)) a1, a1, a2, 0)))) else (if a1 = 0 then (none) else (some (wrap64 (Int.tdiv (wrap64 ((wrap64 ((wrap64 (Int.tdiv t134 t136)) * 10)))) 60), Int.tmod (wrap64 ((wrap64 ((wrap64 (Int.tdiv t134 t136)) * 10)))) 60, wrap64 (Int.tdiv (Int.tmod t134 t137) a1), Int.tmod (Int.tmod t134 t137) a1, a1, a2, 0)))))))) = some (r1, r2, r3, r4, r5, r6, r7) := H
    have A7 := Aside0.mk A70
    clear A70
    replace H := Option.bind_eq_some_iff.mp H
    obtain ⟨t136, A80, H⟩ := H
    replace H : (if t136 = 0 then (none) else ((timecode_tenMinutes.f a1 a2).bind fun t137 => (if t137 = 0 then (none) else (if (Int.tmod t134 t137) ≥ (wrap64 (60 * a1)) then (if (wrap64 ((wrap64 (60 * a1)) - t135)) = 0 then (none) else (if a1 = 0 then (none) else (some (wrap64 (Int.tdiv (wrap64 ((wrap64 (1 + (wrap64 (Int.tdiv (wrap64 ((Int.tmod t134 t137) - (wrap64 (60 * a1)))) (wrap64 ((wrap64 (60 * a1)) - t135)))))) + (wrap64 ((wrap64 (Int.tdiv t134 t136)) * 10)))) 60), Int.tmod (wrap64 ((wrap64 (1 + (wrap64 (Int.tdiv (wrap64 ((Int.tmod t134 t137) - (wrap64 (60 * a1)))) (wrap64 ((wrap64 (60 * a1)) - t135)))))) + (wrap64 ((wrap64 (Int.tdiv t134 t136)) * 10)))) 60, wrap64 (Int.tdiv (wrap64 ((Int.tmod (wrap64 ((Int.tmod t134 t137) - (wrap64 (60 * a1)))) (wrap64 ((wrap64 (60 * a1)) - t135))) + t135)) a1), Int.tmod (wrap64 ((Int.tmod (wrap64 ((Int.tmod t134 t137) - (wrap64 (60 * a1)))) (wrap64 ((wrap64 (60 * a1)) - t135))) + t135)) a1, a1, a2, 0)))) else (if a1 = 0 then (none) else (some (wrap64 (Int.tdiv (wrap64 ((wrap64 ((wrap64 (Int.tdiv t134 t136)) * 10)))) 60), Int.tmod (wrap64 ((wrap64 ((wrap64 (Int.tdiv t134 t136)) * 10)))) 60, wrap64 (Int.tdiv (Int.tmod t134 t137) a1), Int.tmod (Int.tmod t134 t137) a1, a1, a2, 0))))))) = some (r1, r2, r3, r4, r5, r6, r7) := H
    have A8 := Aside0.mk A80
    clear A80
    by_cases c9 : t136 = 0
    · rw [if_pos c9] at H
      exact absurd H (by simp)
    · rw [if_neg c9] at H
      have c9b0 : (t136 == 0) = false := beq_eq_false_iff_ne.mpr c9
      have c9b1 : (t136 != 0) = true := bne_iff_ne.mpr c9
      replace H := Option.bind_eq_some_iff.mp H
      obtain ⟨t137, A100, H⟩ := H
      replace H : (if t137 = 0 then (none) else (if (Int.tmod t134 t137) ≥ (wrap64 (60 * a1)) then (if (wrap64 ((wrap64 (60 * a1)) - t135)) = 0 then (none) else (if a1 = 0 then (none) else (some (wrap64 (Int.tdiv (wrap64 ((wrap64 (1 + (wrap64 (Int.tdiv (wrap64 ((Int.tmod t134 t137) - (wrap64 (60 * a1)))) (wrap64 ((wrap64 (60 * a1)) - t135)))))) + (wrap64 ((wrap64 (Int.tdiv t134 t136)) * 10)))) 60), Int.tmod (wrap64 ((wrap64 (1 + (wrap64 (Int.tdiv (wrap64 ((Int.tmod t134 t137) - (wrap64 (60 * a1)))) (wrap64 ((wrap64 (60 * a1)) - t135)))))) + (wrap64 ((wrap64 (Int.tdiv t134 t136)) * 10)))) 60, wrap64 (Int.tdiv (wrap64 ((Int.tmod (wrap64 ((Int.tmod t134 t137) - (wrap64 (60 * a1)))) (wrap64 ((wrap64 (60 * a1)) - t135))) + t135)) a1), Int.tmod (wrap64 ((Int.tmod (wrap64 ((Int.tmod t134 t137) - (wrap64 (60 * a1)))) (wrap64 ((wrap64 (60 * a1)) - t135))) + t135)) a1, a1, a2, 0)))) else (if a1 = 0 then (none) else (some (wrap64 (Int.tdiv (wrap64 ((wrap64 ((wrap64 (Int.tdiv t134 t136)) * 10)))) 60), Int.tmod (wrap64 ((wrap64 ((wrap64 (Int.tdiv t134 t136)) * 10)))) 60, wrap64 (Int.tdiv (Int.tmod t134 t137) a1), Int.tmod (Int.tmod t134 t137) a1, a1, a2, 0))))) = some (r1, r2, r3, r4, r5, r6, r7) := H
      have A10 := Aside0.mk A100
      clear A100
      by_cases c11 : t137 = 0
      · rw [if_pos c11] at H
        exact absurd H (by simp)
      · rw [if_neg c11] at H
        have c11b0 : (t137 == 0) = false := beq_eq_false_iff_ne.mpr c11
        have c11b1 : (t137 != 0) = true := bne_iff_ne.mpr c11
        by_cases c12 : (Int.tmod t134 t137) ≥ (wrap64 (60 * a1))
        · rw [if_pos c12] at H
          have c12b0 : decide ((wrap64 (60 * a1)) ≤ (Int.tmod t134 t137)) = true := decide_eq_true c12
          clear c12
          by_cases c13 : (wrap64 ((wrap64 (60 * a1)) - t135)) = 0
          · rw [if_pos c13] at H
            exact absurd H (by simp)
          · rw [if_neg c13] at H
            have c13b0 : ((wrap64 ((wrap64 (60 * a1)) - t135)) == 0) = false := beq_eq_false_iff_ne.mpr c13
            have c13b1 : ((wrap64 ((wrap64 (60 * a1)) - t135)) != 0) = true := bne_iff_ne.mpr c13
            by_cases c14 : a1 = 0
            · rw [if_pos c14] at H
              exact absurd H (by simp)
            · rw [if_neg c14] at H
              have c14b0 : (a1 == 0) = false := beq_eq_false_iff_ne.mpr c14
              have c14b1 : (a1 != 0) = true := bne_iff_ne.mpr c14
              simp only [Option.some.injEq, Prod.mk.injEq] at H
              obtain ⟨rfl, rfl, rfl, rfl, rfl, rfl, rfl⟩ := H
              go_enter Try.func23, Try.ntmps23
              try go_wp2_with (first | ((with_reducible refine gate_dst (N := 6) rfl ?_); refine box_event ?hg (N := 6) ?hd (cs := #[.int .i64 0, .int .i64 0, .int .i64 0, .int .i64 0, .int .i64 0, .bool false]) (t := 34) ?hr ?_; (case hd => rfl); (case hg => rfl); (case hr => first | (go_simp; done) | (go_simp; rfl)); intro gb131 hg w15 hbox hb; have n0_ := Aside0.mk (below_step (by repeat (first | (with_reducible first | exact HB.out | apply below_alloc | apply pw_below_drewN | apply below_drew1) | exact HB.out)) hb); have n1_ := Aside0.mk (hbox); have n2_ := Aside0.mk ((by rw [hg]; exact (below_size (by repeat (first | (with_reducible first | exact HB.out | apply below_alloc | apply pw_below_drewN | apply below_drew1) | exact HB.out))) : w.heap.size ≤ gb131)); have n3_ := Aside0.mk ((by rw [hg]; exact (below_size (by repeat (first | (with_reducible first | exact HB.out | apply below_alloc | apply pw_below_drewN | apply below_drew1) | exact HB.out))) : w.heap.size ≤ gb131)); clear HB; have HB := n0_; have BK131 := n1_; have GW131 := n2_; have GE131 := n3_; clear n0_ n1_ n2_ n3_; clear hb hbox hg) | ((with_reducible refine gate_callee (f := 21) rfl ?_); refine goesL_ (some 19) rfl rfl Try.func21 (by kernel_rfl) rfl #[.int .i64 a1, .bool a2] rfl (by (try simp only [List.map_toArray, List.map_cons, List.map_nil]); first | done | rfl | (simp only [List.length_drop, List.length_take]; rfl)) ?_; (with_reducible refine (timecode_Day.calls k a1 a2 t132 t133 _ A4.out).mono ?_); rintro e w16 ⟨rfl, hb⟩; refine ⟨_, rfl, ?_⟩; have n0_ := Aside0.mk (blk_below (g := gb131) (o := .cells #[.int .i64 0, .int .i64 0, .int .i64 0, .int .i64 0, .int .i64 0, .bool false] 34 (0, 0)) (by (with_reducible repeat (first | refine blk_drewN ?_ _ | refine blk_drew ?_ | refine blk_alloc ?_ _)); exact BK131.out) hb); have n1_ := Aside0.mk (below_step (by repeat (first | (with_reducible first | exact HB.out | apply below_alloc | apply pw_below_drewN | apply below_drew1 | refine below_set ?_ GE131.out) | exact HB.out)) hb); clear BK131; clear HB; have BK131 := n0_; have HB := n1_; clear n0_ n1_; (try clear hb); (try clear hb2); (try clear hk); (try clear hi)) | ((with_reducible refine gate_callee (f := 42) rfl ?_); refine goesL_ (some 28) rfl rfl Try.func42 (by kernel_rfl) rfl #[.int .i64 a0, .int .i64 t132] rfl (by (try simp only [List.map_toArray, List.map_cons, List.map_nil]); first | done | rfl | (simp only [List.length_drop, List.length_take]; rfl)) ?_; (with_reducible refine (timecode_within.calls a0 t132 t134 _ A6.out).mono ?_); rintro e w' ⟨rfl, ⟨nd, rfl⟩⟩; refine ⟨_, rfl, ?_⟩; (try (rw [drewN_self w16]; generalize hq_ : World.drewN w16 _ = w16; have n0_ : Aside0 (w16.heap[gb131]? = some (.cells #[.int .i64 0, .int .i64 0, .int .i64 0, .int .i64 0, .int .i64 0, .bool false] 34 (0, 0))) := ⟨by rw [← hq_]; exact (by (with_reducible repeat (first | refine blk_drewN ?_ _ | refine blk_drew ?_ | refine blk_alloc ?_ _)); exact BK131.out)⟩; have n1_ : Aside0 (Below w.heap.size w w16) := ⟨by rw [← hq_]; exact (by repeat (first | (with_reducible first | exact HB.out | apply below_alloc | apply pw_below_drewN | apply below_drew1 | refine below_set ?_ GE131.out) | exact HB.out))⟩; clear BK131 HB hq_; have BK131 := n0_; have HB := n1_; clear n0_ n1_))) | ((with_reducible refine gate_callee (f := 43) rfl ?_); refine goesL_ (some 32) rfl rfl Try.func43 (by kernel_rfl) rfl #[.int .i64 a1, .bool a2] rfl (by (try simp only [List.map_toArray, List.map_cons, List.map_nil]); first | done | rfl | (simp only [List.length_drop, List.length_take]; rfl)) ?_; (with_reducible refine (timecode_dropped.calls a1 a2 t135 _ A7.out).mono ?_); rintro e w' ⟨rfl, ⟨nd, rfl⟩⟩; refine ⟨_, rfl, ?_⟩; (try (rw [drewN_self w16]; generalize hq_ : World.drewN w16 _ = w16; have n0_ : Aside0 (w16.heap[gb131]? = some (.cells #[.int .i64 0, .int .i64 0, .int .i64 0, .int .i64 0, .int .i64 0, .bool false] 34 (0, 0))) := ⟨by rw [← hq_]; exact (by (with_reducible repeat (first | refine blk_drewN ?_ _ | refine blk_drew ?_ | refine blk_alloc ?_ _)); exact BK131.out)⟩; have n1_ : Aside0 (Below w.heap.size w w16) := ⟨by rw [← hq_]; exact (by repeat (first | (with_reducible first | exact HB.out | apply below_alloc | apply pw_below_drewN | apply below_drew1 | refine below_set ?_ GE131.out) | exact HB.out))⟩; clear BK131 HB hq_; have BK131 := n0_; have HB := n1_; clear n0_ n1_))) | ((with_reducible refine gate_callee (f := 40) rfl ?_); refine goesL_ (some 36) rfl rfl Try.func40 (by kernel_rfl) rfl #[.int .i64 a1, .bool a2] rfl (by (try simp only [List.map_toArray, List.map_cons, List.map_nil]); first | done | rfl | (simp only [List.length_drop, List.length_take]; rfl)) ?_; (with_reducible refine (timecode_tenMinutes.calls a1 a2 t136 _ A8.out).mono ?_); rintro e w' ⟨rfl, ⟨nd, rfl⟩⟩; refine ⟨_, rfl, ?_⟩; (try (rw [drewN_self w16]; generalize hq_ : World.drewN w16 _ = w16; have n0_ : Aside0 (w16.heap[gb131]? = some (.cells #[.int .i64 0, .int .i64 0, .int .i64 0, .int .i64 0, .int .i64 0, .bool false] 34 (0, 0))) := ⟨by rw [← hq_]; exact (by (with_reducible repeat (first | refine blk_drewN ?_ _ | refine blk_drew ?_ | refine blk_alloc ?_ _)); exact BK131.out)⟩; have n1_ : Aside0 (Below w.heap.size w w16) := ⟨by rw [← hq_]; exact (by repeat (first | (with_reducible first | exact HB.out | apply below_alloc | apply pw_below_drewN | apply below_drew1 | refine below_set ?_ GE131.out) | exact HB.out))⟩; clear BK131 HB hq_; have BK131 := n0_; have HB := n1_; clear n0_ n1_))) | ((with_reducible refine gate_callee (f := 40) rfl ?_); refine goesL_ (some 42) rfl rfl Try.func40 (by kernel_rfl) rfl #[.int .i64 a1, .bool a2] rfl (by (try simp only [List.map_toArray, List.map_cons, List.map_nil]); first | done | rfl | (simp only [List.length_drop, List.length_take]; rfl)) ?_; (with_reducible refine (timecode_tenMinutes.calls a1 a2 t137 _ A10.out).mono ?_); rintro e w' ⟨rfl, ⟨nd, rfl⟩⟩; refine ⟨_, rfl, ?_⟩; (try (rw [drewN_self w16]; generalize hq_ : World.drewN w16 _ = w16; have n0_ : Aside0 (w16.heap[gb131]? = some (.cells #[.int .i64 0, .int .i64 0, .int .i64 0, .int .i64 0, .int .i64 0, .bool false] 34 (0, 0))) := ⟨by rw [← hq_]; exact (by (with_reducible repeat (first | refine blk_drewN ?_ _ | refine blk_drew ?_ | refine blk_alloc ?_ _)); exact BK131.out)⟩; have n1_ : Aside0 (Below w.heap.size w w16) := ⟨by rw [← hq_]; exact (by repeat (first | (with_reducible first | exact HB.out | apply below_alloc | apply pw_below_drewN | apply below_drew1 | refine below_set ?_ GE131.out) | exact HB.out))⟩; clear BK131 HB hq_; have BK131 := n0_; have HB := n1_; clear n0_ n1_))) | ((with_reducible refine gate_dst (N := 15) rfl ?_); refine box_event ?hg (N := 15) ?hd (cs := #[.int .i64 0, .int .i64 0, .int .i64 0, .int .i64 0, .int .i64 0, .bool false]) (t := 34) ?hr ?_; (case hd => rfl); (case hg => rfl); (case hr => first | (go_simp; done) | (go_simp; rfl)); intro gb138 hg w17 hbox hb; have n0_ := Aside0.mk (blk_below (g := gb131) (o := .cells #[.int .i64 0, .int .i64 0, .int .i64 0, .int .i64 0, .int .i64 0, .bool false] 34 (0, 0)) (by (with_reducible repeat (first | refine blk_drewN ?_ _ | refine blk_drew ?_ | refine blk_alloc ?_ _)); exact BK131.out) hb); have n1_ := Aside0.mk (below_step (by repeat (first | (with_reducible first | exact HB.out | apply below_alloc | apply pw_below_drewN | apply below_drew1 | refine below_set ?_ GE131.out) | exact HB.out)) hb); have n2_ := Aside0.mk (hbox); have n3_ := Aside0.mk ((by rw [hg]; exact (below_size (by repeat (first | (with_reducible first | exact HB.out | apply below_alloc | apply pw_below_drewN | apply below_drew1 | refine below_set ?_ GE131.out) | exact HB.out))) : w.heap.size ≤ gb138)); have n4_ := Aside0.mk ((by rw [hg]; exact (below_size (by repeat (first | (with_reducible first | exact HB.out | apply below_alloc | apply pw_below_drewN | apply below_drew1 | refine below_set ?_ GE131.out) | exact HB.out))) : w.heap.size ≤ gb138)); have n5_ := Aside0.mk ((by rw [hg]; exact Nat.ne_of_lt (blk_lt (g := gb131) (o := .cells #[.int .i64 0, .int .i64 0, .int .i64 0, .int .i64 0, .int .i64 0, .bool false] 34 (0, 0)) (by (with_reducible repeat (first | refine blk_drewN ?_ _ | refine blk_drew ?_ | refine blk_alloc ?_ _)); exact BK131.out)) : gb131 ≠ gb138)); have n6_ := Aside0.mk ((by rw [hg]; exact Nat.ne_of_gt (blk_lt (g := gb131) (o := .cells #[.int .i64 0, .int .i64 0, .int .i64 0, .int .i64 0, .int .i64 0, .bool false] 34 (0, 0)) (by (with_reducible repeat (first | refine blk_drewN ?_ _ | refine blk_drew ?_ | refine blk_alloc ?_ _)); exact BK131.out)) : gb138 ≠ gb131)); clear BK131; clear HB; have BK131 := n0_; have HB := n1_; have BK138 := n2_; have GW138 := n3_; have GE138 := n4_; have NB131_138 := n5_; have NB138_131 := n6_; clear n0_ n1_ n2_ n3_ n4_ n5_ n6_; clear hb hbox hg; have hnb18 := NB138_131.out; have hnc18 := NB131_138.out; have hcz19_0 : w17.cell? ⟨gb138, 0, none⟩ = some (.int .i64 0) := (blk_cell BK138.out 0).trans rfl; have hcz19_1 : w17.cell? ⟨gb138, 1, none⟩ = some (.int .i64 0) := (blk_cell BK138.out 1).trans rfl; have hcz19_2 : w17.cell? ⟨gb138, 2, none⟩ = some (.int .i64 0) := (blk_cell BK138.out 2).trans rfl; have hcz19_3 : w17.cell? ⟨gb138, 3, none⟩ = some (.int .i64 0) := (blk_cell BK138.out 3).trans rfl; have hcz19_4 : w17.cell? ⟨gb138, 4, none⟩ = some (.int .i64 0) := (blk_cell BK138.out 4).trans rfl; have hcz19_5 : w17.cell? ⟨gb138, 5, none⟩ = some (.bool false) := (blk_cell BK138.out 5).trans rfl; have hfz19_0 := blk_frozen BK138.out 0; have hfz19_1 := blk_frozen BK138.out 1; have hfz19_2 := blk_frozen BK138.out 2; have hfz19_3 := blk_frozen BK138.out 3; have hfz19_4 := blk_frozen BK138.out 4; have hfz19_5 := blk_frozen BK138.out 5))
              have n0_ : Aside0 (((((((((w17.setCell ⟨gb138, 0, none⟩ (.int .i64 0)).setCell ⟨gb138, 1, none⟩ (.int .i64 0)).setCell ⟨gb138, 2, none⟩ (.int .i64 0)).setCell ⟨gb138, 3, none⟩ (.int .i64 0)).setCell ⟨gb138, 4, none⟩ (.int .i64 a1)).setCell ⟨gb138, 5, none⟩ (.bool a2)).setCell ⟨gb138, 0, none⟩ (.int .i64 (wrap64 (Int.tdiv (wrap64 ((wrap64 (1 + (wrap64 (Int.tdiv (wrap64 ((Int.tmod t134 t137) - (wrap64 (60 * a1)))) (wrap64 ((wrap64 (60 * a1)) - t135)))))) + (wrap64 ((wrap64 (Int.tdiv t134 t136)) * 10)))) 60)))).setCell ⟨gb138, 1, none⟩ (.int .i64 (Int.tmod (wrap64 ((wrap64 (1 + (wrap64 (Int.tdiv (wrap64 ((Int.tmod t134 t137) - (wrap64 (60 * a1)))) (wrap64 ((wrap64 (60 * a1)) - t135)))))) + (wrap64 ((wrap64 (Int.tdiv t134 t136)) * 10)))) 60))).heap[gb131]? = some (.cells #[.int .i64 0, .int .i64 0, .int .i64 0, .int .i64 0, .int .i64 0, .bool false] 34 (0, 0))) := ⟨by (with_reducible repeat (first | refine blk_drewN ?_ _ | refine blk_drew ?_ | refine blk_alloc ?_ _)); refine blk_far ?_ NB131_138.out _; (with_reducible repeat (first | refine blk_drewN ?_ _ | refine blk_drew ?_ | refine blk_alloc ?_ _)); refine blk_far ?_ NB131_138.out _; (with_reducible repeat (first | refine blk_drewN ?_ _ | refine blk_drew ?_ | refine blk_alloc ?_ _)); refine blk_far ?_ NB131_138.out _; (with_reducible repeat (first | refine blk_drewN ?_ _ | refine blk_drew ?_ | refine blk_alloc ?_ _)); refine blk_far ?_ NB131_138.out _; (with_reducible repeat (first | refine blk_drewN ?_ _ | refine blk_drew ?_ | refine blk_alloc ?_ _)); refine blk_far ?_ NB131_138.out _; (with_reducible repeat (first | refine blk_drewN ?_ _ | refine blk_drew ?_ | refine blk_alloc ?_ _)); refine blk_far ?_ NB131_138.out _; (with_reducible repeat (first | refine blk_drewN ?_ _ | refine blk_drew ?_ | refine blk_alloc ?_ _)); refine blk_far ?_ NB131_138.out _; (with_reducible repeat (first | refine blk_drewN ?_ _ | refine blk_drew ?_ | refine blk_alloc ?_ _)); refine blk_far ?_ NB131_138.out _; (with_reducible repeat (first | refine blk_drewN ?_ _ | refine blk_drew ?_ | refine blk_alloc ?_ _)); exact BK131.out⟩
              have n1_ : Aside0 (((((((((w17.setCell ⟨gb138, 0, none⟩ (.int .i64 0)).setCell ⟨gb138, 1, none⟩ (.int .i64 0)).setCell ⟨gb138, 2, none⟩ (.int .i64 0)).setCell ⟨gb138, 3, none⟩ (.int .i64 0)).setCell ⟨gb138, 4, none⟩ (.int .i64 a1)).setCell ⟨gb138, 5, none⟩ (.bool a2)).setCell ⟨gb138, 0, none⟩ (.int .i64 (wrap64 (Int.tdiv (wrap64 ((wrap64 (1 + (wrap64 (Int.tdiv (wrap64 ((Int.tmod t134 t137) - (wrap64 (60 * a1)))) (wrap64 ((wrap64 (60 * a1)) - t135)))))) + (wrap64 ((wrap64 (Int.tdiv t134 t136)) * 10)))) 60)))).setCell ⟨gb138, 1, none⟩ (.int .i64 (Int.tmod (wrap64 ((wrap64 (1 + (wrap64 (Int.tdiv (wrap64 ((Int.tmod t134 t137) - (wrap64 (60 * a1)))) (wrap64 ((wrap64 (60 * a1)) - t135)))))) + (wrap64 ((wrap64 (Int.tdiv t134 t136)) * 10)))) 60))).heap[gb138]? = some (.cells #[.int .i64 (wrap64 (Int.tdiv (wrap64 ((wrap64 (1 + (wrap64 (Int.tdiv (wrap64 ((Int.tmod t134 t137) - (wrap64 (60 * a1)))) (wrap64 ((wrap64 (60 * a1)) - t135)))))) + (wrap64 ((wrap64 (Int.tdiv t134 t136)) * 10)))) 60)), .int .i64 (Int.tmod (wrap64 ((wrap64 (1 + (wrap64 (Int.tdiv (wrap64 ((Int.tmod t134 t137) - (wrap64 (60 * a1)))) (wrap64 ((wrap64 (60 * a1)) - t135)))))) + (wrap64 ((wrap64 (Int.tdiv t134 t136)) * 10)))) 60), .int .i64 0, .int .i64 0, .int .i64 a1, .bool a2] 34 (0, 0))) := ⟨by (with_reducible repeat (first | refine blk_drewN ?_ _ | refine blk_drew ?_ | refine blk_alloc ?_ _)); refine blk_put (cs := #[.int .i64 (wrap64 (Int.tdiv (wrap64 ((wrap64 (1 + (wrap64 (Int.tdiv (wrap64 ((Int.tmod t134 t137) - (wrap64 (60 * a1)))) (wrap64 ((wrap64 (60 * a1)) - t135)))))) + (wrap64 ((wrap64 (Int.tdiv t134 t136)) * 10)))) 60)), .int .i64 0, .int .i64 0, .int .i64 0, .int .i64 a1, .bool a2]) ?_ 1 _ rfl; (with_reducible repeat (first | refine blk_drewN ?_ _ | refine blk_drew ?_ | refine blk_alloc ?_ _)); refine blk_put (cs := #[.int .i64 0, .int .i64 0, .int .i64 0, .int .i64 0, .int .i64 a1, .bool a2]) ?_ 0 _ rfl; (with_reducible repeat (first | refine blk_drewN ?_ _ | refine blk_drew ?_ | refine blk_alloc ?_ _)); refine blk_put (cs := #[.int .i64 0, .int .i64 0, .int .i64 0, .int .i64 0, .int .i64 a1, .bool false]) ?_ 5 _ rfl; (with_reducible repeat (first | refine blk_drewN ?_ _ | refine blk_drew ?_ | refine blk_alloc ?_ _)); refine blk_put (cs := #[.int .i64 0, .int .i64 0, .int .i64 0, .int .i64 0, .int .i64 0, .bool false]) ?_ 4 _ rfl; (with_reducible repeat (first | refine blk_drewN ?_ _ | refine blk_drew ?_ | refine blk_alloc ?_ _)); refine blk_put (cs := #[.int .i64 0, .int .i64 0, .int .i64 0, .int .i64 0, .int .i64 0, .bool false]) ?_ 3 _ rfl; (with_reducible repeat (first | refine blk_drewN ?_ _ | refine blk_drew ?_ | refine blk_alloc ?_ _)); refine blk_put (cs := #[.int .i64 0, .int .i64 0, .int .i64 0, .int .i64 0, .int .i64 0, .bool false]) ?_ 2 _ rfl; (with_reducible repeat (first | refine blk_drewN ?_ _ | refine blk_drew ?_ | refine blk_alloc ?_ _)); refine blk_put (cs := #[.int .i64 0, .int .i64 0, .int .i64 0, .int .i64 0, .int .i64 0, .bool false]) ?_ 1 _ rfl; (with_reducible repeat (first | refine blk_drewN ?_ _ | refine blk_drew ?_ | refine blk_alloc ?_ _)); refine blk_put (cs := #[.int .i64 0, .int .i64 0, .int .i64 0, .int .i64 0, .int .i64 0, .bool false]) ?_ 0 _ rfl; (with_reducible repeat (first | refine blk_drewN ?_ _ | refine blk_drew ?_ | refine blk_alloc ?_ _)); exact BK138.out⟩
              have n2_ : Aside0 (Below w.heap.size w ((((((((w17.setCell ⟨gb138, 0, none⟩ (.int .i64 0)).setCell ⟨gb138, 1, none⟩ (.int .i64 0)).setCell ⟨gb138, 2, none⟩ (.int .i64 0)).setCell ⟨gb138, 3, none⟩ (.int .i64 0)).setCell ⟨gb138, 4, none⟩ (.int .i64 a1)).setCell ⟨gb138, 5, none⟩ (.bool a2)).setCell ⟨gb138, 0, none⟩ (.int .i64 (wrap64 (Int.tdiv (wrap64 ((wrap64 (1 + (wrap64 (Int.tdiv (wrap64 ((Int.tmod t134 t137) - (wrap64 (60 * a1)))) (wrap64 ((wrap64 (60 * a1)) - t135)))))) + (wrap64 ((wrap64 (Int.tdiv t134 t136)) * 10)))) 60)))).setCell ⟨gb138, 1, none⟩ (.int .i64 (Int.tmod (wrap64 ((wrap64 (1 + (wrap64 (Int.tdiv (wrap64 ((Int.tmod t134 t137) - (wrap64 (60 * a1)))) (wrap64 ((wrap64 (60 * a1)) - t135)))))) + (wrap64 ((wrap64 (Int.tdiv t134 t136)) * 10)))) 60)))) := ⟨by repeat (first | (with_reducible first | exact HB.out | apply below_alloc | apply pw_below_drewN | apply below_drew1 | refine below_set ?_ GE131.out | refine below_set ?_ GE138.out) | exact HB.out)⟩
              (try clear BK131)
              (try clear BK138)
              (try clear HB)
              generalize ((((((((w17.setCell ⟨gb138, 0, none⟩ (.int .i64 0)).setCell ⟨gb138, 1, none⟩ (.int .i64 0)).setCell ⟨gb138, 2, none⟩ (.int .i64 0)).setCell ⟨gb138, 3, none⟩ (.int .i64 0)).setCell ⟨gb138, 4, none⟩ (.int .i64 a1)).setCell ⟨gb138, 5, none⟩ (.bool a2)).setCell ⟨gb138, 0, none⟩ (.int .i64 (wrap64 (Int.tdiv (wrap64 ((wrap64 (1 + (wrap64 (Int.tdiv (wrap64 ((Int.tmod t134 t137) - (wrap64 (60 * a1)))) (wrap64 ((wrap64 (60 * a1)) - t135)))))) + (wrap64 ((wrap64 (Int.tdiv t134 t136)) * 10)))) 60)))).setCell ⟨gb138, 1, none⟩ (.int .i64 (Int.tmod (wrap64 ((wrap64 (1 + (wrap64 (Int.tdiv (wrap64 ((Int.tmod t134 t137) - (wrap64 (60 * a1)))) (wrap64 ((wrap64 (60 * a1)) - t135)))))) + (wrap64 ((wrap64 (Int.tdiv t134 t136)) * 10)))) 60))) = w20 at n0_ n1_ n2_ ⊢
              have BK131 := n0_
              have BK138 := n1_
              have HB := n2_
              clear n0_ n1_ n2_
              have n0_ := Aside0.mk (blk_drew BK131.out)
              have n1_ := Aside0.mk (blk_drew BK138.out)
              have n2_ := Aside0.mk (below_drew1 HB.out)
              clear BK131
              clear BK138
              clear HB
              have BK131 := n0_
              have BK138 := n1_
              have HB := n2_
              clear n0_ n1_ n2_
              refine start_ (n := 10) (S := fun w' => True) (ds := []) #[false, false, false, false, false, false, false, false, false, false] (by kernel_rfl) rfl rfl trivial (fun hHeld => ?_); refine with_tabW timecode_Label.tab17 timecode_Label.bits17 (fun HT_ HW_ => ?_)
              generalize w20.drew = w21 at BK131 BK138 HB hHeld ⊢
              refine pure_ (i := 0) (N := some 79) (v := ?_) (a' := ?_) #[true, false, false, false, false, false, false, false, false, false] rfl rfl (any_of HT_.out (by kernel_rfl)) (fun _ _ _ h => h) (Or.inl ⟨by rfl, ?_⟩) ?_ ?_
              rotate_left
              · intro w'
                go_simp
                with_reducible rfl
              rotate_left
              · simp only [Act.put, List.setIfInBounds_toArray, List.set_cons_zero, List.set_cons_succ, i64_w, i32_w]
                rfl
              refine pure_ (i := 1) (N := some 80) (v := ?_) (a' := ?_) #[true, true, false, false, false, false, false, false, false, false] rfl rfl (any_of HT_.out (by kernel_rfl)) (fun _ _ _ h => h) (Or.inl ⟨by rfl, ?_⟩) ?_ ?_
              rotate_left
              · intro w'
                go_simp
                with_reducible rfl
              rotate_left
              · simp only [Act.put, List.setIfInBounds_toArray, List.set_cons_zero, List.set_cons_succ, i64_w, i32_w]
                rfl
              refine pure_ (i := 2) (N := some 81) (v := ?_) (a' := ?_) #[true, true, true, false, false, false, false, false, false, false] rfl rfl (any_of HT_.out (by kernel_rfl)) (fun _ _ _ h => h) (Or.inl ⟨by rfl, ?_⟩) ?_ ?_
              rotate_left
              · intro w'
                go_simp
                with_reducible rfl
              rotate_left
              · simp only [Act.put, List.setIfInBounds_toArray, List.set_cons_zero, List.set_cons_succ, i64_w, i32_w]
                rfl
              refine pure_ (i := 3) (N := some 82) (v := ?_) (a' := ?_) #[true, true, true, true, false, false, false, false, false, false] rfl rfl (any_of HT_.out (by kernel_rfl)) (fun _ _ _ h => h) (Or.inl ⟨by rfl, ?_⟩) ?_ ?_
              rotate_left
              · intro w'
                go_simp
                with_reducible rfl
              rotate_left
              · simp only [Act.put, List.setIfInBounds_toArray, List.set_cons_zero, List.set_cons_succ, i64_w, i32_w]
                rfl
              refine pure_ (i := 4) (N := some 83) (v := ?_) (a' := ?_) #[true, true, true, true, true, false, false, false, false, false] rfl rfl (any_of HT_.out (by kernel_rfl)) (fun _ _ _ h => h) (Or.inl ⟨by rfl, ?_⟩) ?_ ?_
              rotate_left
              · intro w'
                go_simp
                with_reducible rfl
              rotate_left
              · simp only [Act.put, List.setIfInBounds_toArray, List.set_cons_zero, List.set_cons_succ, i64_w, i32_w]
                rfl
              refine pure_ (i := 5) (N := some 84) (v := ?_) (a' := ?_) #[true, true, true, true, true, true, false, false, false, false] rfl rfl (any_of HT_.out (by kernel_rfl)) (fun _ _ _ h => h) (Or.inl ⟨by rfl, ?_⟩) ?_ ?_
              rotate_left
              · intro w'
                go_simp
                with_reducible rfl
              rotate_left
              · simp only [Act.put, List.setIfInBounds_toArray, List.set_cons_zero, List.set_cons_succ, i64_w, i32_w]
                rfl
              refine pure_ (i := 6) (N := some 85) (v := ?_) (a' := ?_) #[true, true, true, true, true, true, true, false, false, false] rfl rfl (any_of HT_.out (by kernel_rfl)) (fun _ _ _ h => h) (Or.inl ⟨by rfl, ?_⟩) ?_ ?_
              rotate_left
              · intro w'
                go_simp
                with_reducible rfl
              rotate_left
              · simp only [Act.put, List.setIfInBounds_toArray, List.set_cons_zero, List.set_cons_succ, i64_w, i32_w]
                rfl
              refine one_ (i := 7) (N := none) #[true, true, true, true, true, true, true, true, false, false] rfl rfl (one_of HT_.out (by kernel_rfl)) (by decide) (fun K hK => ?_)
              have hs22 : w21.cell? ⟨gb138, 2, none⟩ = some (.int .i64 0) := (blk_cell BK138.out 2).trans rfl
              have hfs22 := blk_frozen BK138.out 2
              have hns22_0 := NB131_138.out
              have hms22_0 := NB138_131.out
              refine skip_ (w1 := ?_) (by rfl) rfl ?_ ?_
              rotate_left
              · go_simp
                rfl
              refine hK.out _ _ trivial (fun hHeld => ?_)
              clear hK K
              refine pure_ (i := 8) (N := some 86) (v := ?_) (a' := ?_) #[true, true, true, true, true, true, true, true, true, false] rfl rfl (any_of HT_.out (by kernel_rfl)) (fun _ _ _ h => h) (Or.inl ⟨by rfl, ?_⟩) ?_ ?_
              rotate_left
              · intro w'
                go_simp
                with_reducible rfl
              rotate_left
              · simp only [Act.put, List.setIfInBounds_toArray, List.set_cons_zero, List.set_cons_succ, i64_w, i32_w]
                rfl
              refine one_ (i := 9) (N := none) #[true, true, true, true, true, true, true, true, true, true] rfl rfl (one_of HT_.out (by kernel_rfl)) (by decide) (fun K hK => ?_)
              have hs23 : w21.cell? ⟨gb138, 3, none⟩ = some (.int .i64 0) := (blk_cell BK138.out 3).trans rfl
              have hfs23 := blk_frozen BK138.out 3
              have hns23_0 := NB131_138.out
              have hms23_0 := NB138_131.out
              refine skip_ (w1 := ?_) (by rfl) rfl ?_ ?_
              rotate_left
              · go_simp
                rfl
              refine hK.out _ _ trivial (fun hHeld => ?_)
              clear hK K
              refine done_ (done_of HT_.out (by kernel_rfl)) ?_
              have hcz24_0 : w21.cell? ⟨gb138, 0, none⟩ = some (.int .i64 (wrap64 (Int.tdiv (wrap64 ((wrap64 (1 + (wrap64 (Int.tdiv (wrap64 ((Int.tmod t134 t137) - (wrap64 (60 * a1)))) (wrap64 ((wrap64 (60 * a1)) - t135)))))) + (wrap64 ((wrap64 (Int.tdiv t134 t136)) * 10)))) 60))) := (blk_cell BK138.out 0).trans rfl
              have hcz24_1 : w21.cell? ⟨gb138, 1, none⟩ = some (.int .i64 (Int.tmod (wrap64 ((wrap64 (1 + (wrap64 (Int.tdiv (wrap64 ((Int.tmod t134 t137) - (wrap64 (60 * a1)))) (wrap64 ((wrap64 (60 * a1)) - t135)))))) + (wrap64 ((wrap64 (Int.tdiv t134 t136)) * 10)))) 60)) := (blk_cell BK138.out 1).trans rfl
              have hcz24_2 : w21.cell? ⟨gb138, 2, none⟩ = some (.int .i64 0) := (blk_cell BK138.out 2).trans rfl
              have hcz24_3 : w21.cell? ⟨gb138, 3, none⟩ = some (.int .i64 0) := (blk_cell BK138.out 3).trans rfl
              have hcz24_4 : w21.cell? ⟨gb138, 4, none⟩ = some (.int .i64 a1) := (blk_cell BK138.out 4).trans rfl
              have hcz24_5 : w21.cell? ⟨gb138, 5, none⟩ = some (.bool a2) := (blk_cell BK138.out 5).trans rfl
              have hfz24_0 := blk_frozen BK138.out 0
              have hfz24_1 := blk_frozen BK138.out 1
              have hfz24_2 := blk_frozen BK138.out 2
              have hfz24_3 := blk_frozen BK138.out 3
              have hfz24_4 := blk_frozen BK138.out 4
              have hfz24_5 := blk_frozen BK138.out 5
              have hcz25_0 : w21.cell? ⟨gb131, 0, none⟩ = some (.int .i64 0) := (blk_cell BK131.out 0).trans rfl
              have hcz25_1 : w21.cell? ⟨gb131, 1, none⟩ = some (.int .i64 0) := (blk_cell BK131.out 1).trans rfl
              have hcz25_2 : w21.cell? ⟨gb131, 2, none⟩ = some (.int .i64 0) := (blk_cell BK131.out 2).trans rfl
              have hcz25_3 : w21.cell? ⟨gb131, 3, none⟩ = some (.int .i64 0) := (blk_cell BK131.out 3).trans rfl
              have hcz25_4 : w21.cell? ⟨gb131, 4, none⟩ = some (.int .i64 0) := (blk_cell BK131.out 4).trans rfl
              have hcz25_5 : w21.cell? ⟨gb131, 5, none⟩ = some (.bool false) := (blk_cell BK131.out 5).trans rfl
              have hfz25_0 := blk_frozen BK131.out 0
              have hfz25_1 := blk_frozen BK131.out 1
              have hfz25_2 := blk_frozen BK131.out 2
              have hfz25_3 := blk_frozen BK131.out 3
              have hfz25_4 := blk_frozen BK131.out 4
              have hfz25_5 := blk_frozen BK131.out 5
              try go_wp2
              refine bodyPost_ret (results_ct rfl _ _ gb131 34 #[.int .i64 (wrap64 (Int.tdiv (wrap64 ((wrap64 (1 + (wrap64 (Int.tdiv (wrap64 ((Int.tmod t134 t137) - (wrap64 (60 * a1)))) (wrap64 ((wrap64 (60 * a1)) - t135)))))) + (wrap64 ((wrap64 (Int.tdiv t134 t136)) * 10)))) 60)), .int .i64 (Int.tmod (wrap64 ((wrap64 (1 + (wrap64 (Int.tdiv (wrap64 ((Int.tmod t134 t137) - (wrap64 (60 * a1)))) (wrap64 ((wrap64 (60 * a1)) - t135)))))) + (wrap64 ((wrap64 (Int.tdiv t134 t136)) * 10)))) 60), .int .i64 (wrap64 (Int.tdiv (wrap64 ((Int.tmod (wrap64 ((Int.tmod t134 t137) - (wrap64 (60 * a1)))) (wrap64 ((wrap64 (60 * a1)) - t135))) + t135)) a1)), .int .i64 (Int.tmod (wrap64 ((Int.tmod (wrap64 ((Int.tmod t134 t137) - (wrap64 (60 * a1)))) (wrap64 ((wrap64 (60 * a1)) - t135))) + t135)) a1), .int .i64 a1, .bool a2] (0, 0) _ rfl (by (with_reducible repeat (first | refine blk_drewN ?_ _ | refine blk_drew ?_ | refine blk_alloc ?_ _)); refine blk_put (cs := #[.int .i64 (wrap64 (Int.tdiv (wrap64 ((wrap64 (1 + (wrap64 (Int.tdiv (wrap64 ((Int.tmod t134 t137) - (wrap64 (60 * a1)))) (wrap64 ((wrap64 (60 * a1)) - t135)))))) + (wrap64 ((wrap64 (Int.tdiv t134 t136)) * 10)))) 60)), .int .i64 (Int.tmod (wrap64 ((wrap64 (1 + (wrap64 (Int.tdiv (wrap64 ((Int.tmod t134 t137) - (wrap64 (60 * a1)))) (wrap64 ((wrap64 (60 * a1)) - t135)))))) + (wrap64 ((wrap64 (Int.tdiv t134 t136)) * 10)))) 60), .int .i64 (wrap64 (Int.tdiv (wrap64 ((Int.tmod (wrap64 ((Int.tmod t134 t137) - (wrap64 (60 * a1)))) (wrap64 ((wrap64 (60 * a1)) - t135))) + t135)) a1)), .int .i64 (Int.tmod (wrap64 ((Int.tmod (wrap64 ((Int.tmod t134 t137) - (wrap64 (60 * a1)))) (wrap64 ((wrap64 (60 * a1)) - t135))) + t135)) a1), .int .i64 a1, .bool false]) ?_ 5 _ rfl; (with_reducible repeat (first | refine blk_drewN ?_ _ | refine blk_drew ?_ | refine blk_alloc ?_ _)); refine blk_put (cs := #[.int .i64 (wrap64 (Int.tdiv (wrap64 ((wrap64 (1 + (wrap64 (Int.tdiv (wrap64 ((Int.tmod t134 t137) - (wrap64 (60 * a1)))) (wrap64 ((wrap64 (60 * a1)) - t135)))))) + (wrap64 ((wrap64 (Int.tdiv t134 t136)) * 10)))) 60)), .int .i64 (Int.tmod (wrap64 ((wrap64 (1 + (wrap64 (Int.tdiv (wrap64 ((Int.tmod t134 t137) - (wrap64 (60 * a1)))) (wrap64 ((wrap64 (60 * a1)) - t135)))))) + (wrap64 ((wrap64 (Int.tdiv t134 t136)) * 10)))) 60), .int .i64 (wrap64 (Int.tdiv (wrap64 ((Int.tmod (wrap64 ((Int.tmod t134 t137) - (wrap64 (60 * a1)))) (wrap64 ((wrap64 (60 * a1)) - t135))) + t135)) a1)), .int .i64 (Int.tmod (wrap64 ((Int.tmod (wrap64 ((Int.tmod t134 t137) - (wrap64 (60 * a1)))) (wrap64 ((wrap64 (60 * a1)) - t135))) + t135)) a1), .int .i64 0, .bool false]) ?_ 4 _ rfl; (with_reducible repeat (first | refine blk_drewN ?_ _ | refine blk_drew ?_ | refine blk_alloc ?_ _)); refine blk_put (cs := #[.int .i64 (wrap64 (Int.tdiv (wrap64 ((wrap64 (1 + (wrap64 (Int.tdiv (wrap64 ((Int.tmod t134 t137) - (wrap64 (60 * a1)))) (wrap64 ((wrap64 (60 * a1)) - t135)))))) + (wrap64 ((wrap64 (Int.tdiv t134 t136)) * 10)))) 60)), .int .i64 (Int.tmod (wrap64 ((wrap64 (1 + (wrap64 (Int.tdiv (wrap64 ((Int.tmod t134 t137) - (wrap64 (60 * a1)))) (wrap64 ((wrap64 (60 * a1)) - t135)))))) + (wrap64 ((wrap64 (Int.tdiv t134 t136)) * 10)))) 60), .int .i64 (wrap64 (Int.tdiv (wrap64 ((Int.tmod (wrap64 ((Int.tmod t134 t137) - (wrap64 (60 * a1)))) (wrap64 ((wrap64 (60 * a1)) - t135))) + t135)) a1)), .int .i64 0, .int .i64 0, .bool false]) ?_ 3 _ rfl; (with_reducible repeat (first | refine blk_drewN ?_ _ | refine blk_drew ?_ | refine blk_alloc ?_ _)); refine blk_put (cs := #[.int .i64 (wrap64 (Int.tdiv (wrap64 ((wrap64 (1 + (wrap64 (Int.tdiv (wrap64 ((Int.tmod t134 t137) - (wrap64 (60 * a1)))) (wrap64 ((wrap64 (60 * a1)) - t135)))))) + (wrap64 ((wrap64 (Int.tdiv t134 t136)) * 10)))) 60)), .int .i64 (Int.tmod (wrap64 ((wrap64 (1 + (wrap64 (Int.tdiv (wrap64 ((Int.tmod t134 t137) - (wrap64 (60 * a1)))) (wrap64 ((wrap64 (60 * a1)) - t135)))))) + (wrap64 ((wrap64 (Int.tdiv t134 t136)) * 10)))) 60), .int .i64 0, .int .i64 0, .int .i64 0, .bool false]) ?_ 2 _ rfl; (with_reducible repeat (first | refine blk_drewN ?_ _ | refine blk_drew ?_ | refine blk_alloc ?_ _)); refine blk_put (cs := #[.int .i64 (wrap64 (Int.tdiv (wrap64 ((wrap64 (1 + (wrap64 (Int.tdiv (wrap64 ((Int.tmod t134 t137) - (wrap64 (60 * a1)))) (wrap64 ((wrap64 (60 * a1)) - t135)))))) + (wrap64 ((wrap64 (Int.tdiv t134 t136)) * 10)))) 60)), .int .i64 0, .int .i64 0, .int .i64 0, .int .i64 0, .bool false]) ?_ 1 _ rfl; (with_reducible repeat (first | refine blk_drewN ?_ _ | refine blk_drew ?_ | refine blk_alloc ?_ _)); refine blk_put (cs := #[.int .i64 0, .int .i64 0, .int .i64 0, .int .i64 0, .int .i64 0, .bool false]) ?_ 0 _ rfl; (with_reducible repeat (first | refine blk_drewN ?_ _ | refine blk_drew ?_ | refine blk_alloc ?_ _)); refine blk_far ?_ NB131_138.out _; (with_reducible repeat (first | refine blk_drewN ?_ _ | refine blk_drew ?_ | refine blk_alloc ?_ _)); refine blk_far ?_ NB131_138.out _; (with_reducible repeat (first | refine blk_drewN ?_ _ | refine blk_drew ?_ | refine blk_alloc ?_ _)); exact BK131.out) Try.underlying34 rfl (by kernel_rfl)) rfl ?_
              exact ⟨by first | rfl | (simp [errW_none, errW_some] <;> rfl) | (simp [*, errW_none, errW_some] <;> rfl), by repeat (first | (with_reducible first | exact HB.out | apply below_alloc | apply pw_below_drewN | apply below_drew1 | refine below_set ?_ GE131.out | refine below_set ?_ GE138.out) | exact HB.out)⟩
        · rw [if_neg c12] at H
          have c12b0 : decide ((wrap64 (60 * a1)) ≤ (Int.tmod t134 t137)) = false := decide_eq_false c12
          clear c12
          by_cases c26 : a1 = 0
          · rw [if_pos c26] at H
            exact absurd H (by simp)
          · rw [if_neg c26] at H
            have c26b0 : (a1 == 0) = false := beq_eq_false_iff_ne.mpr c26
            have c26b1 : (a1 != 0) = true := bne_iff_ne.mpr c26
            simp only [Option.some.injEq, Prod.mk.injEq] at H
            obtain ⟨rfl, rfl, rfl, rfl, rfl, rfl, rfl⟩ := H
            go_enter Try.func23, Try.ntmps23
            try go_wp2_with (first | ((with_reducible refine gate_dst (N := 6) rfl ?_); refine box_event ?hg (N := 6) ?hd (cs := #[.int .i64 0, .int .i64 0, .int .i64 0, .int .i64 0, .int .i64 0, .bool false]) (t := 34) ?hr ?_; (case hd => rfl); (case hg => rfl); (case hr => first | (go_simp; done) | (go_simp; rfl)); intro gb131 hg w27 hbox hb; have n0_ := Aside0.mk (below_step (by repeat (first | (with_reducible first | exact HB.out | apply below_alloc | apply pw_below_drewN | apply below_drew1) | exact HB.out)) hb); have n1_ := Aside0.mk (hbox); have n2_ := Aside0.mk ((by rw [hg]; exact (below_size (by repeat (first | (with_reducible first | exact HB.out | apply below_alloc | apply pw_below_drewN | apply below_drew1) | exact HB.out))) : w.heap.size ≤ gb131)); have n3_ := Aside0.mk ((by rw [hg]; exact (below_size (by repeat (first | (with_reducible first | exact HB.out | apply below_alloc | apply pw_below_drewN | apply below_drew1) | exact HB.out))) : w.heap.size ≤ gb131)); clear HB; have HB := n0_; have BK131 := n1_; have GW131 := n2_; have GE131 := n3_; clear n0_ n1_ n2_ n3_; clear hb hbox hg) | ((with_reducible refine gate_callee (f := 21) rfl ?_); refine goesL_ (some 19) rfl rfl Try.func21 (by kernel_rfl) rfl #[.int .i64 a1, .bool a2] rfl (by (try simp only [List.map_toArray, List.map_cons, List.map_nil]); first | done | rfl | (simp only [List.length_drop, List.length_take]; rfl)) ?_; (with_reducible refine (timecode_Day.calls k a1 a2 t132 t133 _ A4.out).mono ?_); rintro e w28 ⟨rfl, hb⟩; refine ⟨_, rfl, ?_⟩; have n0_ := Aside0.mk (blk_below (g := gb131) (o := .cells #[.int .i64 0, .int .i64 0, .int .i64 0, .int .i64 0, .int .i64 0, .bool false] 34 (0, 0)) (by (with_reducible repeat (first | refine blk_drewN ?_ _ | refine blk_drew ?_ | refine blk_alloc ?_ _)); exact BK131.out) hb); have n1_ := Aside0.mk (below_step (by repeat (first | (with_reducible first | exact HB.out | apply below_alloc | apply pw_below_drewN | apply below_drew1 | refine below_set ?_ GE131.out) | exact HB.out)) hb); clear BK131; clear HB; have BK131 := n0_; have HB := n1_; clear n0_ n1_; (try clear hb); (try clear hb2); (try clear hk); (try clear hi)) | ((with_reducible refine gate_callee (f := 42) rfl ?_); refine goesL_ (some 28) rfl rfl Try.func42 (by kernel_rfl) rfl #[.int .i64 a0, .int .i64 t132] rfl (by (try simp only [List.map_toArray, List.map_cons, List.map_nil]); first | done | rfl | (simp only [List.length_drop, List.length_take]; rfl)) ?_; (with_reducible refine (timecode_within.calls a0 t132 t134 _ A6.out).mono ?_); rintro e w' ⟨rfl, ⟨nd, rfl⟩⟩; refine ⟨_, rfl, ?_⟩; (try (rw [drewN_self w28]; generalize hq_ : World.drewN w28 _ = w28; have n0_ : Aside0 (w28.heap[gb131]? = some (.cells #[.int .i64 0, .int .i64 0, .int .i64 0, .int .i64 0, .int .i64 0, .bool false] 34 (0, 0))) := ⟨by rw [← hq_]; exact (by (with_reducible repeat (first | refine blk_drewN ?_ _ | refine blk_drew ?_ | refine blk_alloc ?_ _)); exact BK131.out)⟩; have n1_ : Aside0 (Below w.heap.size w w28) := ⟨by rw [← hq_]; exact (by repeat (first | (with_reducible first | exact HB.out | apply below_alloc | apply pw_below_drewN | apply below_drew1 | refine below_set ?_ GE131.out) | exact HB.out))⟩; clear BK131 HB hq_; have BK131 := n0_; have HB := n1_; clear n0_ n1_))) | ((with_reducible refine gate_callee (f := 43) rfl ?_); refine goesL_ (some 32) rfl rfl Try.func43 (by kernel_rfl) rfl #[.int .i64 a1, .bool a2] rfl (by (try simp only [List.map_toArray, List.map_cons, List.map_nil]); first | done | rfl | (simp only [List.length_drop, List.length_take]; rfl)) ?_; (with_reducible refine (timecode_dropped.calls a1 a2 t135 _ A7.out).mono ?_); rintro e w' ⟨rfl, ⟨nd, rfl⟩⟩; refine ⟨_, rfl, ?_⟩; (try (rw [drewN_self w28]; generalize hq_ : World.drewN w28 _ = w28; have n0_ : Aside0 (w28.heap[gb131]? = some (.cells #[.int .i64 0, .int .i64 0, .int .i64 0, .int .i64 0, .int .i64 0, .bool false] 34 (0, 0))) := ⟨by rw [← hq_]; exact (by (with_reducible repeat (first | refine blk_drewN ?_ _ | refine blk_drew ?_ | refine blk_alloc ?_ _)); exact BK131.out)⟩; have n1_ : Aside0 (Below w.heap.size w w28) := ⟨by rw [← hq_]; exact (by repeat (first | (with_reducible first | exact HB.out | apply below_alloc | apply pw_below_drewN | apply below_drew1 | refine below_set ?_ GE131.out) | exact HB.out))⟩; clear BK131 HB hq_; have BK131 := n0_; have HB := n1_; clear n0_ n1_))) | ((with_reducible refine gate_callee (f := 40) rfl ?_); refine goesL_ (some 36) rfl rfl Try.func40 (by kernel_rfl) rfl #[.int .i64 a1, .bool a2] rfl (by (try simp only [List.map_toArray, List.map_cons, List.map_nil]); first | done | rfl | (simp only [List.length_drop, List.length_take]; rfl)) ?_; (with_reducible refine (timecode_tenMinutes.calls a1 a2 t136 _ A8.out).mono ?_); rintro e w' ⟨rfl, ⟨nd, rfl⟩⟩; refine ⟨_, rfl, ?_⟩; (try (rw [drewN_self w28]; generalize hq_ : World.drewN w28 _ = w28; have n0_ : Aside0 (w28.heap[gb131]? = some (.cells #[.int .i64 0, .int .i64 0, .int .i64 0, .int .i64 0, .int .i64 0, .bool false] 34 (0, 0))) := ⟨by rw [← hq_]; exact (by (with_reducible repeat (first | refine blk_drewN ?_ _ | refine blk_drew ?_ | refine blk_alloc ?_ _)); exact BK131.out)⟩; have n1_ : Aside0 (Below w.heap.size w w28) := ⟨by rw [← hq_]; exact (by repeat (first | (with_reducible first | exact HB.out | apply below_alloc | apply pw_below_drewN | apply below_drew1 | refine below_set ?_ GE131.out) | exact HB.out))⟩; clear BK131 HB hq_; have BK131 := n0_; have HB := n1_; clear n0_ n1_))) | ((with_reducible refine gate_callee (f := 40) rfl ?_); refine goesL_ (some 42) rfl rfl Try.func40 (by kernel_rfl) rfl #[.int .i64 a1, .bool a2] rfl (by (try simp only [List.map_toArray, List.map_cons, List.map_nil]); first | done | rfl | (simp only [List.length_drop, List.length_take]; rfl)) ?_; (with_reducible refine (timecode_tenMinutes.calls a1 a2 t137 _ A10.out).mono ?_); rintro e w' ⟨rfl, ⟨nd, rfl⟩⟩; refine ⟨_, rfl, ?_⟩; (try (rw [drewN_self w28]; generalize hq_ : World.drewN w28 _ = w28; have n0_ : Aside0 (w28.heap[gb131]? = some (.cells #[.int .i64 0, .int .i64 0, .int .i64 0, .int .i64 0, .int .i64 0, .bool false] 34 (0, 0))) := ⟨by rw [← hq_]; exact (by (with_reducible repeat (first | refine blk_drewN ?_ _ | refine blk_drew ?_ | refine blk_alloc ?_ _)); exact BK131.out)⟩; have n1_ : Aside0 (Below w.heap.size w w28) := ⟨by rw [← hq_]; exact (by repeat (first | (with_reducible first | exact HB.out | apply below_alloc | apply pw_below_drewN | apply below_drew1 | refine below_set ?_ GE131.out) | exact HB.out))⟩; clear BK131 HB hq_; have BK131 := n0_; have HB := n1_; clear n0_ n1_))) | ((with_reducible refine gate_dst (N := 15) rfl ?_); refine box_event ?hg (N := 15) ?hd (cs := #[.int .i64 0, .int .i64 0, .int .i64 0, .int .i64 0, .int .i64 0, .bool false]) (t := 34) ?hr ?_; (case hd => rfl); (case hg => rfl); (case hr => first | (go_simp; done) | (go_simp; rfl)); intro gb139 hg w29 hbox hb; have n0_ := Aside0.mk (blk_below (g := gb131) (o := .cells #[.int .i64 0, .int .i64 0, .int .i64 0, .int .i64 0, .int .i64 0, .bool false] 34 (0, 0)) (by (with_reducible repeat (first | refine blk_drewN ?_ _ | refine blk_drew ?_ | refine blk_alloc ?_ _)); exact BK131.out) hb); have n1_ := Aside0.mk (below_step (by repeat (first | (with_reducible first | exact HB.out | apply below_alloc | apply pw_below_drewN | apply below_drew1 | refine below_set ?_ GE131.out) | exact HB.out)) hb); have n2_ := Aside0.mk (hbox); have n3_ := Aside0.mk ((by rw [hg]; exact (below_size (by repeat (first | (with_reducible first | exact HB.out | apply below_alloc | apply pw_below_drewN | apply below_drew1 | refine below_set ?_ GE131.out) | exact HB.out))) : w.heap.size ≤ gb139)); have n4_ := Aside0.mk ((by rw [hg]; exact (below_size (by repeat (first | (with_reducible first | exact HB.out | apply below_alloc | apply pw_below_drewN | apply below_drew1 | refine below_set ?_ GE131.out) | exact HB.out))) : w.heap.size ≤ gb139)); have n5_ := Aside0.mk ((by rw [hg]; exact Nat.ne_of_lt (blk_lt (g := gb131) (o := .cells #[.int .i64 0, .int .i64 0, .int .i64 0, .int .i64 0, .int .i64 0, .bool false] 34 (0, 0)) (by (with_reducible repeat (first | refine blk_drewN ?_ _ | refine blk_drew ?_ | refine blk_alloc ?_ _)); exact BK131.out)) : gb131 ≠ gb139)); have n6_ := Aside0.mk ((by rw [hg]; exact Nat.ne_of_gt (blk_lt (g := gb131) (o := .cells #[.int .i64 0, .int .i64 0, .int .i64 0, .int .i64 0, .int .i64 0, .bool false] 34 (0, 0)) (by (with_reducible repeat (first | refine blk_drewN ?_ _ | refine blk_drew ?_ | refine blk_alloc ?_ _)); exact BK131.out)) : gb139 ≠ gb131)); clear BK131; clear HB; have BK131 := n0_; have HB := n1_; have BK139 := n2_; have GW139 := n3_; have GE139 := n4_; have NB131_139 := n5_; have NB139_131 := n6_; clear n0_ n1_ n2_ n3_ n4_ n5_ n6_; clear hb hbox hg; have hnb30 := NB139_131.out; have hnc30 := NB131_139.out; have hcz31_0 : w29.cell? ⟨gb139, 0, none⟩ = some (.int .i64 0) := (blk_cell BK139.out 0).trans rfl; have hcz31_1 : w29.cell? ⟨gb139, 1, none⟩ = some (.int .i64 0) := (blk_cell BK139.out 1).trans rfl; have hcz31_2 : w29.cell? ⟨gb139, 2, none⟩ = some (.int .i64 0) := (blk_cell BK139.out 2).trans rfl; have hcz31_3 : w29.cell? ⟨gb139, 3, none⟩ = some (.int .i64 0) := (blk_cell BK139.out 3).trans rfl; have hcz31_4 : w29.cell? ⟨gb139, 4, none⟩ = some (.int .i64 0) := (blk_cell BK139.out 4).trans rfl; have hcz31_5 : w29.cell? ⟨gb139, 5, none⟩ = some (.bool false) := (blk_cell BK139.out 5).trans rfl; have hfz31_0 := blk_frozen BK139.out 0; have hfz31_1 := blk_frozen BK139.out 1; have hfz31_2 := blk_frozen BK139.out 2; have hfz31_3 := blk_frozen BK139.out 3; have hfz31_4 := blk_frozen BK139.out 4; have hfz31_5 := blk_frozen BK139.out 5))
            have n0_ : Aside0 (((((((((w29.setCell ⟨gb139, 0, none⟩ (.int .i64 0)).setCell ⟨gb139, 1, none⟩ (.int .i64 0)).setCell ⟨gb139, 2, none⟩ (.int .i64 0)).setCell ⟨gb139, 3, none⟩ (.int .i64 0)).setCell ⟨gb139, 4, none⟩ (.int .i64 a1)).setCell ⟨gb139, 5, none⟩ (.bool a2)).setCell ⟨gb139, 0, none⟩ (.int .i64 (wrap64 (Int.tdiv (wrap64 ((wrap64 ((wrap64 (Int.tdiv t134 t136)) * 10)))) 60)))).setCell ⟨gb139, 1, none⟩ (.int .i64 (Int.tmod (wrap64 ((wrap64 ((wrap64 (Int.tdiv t134 t136)) * 10)))) 60))).heap[gb131]? = some (.cells #[.int .i64 0, .int .i64 0, .int .i64 0, .int .i64 0, .int .i64 0, .bool false] 34 (0, 0))) := ⟨by (with_reducible repeat (first | refine blk_drewN ?_ _ | refine blk_drew ?_ | refine blk_alloc ?_ _)); refine blk_far ?_ NB131_139.out _; (with_reducible repeat (first | refine blk_drewN ?_ _ | refine blk_drew ?_ | refine blk_alloc ?_ _)); refine blk_far ?_ NB131_139.out _; (with_reducible repeat (first | refine blk_drewN ?_ _ | refine blk_drew ?_ | refine blk_alloc ?_ _)); refine blk_far ?_ NB131_139.out _; (with_reducible repeat (first | refine blk_drewN ?_ _ | refine blk_drew ?_ | refine blk_alloc ?_ _)); refine blk_far ?_ NB131_139.out _; (with_reducible repeat (first | refine blk_drewN ?_ _ | refine blk_drew ?_ | refine blk_alloc ?_ _)); refine blk_far ?_ NB131_139.out _; (with_reducible repeat (first | refine blk_drewN ?_ _ | refine blk_drew ?_ | refine blk_alloc ?_ _)); refine blk_far ?_ NB131_139.out _; (with_reducible repeat (first | refine blk_drewN ?_ _ | refine blk_drew ?_ | refine blk_alloc ?_ _)); refine blk_far ?_ NB131_139.out _; (with_reducible repeat (first | refine blk_drewN ?_ _ | refine blk_drew ?_ | refine blk_alloc ?_ _)); refine blk_far ?_ NB131_139.out _; (with_reducible repeat (first | refine blk_drewN ?_ _ | refine blk_drew ?_ | refine blk_alloc ?_ _)); exact BK131.out⟩
            have n1_ : Aside0 (((((((((w29.setCell ⟨gb139, 0, none⟩ (.int .i64 0)).setCell ⟨gb139, 1, none⟩ (.int .i64 0)).setCell ⟨gb139, 2, none⟩ (.int .i64 0)).setCell ⟨gb139, 3, none⟩ (.int .i64 0)).setCell ⟨gb139, 4, none⟩ (.int .i64 a1)).setCell ⟨gb139, 5, none⟩ (.bool a2)).setCell ⟨gb139, 0, none⟩ (.int .i64 (wrap64 (Int.tdiv (wrap64 ((wrap64 ((wrap64 (Int.tdiv t134 t136)) * 10)))) 60)))).setCell ⟨gb139, 1, none⟩ (.int .i64 (Int.tmod (wrap64 ((wrap64 ((wrap64 (Int.tdiv t134 t136)) * 10)))) 60))).heap[gb139]? = some (.cells #[.int .i64 (wrap64 (Int.tdiv (wrap64 ((wrap64 ((wrap64 (Int.tdiv t134 t136)) * 10)))) 60)), .int .i64 (Int.tmod (wrap64 ((wrap64 ((wrap64 (Int.tdiv t134 t136)) * 10)))) 60), .int .i64 0, .int .i64 0, .int .i64 a1, .bool a2] 34 (0, 0))) := ⟨by (with_reducible repeat (first | refine blk_drewN ?_ _ | refine blk_drew ?_ | refine blk_alloc ?_ _)); refine blk_put (cs := #[.int .i64 (wrap64 (Int.tdiv (wrap64 ((wrap64 ((wrap64 (Int.tdiv t134 t136)) * 10)))) 60)), .int .i64 0, .int .i64 0, .int .i64 0, .int .i64 a1, .bool a2]) ?_ 1 _ rfl; (with_reducible repeat (first | refine blk_drewN ?_ _ | refine blk_drew ?_ | refine blk_alloc ?_ _)); refine blk_put (cs := #[.int .i64 0, .int .i64 0, .int .i64 0, .int .i64 0, .int .i64 a1, .bool a2]) ?_ 0 _ rfl; (with_reducible repeat (first | refine blk_drewN ?_ _ | refine blk_drew ?_ | refine blk_alloc ?_ _)); refine blk_put (cs := #[.int .i64 0, .int .i64 0, .int .i64 0, .int .i64 0, .int .i64 a1, .bool false]) ?_ 5 _ rfl; (with_reducible repeat (first | refine blk_drewN ?_ _ | refine blk_drew ?_ | refine blk_alloc ?_ _)); refine blk_put (cs := #[.int .i64 0, .int .i64 0, .int .i64 0, .int .i64 0, .int .i64 0, .bool false]) ?_ 4 _ rfl; (with_reducible repeat (first | refine blk_drewN ?_ _ | refine blk_drew ?_ | refine blk_alloc ?_ _)); refine blk_put (cs := #[.int .i64 0, .int .i64 0, .int .i64 0, .int .i64 0, .int .i64 0, .bool false]) ?_ 3 _ rfl; (with_reducible repeat (first | refine blk_drewN ?_ _ | refine blk_drew ?_ | refine blk_alloc ?_ _)); refine blk_put (cs := #[.int .i64 0, .int .i64 0, .int .i64 0, .int .i64 0, .int .i64 0, .bool false]) ?_ 2 _ rfl; (with_reducible repeat (first | refine blk_drewN ?_ _ | refine blk_drew ?_ | refine blk_alloc ?_ _)); refine blk_put (cs := #[.int .i64 0, .int .i64 0, .int .i64 0, .int .i64 0, .int .i64 0, .bool false]) ?_ 1 _ rfl; (with_reducible repeat (first | refine blk_drewN ?_ _ | refine blk_drew ?_ | refine blk_alloc ?_ _)); refine blk_put (cs := #[.int .i64 0, .int .i64 0, .int .i64 0, .int .i64 0, .int .i64 0, .bool false]) ?_ 0 _ rfl; (with_reducible repeat (first | refine blk_drewN ?_ _ | refine blk_drew ?_ | refine blk_alloc ?_ _)); exact BK139.out⟩
            have n2_ : Aside0 (Below w.heap.size w ((((((((w29.setCell ⟨gb139, 0, none⟩ (.int .i64 0)).setCell ⟨gb139, 1, none⟩ (.int .i64 0)).setCell ⟨gb139, 2, none⟩ (.int .i64 0)).setCell ⟨gb139, 3, none⟩ (.int .i64 0)).setCell ⟨gb139, 4, none⟩ (.int .i64 a1)).setCell ⟨gb139, 5, none⟩ (.bool a2)).setCell ⟨gb139, 0, none⟩ (.int .i64 (wrap64 (Int.tdiv (wrap64 ((wrap64 ((wrap64 (Int.tdiv t134 t136)) * 10)))) 60)))).setCell ⟨gb139, 1, none⟩ (.int .i64 (Int.tmod (wrap64 ((wrap64 ((wrap64 (Int.tdiv t134 t136)) * 10)))) 60)))) := ⟨by repeat (first | (with_reducible first | exact HB.out | apply below_alloc | apply pw_below_drewN | apply below_drew1 | refine below_set ?_ GE131.out | refine below_set ?_ GE139.out) | exact HB.out)⟩
            (try clear BK131)
            (try clear BK139)
            (try clear HB)
            generalize ((((((((w29.setCell ⟨gb139, 0, none⟩ (.int .i64 0)).setCell ⟨gb139, 1, none⟩ (.int .i64 0)).setCell ⟨gb139, 2, none⟩ (.int .i64 0)).setCell ⟨gb139, 3, none⟩ (.int .i64 0)).setCell ⟨gb139, 4, none⟩ (.int .i64 a1)).setCell ⟨gb139, 5, none⟩ (.bool a2)).setCell ⟨gb139, 0, none⟩ (.int .i64 (wrap64 (Int.tdiv (wrap64 ((wrap64 ((wrap64 (Int.tdiv t134 t136)) * 10)))) 60)))).setCell ⟨gb139, 1, none⟩ (.int .i64 (Int.tmod (wrap64 ((wrap64 ((wrap64 (Int.tdiv t134 t136)) * 10)))) 60))) = w32 at n0_ n1_ n2_ ⊢
            have BK131 := n0_
            have BK139 := n1_
            have HB := n2_
            clear n0_ n1_ n2_
            have n0_ := Aside0.mk (blk_drew BK131.out)
            have n1_ := Aside0.mk (blk_drew BK139.out)
            have n2_ := Aside0.mk (below_drew1 HB.out)
            clear BK131
            clear BK139
            clear HB
            have BK131 := n0_
            have BK139 := n1_
            have HB := n2_
            clear n0_ n1_ n2_
            refine start_ (n := 10) (S := fun w' => True) (ds := []) #[false, false, false, false, false, false, false, false, false, false] (by kernel_rfl) rfl rfl trivial (fun hHeld => ?_); refine with_tabW timecode_Label.tab17 timecode_Label.bits17 (fun HT_ HW_ => ?_)
            generalize w32.drew = w33 at BK131 BK139 HB hHeld ⊢
            refine pure_ (i := 0) (N := some 79) (v := ?_) (a' := ?_) #[true, false, false, false, false, false, false, false, false, false] rfl rfl (any_of HT_.out (by kernel_rfl)) (fun _ _ _ h => h) (Or.inl ⟨by rfl, ?_⟩) ?_ ?_
            rotate_left
            · intro w'
              go_simp
              with_reducible rfl
            rotate_left
            · simp only [Act.put, List.setIfInBounds_toArray, List.set_cons_zero, List.set_cons_succ, i64_w, i32_w]
              rfl
            refine pure_ (i := 1) (N := some 80) (v := ?_) (a' := ?_) #[true, true, false, false, false, false, false, false, false, false] rfl rfl (any_of HT_.out (by kernel_rfl)) (fun _ _ _ h => h) (Or.inl ⟨by rfl, ?_⟩) ?_ ?_
            rotate_left
            · intro w'
              go_simp
              with_reducible rfl
            rotate_left
            · simp only [Act.put, List.setIfInBounds_toArray, List.set_cons_zero, List.set_cons_succ, i64_w, i32_w]
              rfl
            refine pure_ (i := 2) (N := some 81) (v := ?_) (a' := ?_) #[true, true, true, false, false, false, false, false, false, false] rfl rfl (any_of HT_.out (by kernel_rfl)) (fun _ _ _ h => h) (Or.inl ⟨by rfl, ?_⟩) ?_ ?_
            rotate_left
            · intro w'
              go_simp
              with_reducible rfl
            rotate_left
            · simp only [Act.put, List.setIfInBounds_toArray, List.set_cons_zero, List.set_cons_succ, i64_w, i32_w]
              rfl
            refine pure_ (i := 3) (N := some 82) (v := ?_) (a' := ?_) #[true, true, true, true, false, false, false, false, false, false] rfl rfl (any_of HT_.out (by kernel_rfl)) (fun _ _ _ h => h) (Or.inl ⟨by rfl, ?_⟩) ?_ ?_
            rotate_left
            · intro w'
              go_simp
              with_reducible rfl
            rotate_left
            · simp only [Act.put, List.setIfInBounds_toArray, List.set_cons_zero, List.set_cons_succ, i64_w, i32_w]
              rfl
            refine pure_ (i := 4) (N := some 83) (v := ?_) (a' := ?_) #[true, true, true, true, true, false, false, false, false, false] rfl rfl (any_of HT_.out (by kernel_rfl)) (fun _ _ _ h => h) (Or.inl ⟨by rfl, ?_⟩) ?_ ?_
            rotate_left
            · intro w'
              go_simp
              with_reducible rfl
            rotate_left
            · simp only [Act.put, List.setIfInBounds_toArray, List.set_cons_zero, List.set_cons_succ, i64_w, i32_w]
              rfl
            refine pure_ (i := 5) (N := some 84) (v := ?_) (a' := ?_) #[true, true, true, true, true, true, false, false, false, false] rfl rfl (any_of HT_.out (by kernel_rfl)) (fun _ _ _ h => h) (Or.inl ⟨by rfl, ?_⟩) ?_ ?_
            rotate_left
            · intro w'
              go_simp
              with_reducible rfl
            rotate_left
            · simp only [Act.put, List.setIfInBounds_toArray, List.set_cons_zero, List.set_cons_succ, i64_w, i32_w]
              rfl
            refine pure_ (i := 6) (N := some 85) (v := ?_) (a' := ?_) #[true, true, true, true, true, true, true, false, false, false] rfl rfl (any_of HT_.out (by kernel_rfl)) (fun _ _ _ h => h) (Or.inl ⟨by rfl, ?_⟩) ?_ ?_
            rotate_left
            · intro w'
              go_simp
              with_reducible rfl
            rotate_left
            · simp only [Act.put, List.setIfInBounds_toArray, List.set_cons_zero, List.set_cons_succ, i64_w, i32_w]
              rfl
            refine one_ (i := 7) (N := none) #[true, true, true, true, true, true, true, true, false, false] rfl rfl (one_of HT_.out (by kernel_rfl)) (by decide) (fun K hK => ?_)
            have hs34 : w33.cell? ⟨gb139, 2, none⟩ = some (.int .i64 0) := (blk_cell BK139.out 2).trans rfl
            have hfs34 := blk_frozen BK139.out 2
            have hns34_0 := NB131_139.out
            have hms34_0 := NB139_131.out
            refine skip_ (w1 := ?_) (by rfl) rfl ?_ ?_
            rotate_left
            · go_simp
              rfl
            refine hK.out _ _ trivial (fun hHeld => ?_)
            clear hK K
            refine pure_ (i := 8) (N := some 86) (v := ?_) (a' := ?_) #[true, true, true, true, true, true, true, true, true, false] rfl rfl (any_of HT_.out (by kernel_rfl)) (fun _ _ _ h => h) (Or.inl ⟨by rfl, ?_⟩) ?_ ?_
            rotate_left
            · intro w'
              go_simp
              with_reducible rfl
            rotate_left
            · simp only [Act.put, List.setIfInBounds_toArray, List.set_cons_zero, List.set_cons_succ, i64_w, i32_w]
              rfl
            refine one_ (i := 9) (N := none) #[true, true, true, true, true, true, true, true, true, true] rfl rfl (one_of HT_.out (by kernel_rfl)) (by decide) (fun K hK => ?_)
            have hs35 : w33.cell? ⟨gb139, 3, none⟩ = some (.int .i64 0) := (blk_cell BK139.out 3).trans rfl
            have hfs35 := blk_frozen BK139.out 3
            have hns35_0 := NB131_139.out
            have hms35_0 := NB139_131.out
            refine skip_ (w1 := ?_) (by rfl) rfl ?_ ?_
            rotate_left
            · go_simp
              rfl
            refine hK.out _ _ trivial (fun hHeld => ?_)
            clear hK K
            refine done_ (done_of HT_.out (by kernel_rfl)) ?_
            have hcz36_0 : w33.cell? ⟨gb139, 0, none⟩ = some (.int .i64 (wrap64 (Int.tdiv (wrap64 ((wrap64 ((wrap64 (Int.tdiv t134 t136)) * 10)))) 60))) := (blk_cell BK139.out 0).trans rfl
            have hcz36_1 : w33.cell? ⟨gb139, 1, none⟩ = some (.int .i64 (Int.tmod (wrap64 ((wrap64 ((wrap64 (Int.tdiv t134 t136)) * 10)))) 60)) := (blk_cell BK139.out 1).trans rfl
            have hcz36_2 : w33.cell? ⟨gb139, 2, none⟩ = some (.int .i64 0) := (blk_cell BK139.out 2).trans rfl
            have hcz36_3 : w33.cell? ⟨gb139, 3, none⟩ = some (.int .i64 0) := (blk_cell BK139.out 3).trans rfl
            have hcz36_4 : w33.cell? ⟨gb139, 4, none⟩ = some (.int .i64 a1) := (blk_cell BK139.out 4).trans rfl
            have hcz36_5 : w33.cell? ⟨gb139, 5, none⟩ = some (.bool a2) := (blk_cell BK139.out 5).trans rfl
            have hfz36_0 := blk_frozen BK139.out 0
            have hfz36_1 := blk_frozen BK139.out 1
            have hfz36_2 := blk_frozen BK139.out 2
            have hfz36_3 := blk_frozen BK139.out 3
            have hfz36_4 := blk_frozen BK139.out 4
            have hfz36_5 := blk_frozen BK139.out 5
            have hcz37_0 : w33.cell? ⟨gb131, 0, none⟩ = some (.int .i64 0) := (blk_cell BK131.out 0).trans rfl
            have hcz37_1 : w33.cell? ⟨gb131, 1, none⟩ = some (.int .i64 0) := (blk_cell BK131.out 1).trans rfl
            have hcz37_2 : w33.cell? ⟨gb131, 2, none⟩ = some (.int .i64 0) := (blk_cell BK131.out 2).trans rfl
            have hcz37_3 : w33.cell? ⟨gb131, 3, none⟩ = some (.int .i64 0) := (blk_cell BK131.out 3).trans rfl
            have hcz37_4 : w33.cell? ⟨gb131, 4, none⟩ = some (.int .i64 0) := (blk_cell BK131.out 4).trans rfl
            have hcz37_5 : w33.cell? ⟨gb131, 5, none⟩ = some (.bool false) := (blk_cell BK131.out 5).trans rfl
            have hfz37_0 := blk_frozen BK131.out 0
            have hfz37_1 := blk_frozen BK131.out 1
            have hfz37_2 := blk_frozen BK131.out 2
            have hfz37_3 := blk_frozen BK131.out 3
            have hfz37_4 := blk_frozen BK131.out 4
            have hfz37_5 := blk_frozen BK131.out 5
            try go_wp2
            refine bodyPost_ret (results_ct rfl _ _ gb131 34 #[.int .i64 (wrap64 (Int.tdiv (wrap64 ((wrap64 ((wrap64 (Int.tdiv t134 t136)) * 10)))) 60)), .int .i64 (Int.tmod (wrap64 ((wrap64 ((wrap64 (Int.tdiv t134 t136)) * 10)))) 60), .int .i64 (wrap64 (Int.tdiv (Int.tmod t134 t137) a1)), .int .i64 (Int.tmod (Int.tmod t134 t137) a1), .int .i64 a1, .bool a2] (0, 0) _ rfl (by (with_reducible repeat (first | refine blk_drewN ?_ _ | refine blk_drew ?_ | refine blk_alloc ?_ _)); refine blk_put (cs := #[.int .i64 (wrap64 (Int.tdiv (wrap64 ((wrap64 ((wrap64 (Int.tdiv t134 t136)) * 10)))) 60)), .int .i64 (Int.tmod (wrap64 ((wrap64 ((wrap64 (Int.tdiv t134 t136)) * 10)))) 60), .int .i64 (wrap64 (Int.tdiv (Int.tmod t134 t137) a1)), .int .i64 (Int.tmod (Int.tmod t134 t137) a1), .int .i64 a1, .bool false]) ?_ 5 _ rfl; (with_reducible repeat (first | refine blk_drewN ?_ _ | refine blk_drew ?_ | refine blk_alloc ?_ _)); refine blk_put (cs := #[.int .i64 (wrap64 (Int.tdiv (wrap64 ((wrap64 ((wrap64 (Int.tdiv t134 t136)) * 10)))) 60)), .int .i64 (Int.tmod (wrap64 ((wrap64 ((wrap64 (Int.tdiv t134 t136)) * 10)))) 60), .int .i64 (wrap64 (Int.tdiv (Int.tmod t134 t137) a1)), .int .i64 (Int.tmod (Int.tmod t134 t137) a1), .int .i64 0, .bool false]) ?_ 4 _ rfl; (with_reducible repeat (first | refine blk_drewN ?_ _ | refine blk_drew ?_ | refine blk_alloc ?_ _)); refine blk_put (cs := #[.int .i64 (wrap64 (Int.tdiv (wrap64 ((wrap64 ((wrap64 (Int.tdiv t134 t136)) * 10)))) 60)), .int .i64 (Int.tmod (wrap64 ((wrap64 ((wrap64 (Int.tdiv t134 t136)) * 10)))) 60), .int .i64 (wrap64 (Int.tdiv (Int.tmod t134 t137) a1)), .int .i64 0, .int .i64 0, .bool false]) ?_ 3 _ rfl; (with_reducible repeat (first | refine blk_drewN ?_ _ | refine blk_drew ?_ | refine blk_alloc ?_ _)); refine blk_put (cs := #[.int .i64 (wrap64 (Int.tdiv (wrap64 ((wrap64 ((wrap64 (Int.tdiv t134 t136)) * 10)))) 60)), .int .i64 (Int.tmod (wrap64 ((wrap64 ((wrap64 (Int.tdiv t134 t136)) * 10)))) 60), .int .i64 0, .int .i64 0, .int .i64 0, .bool false]) ?_ 2 _ rfl; (with_reducible repeat (first | refine blk_drewN ?_ _ | refine blk_drew ?_ | refine blk_alloc ?_ _)); refine blk_put (cs := #[.int .i64 (wrap64 (Int.tdiv (wrap64 ((wrap64 ((wrap64 (Int.tdiv t134 t136)) * 10)))) 60)), .int .i64 0, .int .i64 0, .int .i64 0, .int .i64 0, .bool false]) ?_ 1 _ rfl; (with_reducible repeat (first | refine blk_drewN ?_ _ | refine blk_drew ?_ | refine blk_alloc ?_ _)); refine blk_put (cs := #[.int .i64 0, .int .i64 0, .int .i64 0, .int .i64 0, .int .i64 0, .bool false]) ?_ 0 _ rfl; (with_reducible repeat (first | refine blk_drewN ?_ _ | refine blk_drew ?_ | refine blk_alloc ?_ _)); refine blk_far ?_ NB131_139.out _; (with_reducible repeat (first | refine blk_drewN ?_ _ | refine blk_drew ?_ | refine blk_alloc ?_ _)); refine blk_far ?_ NB131_139.out _; (with_reducible repeat (first | refine blk_drewN ?_ _ | refine blk_drew ?_ | refine blk_alloc ?_ _)); exact BK131.out) Try.underlying34 rfl (by kernel_rfl)) rfl ?_
            exact ⟨by first | rfl | (simp [errW_none, errW_some] <;> rfl) | (simp [*, errW_none, errW_some] <;> rfl), by repeat (first | (with_reducible first | exact HB.out | apply below_alloc | apply pw_below_drewN | apply below_drew1 | refine below_set ?_ GE131.out | refine below_set ?_ GE139.out) | exact HB.out)⟩
  · rw [if_neg c5] at H
    have c5b0 : (t133 == 0) = false := beq_eq_false_iff_ne.mpr c5
    have c5b1 : (t133 != 0) = true := bne_iff_ne.mpr c5
    simp only [Option.some.injEq, Prod.mk.injEq] at H
    obtain ⟨rfl, rfl, rfl, rfl, rfl, rfl, rfl⟩ := H
    go_enter Try.func23, Try.ntmps23
    go_wp2_with (first | ((with_reducible refine gate_dst (N := 6) rfl ?_); refine box_event ?hg (N := 6) ?hd (cs := #[.int .i64 0, .int .i64 0, .int .i64 0, .int .i64 0, .int .i64 0, .bool false]) (t := 34) ?hr ?_; (case hd => rfl); (case hg => rfl); (case hr => first | (go_simp; done) | (go_simp; rfl)); intro gb131 hg w38 hbox hb; have n0_ := Aside0.mk (below_step (by repeat (first | (with_reducible first | exact HB.out | apply below_alloc | apply pw_below_drewN | apply below_drew1) | exact HB.out)) hb); have n1_ := Aside0.mk (hbox); have n2_ := Aside0.mk ((by rw [hg]; exact (below_size (by repeat (first | (with_reducible first | exact HB.out | apply below_alloc | apply pw_below_drewN | apply below_drew1) | exact HB.out))) : w.heap.size ≤ gb131)); have n3_ := Aside0.mk ((by rw [hg]; exact (below_size (by repeat (first | (with_reducible first | exact HB.out | apply below_alloc | apply pw_below_drewN | apply below_drew1) | exact HB.out))) : w.heap.size ≤ gb131)); clear HB; have HB := n0_; have BK131 := n1_; have GW131 := n2_; have GE131 := n3_; clear n0_ n1_ n2_ n3_; clear hb hbox hg) | ((with_reducible refine gate_callee (f := 21) rfl ?_); refine goesL_ (some 19) rfl rfl Try.func21 (by kernel_rfl) rfl #[.int .i64 a1, .bool a2] rfl (by (try simp only [List.map_toArray, List.map_cons, List.map_nil]); first | done | rfl | (simp only [List.length_drop, List.length_take]; rfl)) ?_; (with_reducible refine (timecode_Day.calls k a1 a2 t132 t133 _ A4.out).mono ?_); rintro e w39 ⟨rfl, hb⟩; refine ⟨_, rfl, ?_⟩; have n0_ := Aside0.mk (blk_below (g := gb131) (o := .cells #[.int .i64 0, .int .i64 0, .int .i64 0, .int .i64 0, .int .i64 0, .bool false] 34 (0, 0)) (by (with_reducible repeat (first | refine blk_drewN ?_ _ | refine blk_drew ?_ | refine blk_alloc ?_ _)); exact BK131.out) hb); have n1_ := Aside0.mk (below_step (by repeat (first | (with_reducible first | exact HB.out | apply below_alloc | apply pw_below_drewN | apply below_drew1 | refine below_set ?_ GE131.out) | exact HB.out)) hb); clear BK131; clear HB; have BK131 := n0_; have HB := n1_; clear n0_ n1_; (try clear hb); (try clear hb2); (try clear hk); (try clear hi); have hcz40_0 : w39.cell? ⟨gb131, 0, none⟩ = some (.int .i64 0) := (blk_cell BK131.out 0).trans rfl; have hcz40_1 : w39.cell? ⟨gb131, 1, none⟩ = some (.int .i64 0) := (blk_cell BK131.out 1).trans rfl; have hcz40_2 : w39.cell? ⟨gb131, 2, none⟩ = some (.int .i64 0) := (blk_cell BK131.out 2).trans rfl; have hcz40_3 : w39.cell? ⟨gb131, 3, none⟩ = some (.int .i64 0) := (blk_cell BK131.out 3).trans rfl; have hcz40_4 : w39.cell? ⟨gb131, 4, none⟩ = some (.int .i64 0) := (blk_cell BK131.out 4).trans rfl; have hcz40_5 : w39.cell? ⟨gb131, 5, none⟩ = some (.bool false) := (blk_cell BK131.out 5).trans rfl; have hfz40_0 := blk_frozen BK131.out 0; have hfz40_1 := blk_frozen BK131.out 1; have hfz40_2 := blk_frozen BK131.out 2; have hfz40_3 := blk_frozen BK131.out 3; have hfz40_4 := blk_frozen BK131.out 4; have hfz40_5 := blk_frozen BK131.out 5))
    refine bodyPost_ret (results_ct rfl _ _ gb131 34 #[.int .i64 0, .int .i64 0, .int .i64 0, .int .i64 0, .int .i64 0, .bool false] (0, 0) _ rfl (by (with_reducible repeat (first | refine blk_drewN ?_ _ | refine blk_drew ?_ | refine blk_alloc ?_ _)); refine blk_put (cs := #[.int .i64 0, .int .i64 0, .int .i64 0, .int .i64 0, .int .i64 0, .bool false]) ?_ 5 _ rfl; (with_reducible repeat (first | refine blk_drewN ?_ _ | refine blk_drew ?_ | refine blk_alloc ?_ _)); refine blk_put (cs := #[.int .i64 0, .int .i64 0, .int .i64 0, .int .i64 0, .int .i64 0, .bool false]) ?_ 4 _ rfl; (with_reducible repeat (first | refine blk_drewN ?_ _ | refine blk_drew ?_ | refine blk_alloc ?_ _)); refine blk_put (cs := #[.int .i64 0, .int .i64 0, .int .i64 0, .int .i64 0, .int .i64 0, .bool false]) ?_ 3 _ rfl; (with_reducible repeat (first | refine blk_drewN ?_ _ | refine blk_drew ?_ | refine blk_alloc ?_ _)); refine blk_put (cs := #[.int .i64 0, .int .i64 0, .int .i64 0, .int .i64 0, .int .i64 0, .bool false]) ?_ 2 _ rfl; (with_reducible repeat (first | refine blk_drewN ?_ _ | refine blk_drew ?_ | refine blk_alloc ?_ _)); refine blk_put (cs := #[.int .i64 0, .int .i64 0, .int .i64 0, .int .i64 0, .int .i64 0, .bool false]) ?_ 1 _ rfl; (with_reducible repeat (first | refine blk_drewN ?_ _ | refine blk_drew ?_ | refine blk_alloc ?_ _)); refine blk_put (cs := #[.int .i64 0, .int .i64 0, .int .i64 0, .int .i64 0, .int .i64 0, .bool false]) ?_ 0 _ rfl; (with_reducible repeat (first | refine blk_drewN ?_ _ | refine blk_drew ?_ | refine blk_alloc ?_ _)); exact BK131.out) Try.underlying34 rfl (by kernel_rfl)) rfl ?_
    exact ⟨by first | rfl | (simp [errW_none, errW_some] <;> rfl) | (simp [*, errW_none, errW_some] <;> rfl), by repeat (first | (with_reducible first | exact HB.out | apply below_alloc | apply pw_below_drewN | apply below_drew1 | refine below_set ?_ GE131.out) | exact HB.out)⟩

/-! ### timecode_in: function 44 -/
def timecode_in.f (a0 : Int) (a1 : Int) : Option (Bool) := if a0 ≥ 0 then (some (decide (a0 < a1))) else (some false)
set_option maxHeartbeats 8000000 in
set_option maxRecDepth 100000 in
theorem timecode_in.calls (a0 : Int) (a1 : Int) (r : Bool) (w : World) (h : timecode_in.f a0 a1 = some r) :
    Calls Try.prog 44 #[.int .i64 a0, .int .i64 a1] w fun e w' => e = .returned (.bool r) ∧ Drawn0 w w' := by
  have H : (if a0 ≥ 0 then (some (decide (a0 < a1))) else (some false)) = some r := h
  clear h
  by_cases c3 : a0 ≥ 0
  · rw [if_pos c3] at H
    have c3b0 : decide (0 ≤ a0) = true := decide_eq_true c3
    clear c3
    obtain rfl := Option.some.inj H
    go_enter Try.func44, Try.ntmps44
    go_wp2
    go_ret
    exact ⟨by first | rfl | (simp; done) | (simp [*]; done), by repeat (first | exact Drawn0.refl _ | apply Drawn0.step)⟩
  · rw [if_neg c3] at H
    have c3b0 : decide (0 ≤ a0) = false := decide_eq_false c3
    clear c3
    obtain rfl := Option.some.inj H
    go_enter Try.func44, Try.ntmps44
    go_wp2
    go_ret
    exact ⟨by first | rfl | (simp; done) | (simp [*]; done), by repeat (first | exact Drawn0.refl _ | apply Drawn0.step)⟩

end Go.Proofs.Ytfdhjnfpppafaaa.PTimecodeDrifts
