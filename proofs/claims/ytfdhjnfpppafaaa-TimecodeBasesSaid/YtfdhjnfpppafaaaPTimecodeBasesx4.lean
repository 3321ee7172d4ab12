-- Written for this claim by a turned copy of the kit's print (wip/printx/mk.py). By an AI agent.
import Derived.Test.YtfdhjnfpppafaaaPTimecodeBasesx0
import Derived.Test.YtfdhjnfpppafaaaPTimecodeBasesx3
namespace Go.Proofs.Ytfdhjnfpppafaaa.PTimecodeBases
open Go.RowKit Go.Proofs.YtfdhjnfpppafaaaW.PrintWords Go.Proofs.YtfdhjnfpppafaaaW.PrintLast Go.Proofs.YtfdhjnfpppafaaaW.PrintMore
attribute [local go_sem] max2_int min2_int max_two min_two max_three min_three max_four min_four   -- for this text's walks alone
set_option linter.unusedVariables false
set_option linter.unusedSimpArgs false

/-! ### timecode_Label: function 23 -/
def timecode_Label.f (k : Nat) (a0 : Int) (a1 : Int) (a2 : Bool) : Option (Int × Int × Int × Int × Int × Bool × Int) := (timecode_Day.f k a1 a2).bind fun bt141 => (if bt141.2 = 0 then ((timecode_within.f a0 bt141.1).bind fun t143 => ((timecode_dropped.f a1 a2).bind fun t144 => ((timecode_tenMinutes.f a1 a2).bind fun t145 => (if t145 = 0 then (none) else ((timecode_tenMinutes.f a1 a2).bind fun t146 => (if t146 = 0 then (none) else (if (Int.tmod t143 t146) ≥ (wrap64 (60 * a1)) then (if (wrap64 ((wrap64 (60 * a1)) - t144)) = 0 then (none) else (if a1 = 0 then (none) else (some (wrap64 (Int.tdiv (wrap64 ((wrap64 (1 + (wrap64 (Int.tdiv (wrap64 ((Int.tmod t143 t146) - (wrap64 (60 * a1)))) (wrap64 ((wrap64 (60 * a1)) - t144)))))) + (wrap64 ((wrap64 (Int.tdiv t143 t145)) * 10)))) 60), Int.tmod (wrap64 ((wrap64 (1 + (wrap64 (Int.tdiv (wrap64 ((Int.tmod t143 t146) - (wrap64 (60 * a1)))) (wrap64 ((wrap64 (60 * a1)) - t144)))))) + (wrap64 ((wrap64 (Int.tdiv t143 t145)) * 10)))) 60, wrap64 (Int.tdiv (wrap64 ((Int.tmod (wrap64 ((Int.tmod t143 t146) - (wrap64 (60 * a1)))) (wrap64 ((wrap64 (60 * a1)) - t144))) + t144)) a1), Int.tmod (wrap64 ((Int.tmod (wrap64 ((Int.tmod t143 t146) - (wrap64 (60 * a1)))) (wrap64 ((wrap64 (60 * a1)) - t144))) + t144)) a1, a1, a2, 0)))) else (if a1 = 0 then (none) else (some (wrap64 (Int.tdiv (wrap64 ((wrap64 ((wrap64 (Int.tdiv t143 t145)) * 10)))) 60), Int.tmod (wrap64 ((wrap64 ((wrap64 (Int.tdiv t143 t145)) * 10)))) 60, wrap64 (Int.tdiv (Int.tmod t143 t146) a1), Int.tmod (Int.tmod t143 t146) a1, a1, a2, 0)))))))))) else (some (0, 0, 0, 0, 0, false, bt141.2)))
theorem timecode_Label.mono : ∀ a0 a1 a2 k, LeO (timecode_Label.f k a0 a1 a2) (timecode_Label.f (k + 1) a0 a1 a2) := by
  intro a0 a1 a2 k
  unfold timecode_Label.f
  repeat' first
      | (with_reducible exact timecode_Day.mono _ _ _)
      | (with_reducible exact LeO.refl _)
      | (with_reducible exact LeO.none _)
      | (with_reducible refine LeO.ite ?_ ?_)
      | (with_reducible refine LeO.bind ?_ (fun _ => ?_))
      | exact timecode_Day.mono _ _ _
      | exact LeO.none _
      | refine LeO.ite ?_ ?_
      | refine LeO.bind ?_ (fun _ => ?_)
def timecode_Label.T17 : Bool × List (List Nat × List Nat) := (true, [([], []), ([], []), ([0, 1], [0, 1]), ([], []), ([], []), ([3, 4], [3, 4]), ([0, 1, 2], []), ([6, 2, 0, 1, 2], [2, 6]), ([0, 1, 2, 3, 4, 5, 6, 7], []), ([8, 5, 7, 0, 1, 2, 3, 4, 5, 6, 7], [5, 8])])
def timecode_Label.B17 : List Nat := [0, 0, 3, 0, 0, 24, 7, 71, 255, 511]
theorem timecode_Label.tab17 : rtab .any (opsOf Try.f23 17) = timecode_Label.T17 := by kernel_rfl
theorem timecode_Label.bits17 : waitsOk timecode_Label.T17.2 timecode_Label.B17 = true := by kernel_rfl
set_option maxHeartbeats 8000000 in
set_option maxRecDepth 100000 in
theorem timecode_Label.calls (k : Nat) (a0 : Int) (a1 : Int) (a2 : Bool) (r1 : Int) (r2 : Int) (r3 : Int) (r4 : Int) (r5 : Int) (r6 : Bool) (r7 : Int) (w : World) (h : timecode_Label.f k a0 a1 a2 = some (r1, r2, r3, r4, r5, r6, r7)) :
    Calls Try.prog 23 #[.int .i64 a0, .int .i64 a1, .bool a2] w fun e w' => e = .returned (.tuple #[.agg #[.int .i64 r1, .int .i64 r2, .int .i64 r3, .int .i64 r4, .int .i64 r5, .bool r6], .int .i64 r7]) ∧ Below w.heap.size w w' := by
  have hu34 := Try.underlying34
  have HB := Aside0.mk (Below.refl w.heap.size w)
  have H : ((timecode_Day.f k a1 a2).bind fun bt141 => (if bt141.2 = 0 then ((timecode_within.f a0 bt141.1).bind fun t143 => ((timecode_dropped.f a1 a2).bind fun t144 => ((timecode_tenMinutes.f a1 a2).bind fun t145 => (if t145 = 0 then (none) else ((timecode_tenMinutes.f a1 a2).bind fun t146 => (if t146 = 0 then (none) else (if (Int.tmod t143 t146) ≥ (wrap64 (60 * a1)) then (if (wrap64 ((wrap64 (60 * a1)) - t144)) = 0 then (none) else (if a1 = 0 then (none) else (some (wrap64 (Int.tdiv (wrap64 ((wrap64 (1 + (wrap64 (Int.tdiv (wrap64 ((Int.tmod t143 t146) - (wrap64 (60 * a1)))) (wrap64 ((wrap64 (60 * a1)) - t144)))))) + (wrap64 ((wrap64 (Int.tdiv t143 t145)) * 10)))) 60), Int.tmod (wrap64 ((wrap64 (1 + (wrap64 (Int.tdiv (wrap64 ((Int.tmod t143 t146) - (wrap64 (60 * a1)))) (wrap64 ((wrap64 (60 * a1)) - t144)))))) + (wrap64 ((wrap64 (Int.tdiv t143 t145)) * 10)))) 60, wrap64 (Int.tdiv (wrap64 ((Int.tmod (wrap64 ((Int.tmod t143 t146) - (wrap64 (60 * a1)))) (wrap64 ((wrap64 (60 * a1)) - t144))) + t144)) a1), Int.tmod (wrap64 ((Int.tmod (wrap64 ((Int.tmod t143 t146) - (wrap64 (60 * a1)))) (wrap64 ((wrap64 (60 * a1)) - t144))) + t144)) a1, a1, a2, 0)))) else (if a1 = 0 then (none) else (some (wrap64 (Int.tdiv (wrap64 ((wrap64 ((wrap64 (Int.tdiv t143 t145)) * 10)))) 60), Int.tmod (wrap64 ((wrap64 ((wrap64 (Int.tdiv t143 t145)) * 10)))) 60, wrap64 (Int.tdiv (Int.tmod t143 t146) a1), Int.tmod (Int.tmod t143 t146) a1, a1, a2, 0)))))))))) else (some (0, 0, 0, 0, 0, false, bt141.2)))) = some (r1, r2, r3, r4, r5, r6, r7) := h
  clear h
  replace H := Option.bind_eq_some_iff.mp H
  obtain ⟨⟨t141, t142⟩, A40, H⟩ := H
  replace H : (if t142 = 0 then ((timecode_within.f a0 t141).bind fun t143 => ((timecode_dropped.f a1 a2).bind fun t144 => ((timecode_tenMinutes.f a1 a2).bind fun t145 => (if t145 = 0 then (none) else ((timecode_tenMinutes.f a1 a2).bind fun t146 => (if t146 = 0 then (none) else (if (Int.tmod t143 t146) ≥ (wrap64 (60 * a1)) then (if (wrap64 ((wrap64 (60 * a1)) - t144)) = 0 then (none) else (if a1 = 0 then (none) else (some (wrap64 (Int.tdiv (wrap64 ((wrap64 (1 + (wrap64 (Int.tdiv (wrap64 ((Int.tmod t143 t146) - (wrap64 (60 * a1)))) (wrap64 ((wrap64 (60 * a1)) - t144)))))) + (wrap64 ((wrap64 (Int.tdiv t143 t145)) * 10)))) 60), Int.tmod (wrap64 ((wrap64 (1 + (wrap64 (Int.tdiv (wrap64 ((Int.tmod t143 t146) - (wrap64 (60 * a1)))) (wrap64 ((wrap64 (60 * a1)) - t144)))))) + (wrap64 ((wrap64 (Int.tdiv t143 t145)) * 10)))) 60, wrap64 (Int.tdiv (wrap64 ((Int.tmod (wrap64 ((Int.tmod t143 t146) - (wrap64 (60 * a1)))) (wrap64 ((wrap64 (60 * a1)) - t144))) + t144)) a1), Int.tmod (wrap64 ((Int.tmod (wrap64 ((Int.tmod t143 t146) - (wrap64 (60 * a1)))) (wrap64 ((wrap64 (60 * a1)) - t144))) + t144)) a1, a1, a2, 0)))) else (if a1 = 0 then (none) else (some (wrap64 (Int.tdiv (wrap64 ((wrap64 ((wrap64 (Int.tdiv t143 t145)) * 10)))) 60), Int.tmod (wrap64 ((wrap64 ((wrap64 (Int.tdiv t143 t145)) * 10)))) 60, wrap64 (Int.tdiv (Int.tmod t143 t146) a1), Int.tmod (Int.tmod t143 t146) a1, a1, a2, 0)))))))))) else (some (0, 0, 0, 0, 0, false, t142))) = some (r1, r2, r3, r4, r5, r6, r7) := H
  have A4 := Aside0.mk A40
  clear A40
  by_cases c5 : t142 = 0
  · rw [if_pos c5] at H
    have c5b0 : (t142 == 0) = true := beq_iff_eq.mpr c5
    have c5b1 : (t142 != 0) = false := bne_eq_false_iff_eq.mpr c5
    clear c5
    replace H := Option.bind_eq_some_iff.mp H
    obtain ⟨t143, A60, H⟩ := H
    replace H : ((timecode_dropped.f a1 a2).bind fun t144 => ((timecode_tenMinutes.f a1 a2).bind fun t145 => (if t145 = 0 then (none) else ((timecode_tenMinutes.f a1 a2).bind fun t146 => (if t146 = 0 then (none) else (if (Int.tmod t143 t146) ≥ (wrap64 (60 * a1)) then (if (wrap64 ((wrap64 (60 * a1)) - t144)) = 0 then (none) else (if a1 = 0 then (none) else (some (wrap64 (Int.tdiv (wrap64 ((wrap64 (1 + (wrap64 (Int.tdiv (wrap64 ((Int.tmod t143 t146) - (wrap64 (60 * a1)))) (wrap64 ((wrap64 (60 * a1)) - t144)))))) + (wrap64 ((wrap64 (Int.tdiv t143 t145)) * 10)))) 60), Int.tmod (wrap64 ((wrap64 (1 + (wrap64 (Int.tdiv (wrap64 ((Int.tmod t143 t146) - (wrap64 (60 * a1)))) (wrap64 ((wrap64 (60 * a1)) - t144)))))) + (wrap64 ((wrap64 (Int.tdiv t143 t145)) * 10)))) 60, wrap64 (Int.tdiv (wrap64 ((Int.tmod (wrap64 ((Int.tmod t143 t146) - (wrap64 (60 * a1)))) (wrap64 ((wrap64 (60 * a1)) - t144))) + t144)) a1), Int.tmod (wrap64 ((Int.tmod (wrap64 ((Int.tmod t143 t146) - (wrap64 (60 * a1)))) (wrap64 ((wrap64 (60 * a1)) - t144))) + t144)) a1, a1, a2, 0)))) else (if a1 = 0 then (none) else (some (wrap64 (Int.tdiv (wrap64 ((wrap64 ((wrap64 (Int.tdiv t143 t145)) * 10)))) 60), Int.tmod (wrap64 ((wrap64 ((wrap64 (Int.tdiv t143 t145)) * 10)))) 60, wrap64 (Int.tdiv (Int.tmod t143 t146) a1), Int.tmod (Int.tmod t143 t146) a1, a1, a2, 0))))))))) = some (r1, r2, r3, r4, r5, r6, r7) := H
    have A6 := Aside0.mk A60
    clear A60
    replace H := Option.bind_eq_some_iff.mp H
    obtain ⟨t144, A70, H⟩ := H
    replace H : ((timecode_tenMinutes.f a1 a2).bind fun t145 => (if t145 = 0 then (none) else ((timecode_tenMinutes.f a1 a2).bind fun t146 => (if t146 = 0 then (none) else (if (Int.tmod t143 t146) ≥ (wrap64 (60 * a1)) then (if (wrap64 ((wrap64 (60 * a1)) - t144)) = 0 then (none) else (if a1 = 0 then (none) else (some (wrap64 (Int.tdiv (wrap64 ((wrap64 (1 + (wrap64 (Int.tdiv (wrap64 ((Int.tmod t143 t146) - (wrap64 (60 * a1)))) (wrap64 ((wrap64 (60 * a1)) - t144)))))) + (wrap64 ((wrap64 (Int.tdiv t143 t145)) * 10)))) 60), Int.tmod (wrap64 ((wrap64 (1 + (wrap64 (Int.tdiv (wrap64 ((Int.tmod t143 t146) - (wrap64 (60 * a1)))) (wrap64 ((wrap64 (60 * a1)) - t144)))))) + (wrap64 ((wrap64 (Int.tdiv t143 t145)) * 10)))) 60, wrap64 (Int.tdiv (wrap64 ((Int.tmod (wrap64 ((Int.tmod t143 t146) - (wrap64 (60 * a1)))) (wrap64 ((wrap64 (60 * a1)) - t144))) + t144)) a1), Int.tmod (wrap64 ((Int.tmod (wrap64 ((Int.tmod t143 t146) - (wrap64 (60 * a1)))) (wrap64 ((wrap64 (60 * a1)) - t144))) + t144)) a1, a1, a2, 0)))) else (if a1 = 0 then (none) else (some (wrap64 (Int.tdiv (wrap64 ((wrap64 ((wrap64 (Int.tdiv t143 t145)) * 10)))) 60), Int.tmod (wrap64 ((wrap64 ((wrap64 (Int.tdiv t143 t145)) * 10)))) 60, wrap64 (Int.tdiv (Int.tmod t143 t146) a1), Int.tmod (Int.tmod t143 t146) a1, a1, a2, 0)))))))) = some (r1, r2, r3, r4, r5, r6, r7) := H
    have A7 := Aside0.mk A70
    clear A70
    replace H := Option.bind_eq_some_iff.mp H
    obtain ⟨t145, A80, H⟩ := H
    replace H : (if t145 = 0 then (none) else ((timecode_tenMinutes.f a1 a2).bind fun t146 => (if t146 = 0 then (none) else (if (Int.tmod t143 t146) ≥ (wrap64 (60 * a1)) then (if (wrap64 ((wrap64 (60 * a1)) - t144)) = 0 then (none) else (if a1 = 0 then (none) else (some (wrap64 (Int.tdiv (wrap64 ((wrap64 (1 + (wrap64 (Int.tdiv (wrap64 ((Int.tmod t143 t146) - (wrap64 (60 * a1)))) (wrap64 ((wrap64 (60 * a1)) - t144)))))) + (wrap64 ((wrap64 (Int.tdiv t143 t145)) * 10)))) 60), Int.tmod (wrap64 ((wrap64 (1 + (wrap64 (Int.tdiv (wrap64 ((Int.tmod t143 t146) - (wrap64 (60 * a1)))) (wrap64 ((wrap64 (60 * a1)) - t144)))))) + (wrap64 ((wrap64 (Int.tdiv t143 t145)) * 10)))) 60, wrap64 (Int.tdiv (wrap64 ((Int.tmod (wrap64 ((Int.tmod t143 t146) - (wrap64 (60 * a1)))) (wrap64 ((wrap64 (60 * a1)) - t144))) + t144)) a1), Int.tmod (wrap64 ((Int.tmod (wrap64 ((Int.tmod t143 t146) - (wrap64 (60 * a1)))) (wrap64 ((wrap64 (60 * a1)) - t144))) + t144)) a1, a1, a2, 0)))) else (if a1 = 0 then (none) else (some (wrap64 (Int.tdiv (wrap64 ((wrap64 ((wrap64 (Int.tdiv t143 t145)) * 10)))) 60), Int.tmod (wrap64 ((wrap64 ((wrap64 (Int.tdiv t143 t145)) * 10)))) 60, wrap64 (Int.tdiv (Int.tmod t143 t146) a1), Int.tmod (Int.tmod t143 t146) a1, a1, a2, 0))))))) = some (r1, r2, r3, r4, r5, r6, r7) := H
    have A8 := Aside0.mk A80
    clear A80
    by_cases c9 : t145 = 0
    · rw [if_pos c9] at H
      exact absurd H (by simp)
    · rw [if_neg c9] at H
      have c9b0 : (t145 == 0) = false := beq_eq_false_iff_ne.mpr c9
      have c9b1 : (t145 != 0) = true := bne_iff_ne.mpr c9
      replace H := Option.bind_eq_some_iff.mp H
      obtain ⟨t146, A100, H⟩ := H
      replace H : (if t146 = 0 then (none) else (if (Int.tmod t143 t146) ≥ (wrap64 (60 * a1)) then (if (wrap64 ((wrap64 (60 * a1)) - t144)) = 0 then (none) else (if a1 = 0 then (none) else (some (wrap64 (Int.tdiv (wrap64 ((wrap64 (1 + (wrap64 (Int.tdiv (wrap64 ((Int.tmod t143 t146) - (wrap64 (60 * a1)))) (wrap64 ((wrap64 (60 * a1)) - t144)))))) + (wrap64 ((wrap64 (Int.tdiv t143 t145)) * 10)))) 60), Int.tmod (wrap64 ((wrap64 (1 + (wrap64 (Int.tdiv (wrap64 ((Int.tmod t143 t146) - (wrap64 (60 * a1)))) (wrap64 ((wrap64 (60 * a1)) - t144)))))) + (wrap64 ((wrap64 (Int.tdiv t143 t145)) * 10)))) 60, wrap64 (Int.tdiv (wrap64 ((Int.tmod (wrap64 ((Int.tmod t143 t146) - (wrap64 (60 * a1)))) (wrap64 ((wrap64 (60 * a1)) - t144))) + t144)) a1), Int.tmod (wrap64 ((Int.tmod (wrap64 ((Int.tmod t143 t146) - (wrap64 (60 * a1)))) (wrap64 ((wrap64 (60 * a1)) - t144))) + t144)) a1, a1, a2, 0)))) else (if a1 = 0 then (none) else (some (wrap64 (Int.tdiv (wrap64 ((wrap64 ((wrap64 (Int.tdiv t143 t145)) * 10)))) 60), Int.tmod (wrap64 ((wrap64 ((wrap64 (Int.tdiv t143 t145)) * 10)))) 60, wrap64 (Int.tdiv (Int.tmod t143 t146) a1), Int.tmod (Int.tmod t143 t146) a1, a1, a2, 0))))) = some (r1, r2, r3, r4, r5, r6, r7) := H
      have A10 := Aside0.mk A100
      clear A100
      by_cases c11 : t146 = 0
      · rw [if_pos c11] at H
        exact absurd H (by simp)
      · rw [if_neg c11] at H
        have c11b0 : (t146 == 0) = false := beq_eq_false_iff_ne.mpr c11
        have c11b1 : (t146 != 0) = true := bne_iff_ne.mpr c11
        by_cases c12 : (Int.tmod t143 t146) ≥ (wrap64 (60 * a1))
        · rw [if_pos c12] at H
          have c12b0 : decide ((wrap64 (60 * a1)) ≤ (Int.tmod t143 t146)) = true := decide_eq_true c12
          clear c12
          by_cases c13 : (wrap64 ((wrap64 (60 * a1)) - t144)) = 0
          · rw [if_pos c13] at H
            exact absurd H (by simp)
          · rw [if_neg c13] at H
            have c13b0 : ((wrap64 ((wrap64 (60 * a1)) - t144)) == 0) = false := beq_eq_false_iff_ne.mpr c13
            have c13b1 : ((wrap64 ((wrap64 (60 * a1)) - t144)) != 0) = true := bne_iff_ne.mpr c13
            by_cases c14 : a1 = 0
            · rw [if_pos c14] at H
              exact absurd H (by simp)
            · rw [if_neg c14] at H
              have c14b0 : (a1 == 0) = false := beq_eq_false_iff_ne.mpr c14
              have c14b1 : (a1 != 0) = true := bne_iff_ne.mpr c14
              simp only [Option.some.injEq, Prod.mk.injEq] at H
              obtain ⟨rfl, rfl, rfl, rfl, rfl, rfl, rfl⟩ := H
              go_enter Try.func23, Try.ntmps23
              try go_wp2_with (first | ((with_reducible refine gate_dst (N := 6) rfl ?_); refine box_event ?hg (N := 6) ?hd (cs := #[.int .i64 0, .int .i64 0, .int .i64 0, .int .i64 0, .int .i64 0, .bool false]) (t := 34) ?hr ?_; (case hd => rfl); (case hg => rfl); (case hr => first | (go_simp; done) | (go_simp; rfl)); intro gb140 hg w15 hbox hb; have n0_ := Aside0.mk (below_step (by repeat (first | (with_reducible first | exact HB.out | apply below_alloc | apply pw_below_drewN | apply below_drew1) | exact HB.out)) hb); have n1_ := Aside0.mk (hbox); have n2_ := Aside0.mk ((by rw [hg]; exact (below_size (by repeat (first | (with_reducible first | exact HB.out | apply below_alloc | apply pw_below_drewN | apply below_drew1) | exact HB.out))) : w.heap.size ≤ gb140)); have n3_ := Aside0.mk ((by rw [hg]; exact (below_size (by repeat (first | (with_reducible first | exact HB.out | apply below_alloc | apply pw_below_drewN | apply below_drew1) | exact HB.out))) : w.heap.size ≤ gb140)); clear HB; have HB := n0_; have BK140 := n1_; have GW140 := n2_; have GE140 := n3_; clear n0_ n1_ n2_ n3_; clear hb hbox hg) | ((with_reducible refine gate_callee (f := 21) rfl ?_); refine goesL_ (some 19) rfl rfl Try.func21 (by kernel_rfl) rfl #[.int .i64 a1, .bool a2] rfl (by (try simp only [List.map_toArray, List.map_cons, List.map_nil]); first | done | rfl | (simp only [List.length_drop, List.length_take]; rfl)) ?_; (with_reducible refine (timecode_Day.calls k a1 a2 t141 t142 _ A4.out).mono ?_); rintro e w16 ⟨rfl, hb⟩; refine ⟨_, rfl, ?_⟩; have n0_ := Aside0.mk (blk_below (g := gb140) (o := .cells #[.int .i64 0, .int .i64 0, .int .i64 0, .int .i64 0, .int .i64 0, .bool false] 34 (0, 0)) (by (with_reducible repeat (first | refine blk_drewN ?_ _ | refine blk_drew ?_ | refine blk_alloc ?_ _)); exact BK140.out) hb); have n1_ := Aside0.mk (below_step (by repeat (first | (with_reducible first | exact HB.out | apply below_alloc | apply pw_below_drewN | apply below_drew1 | refine below_set ?_ GE140.out) | exact HB.out)) hb); clear BK140; clear HB; have BK140 := n0_; have HB := n1_; clear n0_ n1_; (try clear hb); (try clear hb2); (try clear hk); (try clear hi)) | ((with_reducible refine gate_callee (f := 42) rfl ?_); refine goesL_ (some 28) rfl rfl Try.func42 (by kernel_rfl) rfl #[.int .i64 a0, .int .i64 t141] rfl (by (try simp only [List.map_toArray, List.map_cons, List.map_nil]); first | done | rfl | (simp only [List.length_drop, List.length_take]; rfl)) ?_; (with_reducible refine (timecode_within.calls a0 t141 t143 _ A6.out).mono ?_); rintro e w' ⟨rfl, ⟨nd, rfl⟩⟩; refine ⟨_, rfl, ?_⟩; (try (rw [drewN_self w16]; generalize hq_ : World.drewN w16 _ = w16; have n0_ : Aside0 (w16.heap[gb140]? = some (.cells #[.int .i64 0, .int .i64 0, .int .i64 0, .int .i64 0, .int .i64 0, .bool false] 34 (0, 0))) := ⟨by rw [← hq_]; exact (by (with_reducible repeat (first | refine blk_drewN ?_ _ | refine blk_drew ?_ | refine blk_alloc ?_ _)); exact BK140.out)⟩; have n1_ : Aside0 (Below w.heap.size w w16) := ⟨by rw [← hq_]; exact (by repeat (first | (with_reducible first | exact HB.out | apply below_alloc | apply pw_below_drewN | apply below_drew1 | refine below_set ?_ GE140.out) | exact HB.out))⟩; clear BK140 HB hq_; have BK140 := n0_; have HB := n1_; clear n0_ n1_))) | ((with_reducible refine gate_callee (f := 43) rfl ?_); refine goesL_ (some 32) rfl rfl Try.func43 (by kernel_rfl) rfl #[.int .i64 a1, .bool a2] rfl (by (try simp only [List.map_toArray, List.map_cons, List.map_nil]); first | done | rfl | (simp only [List.length_drop, List.length_take]; rfl)) ?_; (with_reducible refine (timecode_dropped.calls a1 a2 t144 _ A7.out).mono ?_); rintro e w' ⟨rfl, ⟨nd, rfl⟩⟩; refine ⟨_, rfl, ?_⟩; (try (rw [drewN_self w16]; generalize hq_ : World.drewN w16 _ = w16; have n0_ : Aside0 (w16.heap[gb140]? = some (.cells #[.int .i64 0, .int .i64 0, .int .i64 0, .int .i64 0, .int .i64 0, .bool false] 34 (0, 0))) := ⟨by rw [← hq_]; exact (by (with_reducible repeat (first | refine blk_drewN ?_ _ | refine blk_drew ?_ | refine blk_alloc ?_ _)); exact BK140.out)⟩; have n1_ : Aside0 (Below w.heap.size w w16) := ⟨by rw [← hq_]; exact (by repeat (first | (with_reducible first | exact HB.out | apply below_alloc | apply pw_below_drewN | apply below_drew1 | refine below_set ?_ GE140.out) | exact HB.out))⟩; clear BK140 HB hq_; have BK140 := n0_; have HB := n1_; clear n0_ n1_))) | ((with_reducible refine gate_callee (f := 40) rfl ?_); refine goesL_ (some 36) rfl rfl Try.func40 (by kernel_rfl) rfl #[.int .i64 a1, .bool a2] rfl (by (try simp only [List.map_toArray, List.map_cons, List.map_nil]); first | done | rfl | (simp only [List.length_drop, List.length_take]; rfl)) ?_; (with_reducible refine (timecode_tenMinutes.calls a1 a2 t145 _ A8.out).mono ?_); rintro e w' ⟨rfl, ⟨nd, rfl⟩⟩; refine ⟨_, rfl, ?_⟩; (try (rw [drewN_self w16]; generalize hq_ : World.drewN w16 _ = w16; have n0_ : Aside0 (w16.heap[gb140]? = some (.cells #[.int .i64 0, .int .i64 0, .int .i64 0, .int .i64 0, .int .i64 0, .bool false] 34 (0, 0))) := ⟨by rw [← hq_]; exact (by (with_reducible repeat (first | refine blk_drewN ?_ _ | refine blk_drew ?_ | refine blk_alloc ?_ _)); exact BK140.out)⟩; have n1_ : Aside0 (Below w.heap.size w w16) := ⟨by rw [← hq_]; exact (by repeat (first | (with_reducible first | exact HB.out | apply below_alloc | apply pw_below_drewN | apply below_drew1 | refine below_set ?_ GE140.out) | exact HB.out))⟩; clear BK140 HB hq_; have BK140 := n0_; have HB := n1_; clear n0_ n1_))) | ((with_reducible refine gate_callee (f := 40) rfl ?_); refine goesL_ (some 42) rfl rfl Try.func40 (by kernel_rfl) rfl #[.int .i64 a1, .bool a2] rfl (by (try simp only [List.map_toArray, List.map_cons, List.map_nil]); first | done | rfl | (simp only [List.length_drop, List.length_take]; rfl)) ?_; (with_reducible refine (timecode_tenMinutes.calls a1 a2 t146 _ A10.out).mono ?_); rintro e w' ⟨rfl, ⟨nd, rfl⟩⟩; refine ⟨_, rfl, ?_⟩; (try (rw [drewN_self w16]; generalize hq_ : World.drewN w16 _ = w16; have n0_ : Aside0 (w16.heap[gb140]? = some (.cells #[.int .i64 0, .int .i64 0, .int .i64 0, .int .i64 0, .int .i64 0, .bool false] 34 (0, 0))) := ⟨by rw [← hq_]; exact (by (with_reducible repeat (first | refine blk_drewN ?_ _ | refine blk_drew ?_ | refine blk_alloc ?_ _)); exact BK140.out)⟩; have n1_ : Aside0 (Below w.heap.size w w16) := ⟨by rw [← hq_]; exact (by repeat (first | (with_reducible first | exact HB.out | apply below_alloc | apply pw_below_drewN | apply below_drew1 | refine below_set ?_ GE140.out) | exact HB.out))⟩; clear BK140 HB hq_; have BK140 := n0_; have HB := n1_; clear n0_ n1_))) | ((with_reducible refine gate_dst (N := 15) rfl ?_); refine box_event ?hg (N := 15) ?hd (cs := #[.int .i64 0, .int .i64 0, .int .i64 0, .int .i64 0, .int .i64 0, .bool false]) (t := 34) ?hr ?_; (case hd => rfl); (case hg => rfl); (case hr => first | (go_simp; done) | (go_simp; rfl)); intro gb147 hg w17 hbox hb; have n0_ := Aside0.mk (blk_below (g := gb140) (o := .cells #[.int .i64 0, .int .i64 0, .int .i64 0, .int .i64 0, .int .i64 0, .bool false] 34 (0, 0)) (by (with_reducible repeat (first | refine blk_drewN ?_ _ | refine blk_drew ?_ | refine blk_alloc ?_ _)); exact BK140.out) hb); have n1_ := Aside0.mk (below_step (by repeat (first | (with_reducible first | exact HB.out | apply below_alloc | apply pw_below_drewN | apply below_drew1 | refine below_set ?_ GE140.out) | exact HB.out)) hb); have n2_ := Aside0.mk (hbox); have n3_ := Aside0.mk ((by rw [hg]; exact (below_size (by repeat (first | (with_reducible first | exact HB.out | apply below_alloc | apply pw_below_drewN | apply below_drew1 | refine below_set ?_ GE140.out) | exact HB.out))) : w.heap.size ≤ gb147)); have n4_ := Aside0.mk ((by rw [hg]; exact (below_size (by repeat (first | (with_reducible first | exact HB.out | apply below_alloc | apply pw_below_drewN | apply below_drew1 | refine below_set ?_ GE140.out) | exact HB.out))) : w.heap.size ≤ gb147)); have n5_ := Aside0.mk ((by rw [hg]; exact Nat.ne_of_lt (blk_lt (g := gb140) (o := .cells #[.int .i64 0, .int .i64 0, .int .i64 0, .int .i64 0, .int .i64 0, .bool false] 34 (0, 0)) (by (with_reducible repeat (first | refine blk_drewN ?_ _ | refine blk_drew ?_ | refine blk_alloc ?_ _)); exact BK140.out)) : gb140 ≠ gb147)); have n6_ := Aside0.mk ((by rw [hg]; exact Nat.ne_of_gt (blk_lt (g := gb140) (o := .cells #[.int .i64 0, .int .i64 0, .int .i64 0, .int .i64 0, .int .i64 0, .bool false] 34 (0, 0)) (by (with_reducible repeat (first | refine blk_drewN ?_ _ | refine blk_drew ?_ | refine blk_alloc ?_ _)); exact BK140.out)) : gb147 ≠ gb140)); clear BK140; clear HB; have BK140 := n0_; have HB := n1_; have BK147 := n2_; have GW147 := n3_; have GE147 := n4_; have NB140_147 := n5_; have NB147_140 := n6_; clear n0_ n1_ n2_ n3_ n4_ n5_ n6_; clear hb hbox hg; have hnb18 := NB147_140.out; have hnc18 := NB140_147.out; have hcz19_0 : w17.cell? ⟨gb147, 0, none⟩ = some (.int .i64 0) := (blk_cell BK147.out 0).trans rfl; have hcz19_1 : w17.cell? ⟨gb147, 1, none⟩ = some (.int .i64 0) := (blk_cell BK147.out 1).trans rfl; have hcz19_2 : w17.cell? ⟨gb147, 2, none⟩ = some (.int .i64 0) := (blk_cell BK147.out 2).trans rfl; have hcz19_3 : w17.cell? ⟨gb147, 3, none⟩ = some (.int .i64 0) := (blk_cell BK147.out 3).trans rfl; have hcz19_4 : w17.cell? ⟨gb147, 4, none⟩ = some (.int .i64 0) := (blk_cell BK147.out 4).trans rfl; have hcz19_5 : w17.cell? ⟨gb147, 5, none⟩ = some (.bool false) := (blk_cell BK147.out 5).trans rfl; have hfz19_0 := blk_frozen BK147.out 0; have hfz19_1 := blk_frozen BK147.out 1; have hfz19_2 := blk_frozen BK147.out 2; have hfz19_3 := blk_frozen BK147.out 3; have hfz19_4 := blk_frozen BK147.out 4; have hfz19_5 := blk_frozen BK147.out 5))
              have n0_ : Aside0 (((((((((w17.setCell ⟨gb147, 0, none⟩ (.int .i64 0)).setCell ⟨gb147, 1, none⟩ (.int .i64 0)).setCell ⟨gb147, 2, none⟩ (.int .i64 0)).setCell ⟨gb147, 3, none⟩ (.int .i64 0)).setCell ⟨gb147, 4, none⟩ (.int .i64 a1)).setCell ⟨gb147, 5, none⟩ (.bool a2)).setCell ⟨gb147, 0, none⟩ (.int .i64 (wrap64 (Int.tdiv (wrap64 ((wrap64 (1 + (wrap64 (Int.tdiv (wrap64 ((Int.tmod t143 t146) - (wrap64 (60 * a1)))) (wrap64 ((wrap64 (60 * a1)) - t144)))))) + (wrap64 ((wrap64 (Int.tdiv t143 t145)) * 10)))) 60)))).setCell ⟨gb147, 1, none⟩ (.int .i64 (Int.tmod (wrap64 ((wrap64 (1 + (wrap64 (Int.tdiv (wrap64 ((Int.tmod t143 t146) - (wrap64 (60 * a1)))) (wrap64 ((wrap64 (60 * a1)) - t144)))))) + (wrap64 ((wrap64 (Int.tdiv t143 t145)) * 10)))) 60))).heap[gb140]? = some (.cells #[.int .i64 0, .int .i64 0, .int .i64 0, .int .i64 0, .int .i64 0, .bool false] 34 (0, 0))) := ⟨by (with_reducible repeat (first | refine blk_drewN ?_ _ | refine blk_drew ?_ | refine blk_alloc ?_ _)); refine blk_far ?_ NB140_147.out _; (with_reducible repeat (first | refine blk_drewN ?_ _ | refine blk_drew ?_ | refine blk_alloc ?_ _)); refine blk_far ?_ NB140_147.out _; (with_reducible repeat (first | refine blk_drewN ?_ _ | refine blk_drew ?_ | refine blk_alloc ?_ _)); refine blk_far ?_ NB140_147.out _; (with_reducible repeat (first | refine blk_drewN ?_ _ | refine blk_drew ?_ | refine blk_alloc ?_ _)); refine blk_far ?_ NB140_147.out _; (with_reducible repeat (first | refine blk_drewN ?_ _ | refine blk_drew ?_ | refine blk_alloc ?_ _)); refine blk_far ?_ NB140_147.out _; (with_reducible repeat (first | refine blk_drewN ?_ _ | refine blk_drew ?_ | refine blk_alloc ?_ _)); refine blk_far ?_ NB140_147.out _; (with_reducible repeat (first | refine blk_drewN ?_ _ | refine blk_drew ?_ | refine blk_alloc ?_ _)); refine blk_far ?_ NB140_147.out _; (with_reducible repeat (first | refine blk_drewN ?_ _ | refine blk_drew ?_ | refine blk_alloc ?_ _)); refine blk_far ?_ NB140_147.out _; (with_reducible repeat (first | refine blk_drewN ?_ _ | refine blk_drew ?_ | refine blk_alloc ?_ _)); exact BK140.out⟩
              have n1_ : Aside0 (((((((((w17.setCell ⟨gb147, 0, none⟩ (.int .i64 0)).setCell ⟨gb147, 1, none⟩ (.int .i64 0)).setCell ⟨gb147, 2, none⟩ (.int .i64 0)).setCell ⟨gb147, 3, none⟩ (.int .i64 0)).setCell ⟨gb147, 4, none⟩ (.int .i64 a1)).setCell ⟨gb147, 5, none⟩ (.bool a2)).setCell ⟨gb147, 0, none⟩ (.int .i64 (wrap64 (Int.tdiv (wrap64 ((wrap64 (1 + (wrap64 (Int.tdiv (wrap64 ((Int.tmod t143 t146) - (wrap64 (60 * a1)))) (wrap64 ((wrap64 (60 * a1)) - t144)))))) + (wrap64 ((wrap64 (Int.tdiv t143 t145)) * 10)))) 60)))).setCell ⟨gb147, 1, none⟩ (.int .i64 (Int.tmod (wrap64 ((wrap64 (1 + (wrap64 (Int.tdiv (wrap64 ((Int.tmod t143 t146) - (wrap64 (60 * a1)))) (wrap64 ((wrap64 (60 * a1)) - t144)))))) + (wrap64 ((wrap64 (Int.tdiv t143 t145)) * 10)))) 60))).heap[gb147]? = some (.cells #[.int .i64 (wrap64 (Int.tdiv (wrap64 ((wrap64 (1 + (wrap64 (Int.tdiv (wrap64 ((Int.tmod t143 t146) - (wrap64 (60 * a1)))) (wrap64 ((wrap64 (60 * a1)) - t144)))))) + (wrap64 ((wrap64 (Int.tdiv t143 t145)) * 10)))) 60)), .int .i64 (Int.tmod (wrap64 ((wrap64 (1 + (wrap64 (Int.tdiv (wrap64 ((Int.tmod t143 t146) - (wrap64 (60 * a1)))) (wrap64 ((wrap64 (60 * a1)) - t144)))))) + (wrap64 ((wrap64 (Int.tdiv t143 t145)) * 10)))) 60), .int .i64 0, .int .i64 0, .int .i64 a1, .bool a2] 34 (0, 0))) := ⟨by (with_reducible repeat (first | refine blk_drewN ?_ _ | refine blk_drew ?_ | refine blk_alloc ?_ _)); refine blk_put (cs := #[.int .i64 (wrap64 (Int.tdiv (wrap64 ((wrap64 (1 + (wrap64 (Int.tdiv (wrap64 ((Int.tmod t143 t146) - (wrap64 (60 * a1)))) (wrap64 ((wrap64 (60 * a1)) - t144)))))) + (wrap64 ((wrap64 (Int.tdiv t143 t145)) * 10)))) 60)), .int .i64 0, .int .i64 0, .int .i64 0, .int .i64 a1, .bool a2]) ?_ 1 _ rfl; (with_reducible repeat (first | refine blk_drewN ?_ _ | refine blk_drew ?_ | refine blk_alloc ?_ _)); refine blk_put (cs := #[.int .i64 0, .int .i64 0, .int .i64 0, .int .i64 0, .int .i64 a1, .bool a2]) ?_ 0 _ rfl; (with_reducible repeat (first | refine blk_drewN ?_ _ | refine blk_drew ?_ | refine blk_alloc ?_ _)); refine blk_put (cs := #[.int .i64 0, .int .i64 0, .int .i64 0, .int .i64 0, .int .i64 a1, .bool false]) ?_ 5 _ rfl; (with_reducible repeat (first | refine blk_drewN ?_ _ | refine blk_drew ?_ | refine blk_alloc ?_ _)); refine blk_put (cs := #[.int .i64 0, .int .i64 0, .int .i64 0, .int .i64 0, .int .i64 0, .bool false]) ?_ 4 _ rfl; (with_reducible repeat (first | refine blk_drewN ?_ _ | refine blk_drew ?_ | refine blk_alloc ?_ _)); refine blk_put (cs := #[.int .i64 0, .int .i64 0, .int .i64 0, .int .i64 0, .int .i64 0, .bool false]) ?_ 3 _ rfl; (with_reducible repeat (first | refine blk_drewN ?_ _ | refine blk_drew ?_ | refine blk_alloc ?_ _)); refine blk_put (cs := #[.int .i64 0, .int .i64 0, .int .i64 0, .int .i64 0, .int .i64 0, .bool false]) ?_ 2 _ rfl; (with_reducible repeat (first | refine blk_drewN ?_ _ | refine blk_drew ?_ | refine blk_alloc ?_ _)); refine blk_put (cs := #[.int .i64 0, .int .i64 0, .int .i64 0, .int .i64 0, .int .i64 0, .bool false]) ?_ 1 _ rfl; (with_reducible repeat (first | refine blk_drewN ?_ _ | refine blk_drew ?_ | refine blk_alloc ?_ _)); refine blk_put (cs := #[.int .i64 0, .int .i64 0, .int .i64 0, .int .i64 0, .int .i64 0, .bool false]) ?_ 0 _ rfl; (with_reducible repeat (first | refine blk_drewN ?_ _ | refine blk_drew ?_ | refine blk_alloc ?_ _)); exact BK147.out⟩
              have n2_ : Aside0 (Below w.heap.size w ((((((((w17.setCell ⟨gb147, 0, none⟩ (.int .i64 0)).setCell ⟨gb147, 1, none⟩ (.int .i64 0)).setCell ⟨gb147, 2, none⟩ (.int .i64 0)).setCell ⟨gb147, 3, none⟩ (.int .i64 0)).setCell ⟨gb147, 4, none⟩ (.int .i64 a1)).setCell ⟨gb147, 5, none⟩ (.bool a2)).setCell ⟨gb147, 0, none⟩ (.int .i64 (wrap64 (Int.tdiv (wrap64 ((wrap64 (1 + (wrap64 (Int.tdiv (wrap64 ((Int.tmod t143 t146) - (wrap64 (60 * a1)))) (wrap64 ((wrap64 (60 * a1)) - t144)))))) + (wrap64 ((wrap64 (Int.tdiv t143 t145)) * 10)))) 60)))).setCell ⟨gb147, 1, none⟩ (.int .i64 (Int.tmod (wrap64 ((wrap64 (1 + (wrap64 (Int.tdiv (wrap64 ((Int.tmod t143 t146) - (wrap64 (60 * a1)))) (wrap64 ((wrap64 (60 * a1)) - t144)))))) + (wrap64 ((wrap64 (Int.tdiv t143 t145)) * 10)))) 60)))) := ⟨by repeat (first | (with_reducible first | exact HB.out | apply below_alloc | apply pw_below_drewN | apply below_drew1 | refine below_set ?_ GE140.out | refine below_set ?_ GE147.out) | exact HB.out)⟩
              (try clear BK140)
              (try clear BK147)
              (try clear HB)
              generalize ((((((((w17.setCell ⟨gb147, 0, none⟩ (.int .i64 0)).setCell ⟨gb147, 1, none⟩ (.int .i64 0)).setCell ⟨gb147, 2, none⟩ (.int .i64 0)).setCell ⟨gb147, 3, none⟩ (.int .i64 0)).setCell ⟨gb147, 4, none⟩ (.int .i64 a1)).setCell ⟨gb147, 5, none⟩ (.bool a2)).setCell ⟨gb147, 0, none⟩ (.int .i64 (wrap64 (Int.tdiv (wrap64 ((wrap64 (1 + (wrap64 (Int.tdiv (wrap64 ((Int.tmod t143 t146) - (wrap64 (60 * a1)))) (wrap64 ((wrap64 (60 * a1)) - t144)))))) + (wrap64 ((wrap64 (Int.tdiv t143 t145)) * 10)))) 60)))).setCell ⟨gb147, 1, none⟩ (.int .i64 (Int.tmod (wrap64 ((wrap64 (1 + (wrap64 (Int.tdiv (wrap64 ((Int.tmod t143 t146) - (wrap64 (60 * a1)))) (wrap64 ((wrap64 (60 * a1)) - t144)))))) + (wrap64 ((wrap64 (Int.tdiv t143 t145)) * 10)))) 60))) = w20 at n0_ n1_ n2_ ⊢
              have BK140 := n0_
              have BK147 := n1_
              have HB := n2_
              clear n0_ n1_ n2_
              have n0_ := Aside0.mk (blk_drew BK140.out)
              have n1_ := Aside0.mk (blk_drew BK147.out)
              have n2_ := Aside0.mk (below_drew1 HB.out)
              clear BK140
              clear BK147
              clear HB
              have BK140 := n0_
              have BK147 := n1_
              have HB := n2_
              clear n0_ n1_ n2_
              refine start_ (n := 10) (S := fun w' => True) (ds := []) #[false, false, false, false, false, false, false, false, false, false] (by kernel_rfl) rfl rfl trivial (fun hHeld => ?_); refine with_tabW timecode_Label.tab17 timecode_Label.bits17 (fun HT_ HW_ => ?_)
              generalize w20.drew = w21 at BK140 BK147 HB hHeld ⊢
              refine pure_ (i := 0) (N := some 79) (v := ?_) (a' := ?_) #[true, false, false, false, false, false, false, false, false, false] rfl rfl (any_of HT_.out (by kernel_rfl)) (fun _ _ _ h => h) (Or.inl ⟨by rfl, ?_⟩) ?_ ?_
              rotate_left
              · intro w'
                go_simp
                with_reducible rfl
              rotate_left
              · simp only [Act.put, List.setIfInBounds_toArray, List.set_cons_zero, List.set_cons_succ, i64_w, i32_w]
                rfl
              refine pure_ (i := 1) (N := some 80) (v := ?_) (a' := ?_) #[true, true, false, false, false, false, false, false, false, false] rfl rfl (any_of HT_.out (by kernel_rfl)) (fun _ _ _ h => h) (Or.inl ⟨by rfl, ?_⟩) ?_ ?_
              rotate_left
              · intro w'
                go_simp
                with_reducible rfl
              rotate_left
              · simp only [Act.put, List.setIfInBounds_toArray, List.set_cons_zero, List.set_cons_succ, i64_w, i32_w]
                rfl
              refine pure_ (i := 2) (N := some 81) (v := ?_) (a' := ?_) #[true, true, true, false, false, false, false, false, false, false] rfl rfl (any_of HT_.out (by kernel_rfl)) (fun _ _ _ h => h) (Or.inl ⟨by rfl, ?_⟩) ?_ ?_
              rotate_left
              · intro w'
                go_simp
                with_reducible rfl
              rotate_left
              · simp only [Act.put, List.setIfInBounds_toArray, List.set_cons_zero, List.set_cons_succ, i64_w, i32_w]
                rfl
              refine pure_ (i := 3) (N := some 82) (v := ?_) (a' := ?_) #[true, true, true, true, false, false, false, false, false, false] rfl rfl (any_of HT_.out (by kernel_rfl)) (fun _ _ _ h => h) (Or.inl ⟨by rfl, ?_⟩) ?_ ?_
              rotate_left
              · intro w'
                go_simp
                with_reducible rfl
              rotate_left
              · simp only [Act.put, List.setIfInBounds_toArray, List.set_cons_zero, List.set_cons_succ, i64_w, i32_w]
                rfl
              refine pure_ (i := 4) (N := some 83) (v := ?_) (a' := ?_) #[true, true, true, true, true, false, false, false, false, false] rfl rfl (any_of HT_.out (by kernel_rfl)) (fun _ _ _ h => h) (Or.inl ⟨by rfl, ?_⟩) ?_ ?_
              rotate_left
              · intro w'
                go_simp
                with_reducible rfl
              rotate_left
              · simp only [Act.put, List.setIfInBounds_toArray, List.set_cons_zero, List.set_cons_succ, i64_w, i32_w]
                rfl
              refine pure_ (i := 5) (N := some 84) (v := ?_) (a' := ?_) #[true, true, true, true, true, true, false, false, false, false] rfl rfl (any_of HT_.out (by kernel_rfl)) (fun _ _ _ h => h) (Or.inl ⟨by rfl, ?_⟩) ?_ ?_
              rotate_left
              · intro w'
                go_simp
                with_reducible rfl
              rotate_left
              · simp only [Act.put, List.setIfInBounds_toArray, List.set_cons_zero, List.set_cons_succ, i64_w, i32_w]
                rfl
              refine pure_ (i := 6) (N := some 85) (v := ?_) (a' := ?_) #[true, true, true, true, true, true, true, false, false, false] rfl rfl (any_of HT_.out (by kernel_rfl)) (fun _ _ _ h => h) (Or.inl ⟨by rfl, ?_⟩) ?_ ?_
              rotate_left
              · intro w'
                go_simp
                with_reducible rfl
              rotate_left
              · simp only [Act.put, List.setIfInBounds_toArray, List.set_cons_zero, List.set_cons_succ, i64_w, i32_w]
                rfl
              refine one_ (i := 7) (N := none) #[true, true, true, true, true, true, true, true, false, false] rfl rfl (one_of HT_.out (by kernel_rfl)) (by decide) (fun K hK => ?_)
              have hs22 : w21.cell? ⟨gb147, 2, none⟩ = some (.int .i64 0) := (blk_cell BK147.out 2).trans rfl
              have hfs22 := blk_frozen BK147.out 2
              have hns22_0 := NB140_147.out
              have hms22_0 := NB147_140.out
              refine skip_ (w1 := ?_) (by rfl) rfl ?_ ?_
              rotate_left
              · go_simp
                rfl
              refine hK.out _ _ trivial (fun hHeld => ?_)
              clear hK K
              refine pure_ (i := 8) (N := some 86) (v := ?_) (a' := ?_) #[true, true, true, true, true, true, true, true, true, false] rfl rfl (any_of HT_.out (by kernel_rfl)) (fun _ _ _ h => h) (Or.inl ⟨by rfl, ?_⟩) ?_ ?_
              rotate_left
              · intro w'
                go_simp
                with_reducible rfl
              rotate_left
              · simp only [Act.put, List.setIfInBounds_toArray, List.set_cons_zero, List.set_cons_succ, i64_w, i32_w]
                rfl
              refine one_ (i := 9) (N := none) #[true, true, true, true, true, true, true, true, true, true] rfl rfl (one_of HT_.out (by kernel_rfl)) (by decide) (fun K hK => ?_)
              have hs23 : w21.cell? ⟨gb147, 3, none⟩ = some (.int .i64 0) := (blk_cell BK147.out 3).trans rfl
              have hfs23 := blk_frozen BK147.out 3
              have hns23_0 := NB140_147.out
              have hms23_0 := NB147_140.out
              refine skip_ (w1 := ?_) (by rfl) rfl ?_ ?_
              rotate_left
              · go_simp
                rfl
              refine hK.out _ _ trivial (fun hHeld => ?_)
              clear hK K
              refine done_ (done_of HT_.out (by kernel_rfl)) ?_
              have hcz24_0 : w21.cell? ⟨gb147, 0, none⟩ = some (.int .i64 (wrap64 (Int.tdiv (wrap64 ((wrap64 (1 + (wrap64 (Int.tdiv (wrap64 ((Int.tmod t143 t146) - (wrap64 (60 * a1)))) (wrap64 ((wrap64 (60 * a1)) - t144)))))) + (wrap64 ((wrap64 (Int.tdiv t143 t145)) * 10)))) 60))) := (blk_cell BK147.out 0).trans rfl
              have hcz24_1 : w21.cell? ⟨gb147, 1, none⟩ = some (.int .i64 (Int.tmod (wrap64 ((wrap64 (1 + (wrap64 (Int.tdiv (wrap64 ((Int.tmod t143 t146) - (wrap64 (60 * a1)))) (wrap64 ((wrap64 (60 * a1)) - t144)))))) + (wrap64 ((wrap64 (Int.tdiv t143 t145)) * 10)))) 60)) := (blk_cell BK147.out 1).trans rfl
              have hcz24_2 : w21.cell? ⟨gb147, 2, none⟩ = some (.int .i64 0) := (blk_cell BK147.out 2).trans rfl
              have hcz24_3 : w21.cell? ⟨gb147, 3, none⟩ = some (.int .i64 0) := (blk_cell BK147.out 3).trans rfl
              have hcz24_4 : w21.cell? ⟨gb147, 4, none⟩ = some (.int .i64 a1) := (blk_cell BK147.out 4).trans rfl
              have hcz24_5 : w21.cell? ⟨gb147, 5, none⟩ = some (.bool a2) := (blk_cell BK147.out 5).trans rfl
              have hfz24_0 := blk_frozen BK147.out 0
              have hfz24_1 := blk_frozen BK147.out 1
              have hfz24_2 := blk_frozen BK147.out 2
              have hfz24_3 := blk_frozen BK147.out 3
              have hfz24_4 := blk_frozen BK147.out 4
              have hfz24_5 := blk_frozen BK147.out 5
              have hcz25_0 : w21.cell? ⟨gb140, 0, none⟩ = some (.int .i64 0) := (blk_cell BK140.out 0).trans rfl
              have hcz25_1 : w21.cell? ⟨gb140, 1, none⟩ = some (.int .i64 0) := (blk_cell BK140.out 1).trans rfl
              have hcz25_2 : w21.cell? ⟨gb140, 2, none⟩ = some (.int .i64 0) := (blk_cell BK140.out 2).trans rfl
              have hcz25_3 : w21.cell? ⟨gb140, 3, none⟩ = some (.int .i64 0) := (blk_cell BK140.out 3).trans rfl
              have hcz25_4 : w21.cell? ⟨gb140, 4, none⟩ = some (.int .i64 0) := (blk_cell BK140.out 4).trans rfl
              have hcz25_5 : w21.cell? ⟨gb140, 5, none⟩ = some (.bool false) := (blk_cell BK140.out 5).trans rfl
              have hfz25_0 := blk_frozen BK140.out 0
              have hfz25_1 := blk_frozen BK140.out 1
              have hfz25_2 := blk_frozen BK140.out 2
              have hfz25_3 := blk_frozen BK140.out 3
              have hfz25_4 := blk_frozen BK140.out 4
              have hfz25_5 := blk_frozen BK140.out 5
              try go_wp2
              refine bodyPost_ret (results_ct rfl _ _ gb140 34 #[.int .i64 (wrap64 (Int.tdiv (wrap64 ((wrap64 (1 + (wrap64 (Int.tdiv (wrap64 ((Int.tmod t143 t146) - (wrap64 (60 * a1)))) (wrap64 ((wrap64 (60 * a1)) - t144)))))) + (wrap64 ((wrap64 (Int.tdiv t143 t145)) * 10)))) 60)), .int .i64 (Int.tmod (wrap64 ((wrap64 (1 + (wrap64 (Int.tdiv (wrap64 ((Int.tmod t143 t146) - (wrap64 (60 * a1)))) (wrap64 ((wrap64 (60 * a1)) - t144)))))) + (wrap64 ((wrap64 (Int.tdiv t143 t145)) * 10)))) 60), .int .i64 (wrap64 (Int.tdiv (wrap64 ((Int.tmod (wrap64 ((Int.tmod t143 t146) - (wrap64 (60 * a1)))) (wrap64 ((wrap64 (60 * a1)) - t144))) + t144)) a1)), .int .i64 (Int.tmod (wrap64 ((Int.tmod (wrap64 ((Int.tmod t143 t146) - (wrap64 (60 * a1)))) (wrap64 ((wrap64 (60 * a1)) - t144))) + t144)) a1), .int .i64 a1, .bool a2] (0, 0) _ rfl (by (with_reducible repeat (first | refine blk_drewN ?_ _ | refine blk_drew ?_ | refine blk_alloc ?_ _)); refine blk_put (cs := #[.int .i64 (wrap64 (Int.tdiv (wrap64 ((wrap64 (1 + (wrap64 (Int.tdiv (wrap64 ((Int.tmod t143 t146) - (wrap64 (60 * a1)))) (wrap64 ((wrap64 (60 * a1)) - t144)))))) + (wrap64 ((wrap64 (Int.tdiv t143 t145)) * 10)))) 60)), .int .i64 (Int.tmod (wrap64 ((wrap64 (1 + (wrap64 (Int.tdiv (wrap64 ((Int.tmod t143 t146) - (wrap64 (60 * a1)))) (wrap64 ((wrap64 (60 * a1)) - t144)))))) + (wrap64 ((wrap64 (Int.tdiv t143 t145)) * 10)))) 60), .int .i64 (wrap64 (Int.tdiv (wrap64 ((Int.tmod (wrap64 ((Int.tmod t143 t146) - (wrap64 (60 * a1)))) (wrap64 ((wrap64 (60 * a1)) - t144))) + t144)) a1)), .int .i64 (Int.tmod (wrap64 ((Int.tmod (wrap64 ((Int.tmod t143 t146) - (wrap64 (60 * a1)))) (wrap64 ((wrap64 (60 * a1)) - t144))) + t144)) a1), .int .i64 a1, .bool false]) ?_ 5 _ rfl; (with_reducible repeat (first | refine blk_drewN ?_ _ | refine blk_drew ?_ | refine blk_alloc ?_ _)); refine blk_put (cs := #[.int .i64 (wrap64 (Int.tdiv (wrap64 ((wrap64 (1 + (wrap64 (Int.tdiv (wrap64 ((Int.tmod t143 t146) - (wrap64 (60 * a1)))) (wrap64 ((wrap64 (60 * a1)) - t144)))))) + (wrap64 ((wrap64 (Int.tdiv t143 t145)) * 10)))) 60)), .int .i64 (Int.tmod (wrap64 ((wrap64 (1 + (wrap64 (Int.tdiv (wrap64 ((Int.tmod t143 t146) - (wrap64 (60 * a1)))) (wrap64 ((wrap64 (60 * a1)) - t144)))))) + (wrap64 ((wrap64 (Int.tdiv t143 t145)) * 10)))) 60), .int .i64 (wrap64 (Int.tdiv (wrap64 ((Int.tmod (wrap64 ((Int.tmod t143 t146) - (wrap64 (60 * a1)))) (wrap64 ((wrap64 (60 * a1)) - t144))) + t144)) a1)), .int .i64 (Int.tmod (wrap64 ((Int.tmod (wrap64 ((Int.tmod t143 t146) - (wrap64 (60 * a1)))) (wrap64 ((wrap64 (60 * a1)) - t144))) + t144)) a1), .int .i64 0, .bool false]) ?_ 4 _ rfl; (with_reducible repeat (first | refine blk_drewN ?_ _ | refine blk_drew ?_ | refine blk_alloc ?_ _)); refine blk_put (cs := #[.int .i64 (wrap64 (Int.tdiv (wrap64 ((wrap64 (1 + (wrap64 (Int.tdiv (wrap64 ((Int.tmod t143 t146) - (wrap64 (60 * a1)))) (wrap64 ((wrap64 (60 * a1)) - t144)))))) + (wrap64 ((wrap64 (Int.tdiv t143 t145)) * 10)))) 60)), .int .i64 (Int.tmod (wrap64 ((wrap64 (1 + (wrap64 (Int.tdiv (wrap64 ((Int.tmod t143 t146) - (wrap64 (60 * a1)))) (wrap64 ((wrap64 (60 * a1)) - t144)))))) + (wrap64 ((wrap64 (Int.tdiv t143 t145)) * 10)))) 60), .int .i64 (wrap64 (Int.tdiv (wrap64 ((Int.tmod (wrap64 ((Int.tmod t143 t146) - (wrap64 (60 * a1)))) (wrap64 ((wrap64 (60 * a1)) - t144))) + t144)) a1)), .int .i64 0, .int .i64 0, .bool false]) ?_ 3 _ rfl; (with_reducible repeat (first | refine blk_drewN ?_ _ | refine blk_drew ?_ | refine blk_alloc ?_ _)); refine blk_put (cs := #[.int .i64 (wrap64 (Int.tdiv (wrap64 ((wrap64 (1 + (wrap64 (Int.tdiv (wrap64 ((Int.tmod t143 t146) - (wrap64 (60 * a1)))) (wrap64 ((wrap64 (60 * a1)) - t144)))))) + (wrap64 ((wrap64 (Int.tdiv t143 t145)) * 10)))) 60)), .int .i64 (Int.tmod (wrap64 ((wrap64 (1 + (wrap64 (Int.tdiv (wrap64 ((Int.tmod t143 t146) - (wrap64 (60 * a1)))) (wrap64 ((wrap64 (60 * a1)) - t144)))))) + (wrap64 ((wrap64 (Int.tdiv t143 t145)) * 10)))) 60), .int .i64 0, .int .i64 0, .int .i64 0, .bool false]) ?_ 2 _ rfl; (with_reducible repeat (first | refine blk_drewN ?_ _ | refine blk_drew ?_ | refine blk_alloc ?_ _)); refine blk_put (cs := #[.int .i64 (wrap64 (Int.tdiv (wrap64 ((wrap64 (1 + (wrap64 (Int.tdiv (wrap64 ((Int.tmod t143 t146) - (wrap64 (60 * a1)))) (wrap64 ((wrap64 (60 * a1)) - t144)))))) + (wrap64 ((wrap64 (Int.tdiv t143 t145)) * 10)))) 60)), .int .i64 0, .int .i64 0, .int .i64 0, .int .i64 0, .bool false]) ?_ 1 _ rfl; (with_reducible repeat (first | refine blk_drewN ?_ _ | refine blk_drew ?_ | refine blk_alloc ?_ _)); refine blk_put (cs := #[.int .i64 0, .int .i64 0, .int .i64 0, .int .i64 0, .int .i64 0, .bool false]) ?_ 0 _ rfl; (with_reducible repeat (first | refine blk_drewN ?_ _ | refine blk_drew ?_ | refine blk_alloc ?_ _)); refine blk_far ?_ NB140_147.out _; (with_reducible repeat (first | refine blk_drewN ?_ _ | refine blk_drew ?_ | refine blk_alloc ?_ _)); refine blk_far ?_ NB140_147.out _; (with_reducible repeat (first | refine blk_drewN ?_ _ | refine blk_drew ?_ | refine blk_alloc ?_ _)); exact BK140.out) Try.underlying34 rfl (by kernel_rfl)) rfl ?_
              exact ⟨by first | rfl | (simp [errW_none, errW_some] <;> rfl) | (simp [*, errW_none, errW_some] <;> rfl), by repeat (first | (with_reducible first | exact HB.out | apply below_alloc | apply pw_below_drewN | apply below_drew1 | refine below_set ?_ GE140.out | refine below_set ?_ GE147.out) | exact HB.out)⟩
        · rw [if_neg c12] at H
          have c12b0 : decide ((wrap64 (60 * a1)) ≤ (Int.tmod t143 t146)) = false := decide_eq_false c12
          clear c12
          by_cases c26 : a1 = 0
          · rw [if_pos c26] at H
            exact absurd H (by simp)
          · rw [if_neg c26] at H
            have c26b0 : (a1 == 0) = false := beq_eq_false_iff_ne.mpr c26
            have c26b1 : (a1 != 0) = true := bne_iff_ne.mpr c26
            simp only [Option.some.injEq, Prod.mk.injEq] at H
            obtain ⟨rfl, rfl, rfl, rfl, rfl, rfl, rfl⟩ := H
            go_enter Try.func23, Try.ntmps23
            try go_wp2_with (first | ((with_reducible refine gate_dst (N := 6) rfl ?_); refine box_event ?hg (N := 6) ?hd (cs := #[.int .i64 0, .int .i64 0, .int .i64 0, .int .i64 0, .int .i64 0, .bool false]) (t := 34) ?hr ?_; (case hd => rfl); (case hg => rfl); (case hr => first | (go_simp; done) | (go_simp; rfl)); intro gb140 hg w27 hbox hb; have n0_ := Aside0.mk (below_step (by repeat (first | (with_reducible first | exact HB.out | apply below_alloc | apply pw_below_drewN | apply below_drew1) | exact HB.out)) hb); have n1_ := Aside0.mk (hbox); have n2_ := Aside0.mk ((by rw [hg]; exact (below_size (by repeat (first | (with_reducible first | exact HB.out | apply below_alloc | apply pw_below_drewN | apply below_drew1) | exact HB.out))) : w.heap.size ≤ gb140)); have n3_ := Aside0.mk ((by rw [hg]; exact (below_size (by repeat (first | (with_reducible first | exact HB.out | apply below_alloc | apply pw_below_drewN | apply below_drew1) | exact HB.out))) : w.heap.size ≤ gb140)); clear HB; have HB := n0_; have BK140 := n1_; have GW140 := n2_; have GE140 := n3_; clear n0_ n1_ n2_ n3_; clear hb hbox hg) | ((with_reducible refine gate_callee (f := 21) rfl ?_); refine goesL_ (some 19) rfl rfl Try.func21 (by kernel_rfl) rfl #[.int .i64 a1, .bool a2] rfl (by (try simp only [List.map_toArray, List.map_cons, List.map_nil]); first | done | rfl | (simp only [List.length_drop, List.length_take]; rfl)) ?_; (with_reducible refine (timecode_Day.calls k a1 a2 t141 t142 _ A4.out).mono ?_); rintro e w28 ⟨rfl, hb⟩; refine ⟨_, rfl, ?_⟩; have n0_ := Aside0.mk (blk_below (g := gb140) (o := .cells #[.int .i64 0, .int .i64 0, .int .i64 0, .int .i64 0, .int .i64 0, .bool false] 34 (0, 0)) (by (with_reducible repeat (first | refine blk_drewN ?_ _ | refine blk_drew ?_ | refine blk_alloc ?_ _)); exact BK140.out) hb); have n1_ := Aside0.mk (below_step (by repeat (first | (with_reducible first | exact HB.out | apply below_alloc | apply pw_below_drewN | apply below_drew1 | refine below_set ?_ GE140.out) | exact HB.out)) hb); clear BK140; clear HB; have BK140 := n0_; have HB := n1_; clear n0_ n1_; (try clear hb); (try clear hb2); (try clear hk); (try clear hi)) | ((with_reducible refine gate_callee (f := 42) rfl ?_); refine goesL_ (some 28) rfl rfl Try.func42 (by kernel_rfl) rfl #[.int .i64 a0, .int .i64 t141] rfl (by (try simp only [List.map_toArray, List.map_cons, List.map_nil]); first | done | rfl | (simp only [List.length_drop, List.length_take]; rfl)) ?_; (with_reducible refine (timecode_within.calls a0 t141 t143 _ A6.out).mono ?_); rintro e w' ⟨rfl, ⟨nd, rfl⟩⟩; refine ⟨_, rfl, ?_⟩; (try (rw [drewN_self w28]; generalize hq_ : World.drewN w28 _ = w28; have n0_ : Aside0 (w28.heap[gb140]? = some (.cells #[.int .i64 0, .int .i64 0, .int .i64 0, .int .i64 0, .int .i64 0, .bool false] 34 (0, 0))) := ⟨by rw [← hq_]; exact (by (with_reducible repeat (first | refine blk_drewN ?_ _ | refine blk_drew ?_ | refine blk_alloc ?_ _)); exact BK140.out)⟩; have n1_ : Aside0 (Below w.heap.size w w28) := ⟨by rw [← hq_]; exact (by repeat (first | (with_reducible first | exact HB.out | apply below_alloc | apply pw_below_drewN | apply below_drew1 | refine below_set ?_ GE140.out) | exact HB.out))⟩; clear BK140 HB hq_; have BK140 := n0_; have HB := n1_; clear n0_ n1_))) | ((with_reducible refine gate_callee (f := 43) rfl ?_); refine goesL_ (some 32) rfl rfl Try.func43 (by kernel_rfl) rfl #[.int .i64 a1, .bool a2] rfl (by (try simp only [List.map_toArray, List.map_cons, List.map_nil]); first | done | rfl | (simp only [List.length_drop, List.length_take]; rfl)) ?_; (with_reducible refine (timecode_dropped.calls a1 a2 t144 _ A7.out).mono ?_); rintro e w' ⟨rfl, ⟨nd, rfl⟩⟩; refine ⟨_, rfl, ?_⟩; (try (rw [drewN_self w28]; generalize hq_ : World.drewN w28 _ = w28; have n0_ : Aside0 (w28.heap[gb140]? = some (.cells #[.int .i64 0, .int .i64 0, .int .i64 0, .int .i64 0, .int .i64 0, .bool false] 34 (0, 0))) := ⟨by rw [← hq_]; exact (by (with_reducible repeat (first | refine blk_drewN ?_ _ | refine blk_drew ?_ | refine blk_alloc ?_ _)); exact BK140.out)⟩; have n1_ : Aside0 (Below w.heap.size w w28) := ⟨by rw [← hq_]; exact (by repeat (first | (with_reducible first | exact HB.out | apply below_alloc | apply pw_below_drewN | apply below_drew1 | refine below_set ?_ GE140.out) | exact HB.out))⟩; clear BK140 HB hq_; have BK140 := n0_; have HB := n1_; clear n0_ n1_))) | ((with_reducible refine gate_callee (f := 40) rfl ?_); refine goesL_ (some 36) rfl rfl Try.func40 (by kernel_rfl) rfl #[.int .i64 a1, .bool a2] rfl (by (try simp only [List.map_toArray, List.map_cons, List.map_nil]); first | done | rfl | (simp only [List.length_drop, List.length_take]; rfl)) ?_; (with_reducible refine (timecode_tenMinutes.calls a1 a2 t145 _ A8.out).mono ?_); rintro e w' ⟨rfl, ⟨nd, rfl⟩⟩; refine ⟨_, rfl, ?_⟩; (try (rw [drewN_self w28]; generalize hq_ : World.drewN w28 _ = w28; have n0_ : Aside0 (w28.heap[gb140]? = some (.cells #[.int .i64 0, .int .i64 0, .int .i64 0, .int .i64 0, .int .i64 0, .bool false] 34 (0, 0))) := ⟨by rw [← hq_]; exact (by (with_reducible repeat (first | refine blk_drewN ?_ _ | refine blk_drew ?_ | refine blk_alloc ?_ _)); exact BK140.out)⟩; have n1_ : Aside0 (Below w.heap.size w w28) := ⟨by rw [← hq_]; exact (by repeat (first | (with_reducible first | exact HB.out | apply below_alloc | apply pw_below_drewN | apply below_drew1 | refine below_set ?_ GE140.out) | exact HB.out))⟩; clear BK140 HB hq_; have BK140 := n0_; have HB := n1_; clear n0_ n1_))) | ((with_reducible refine gate_callee (f := 40) rfl ?_); refine goesL_ (some 42) rfl rfl Try.func40 (by kernel_rfl) rfl #[.int .i64 a1, .bool a2] rfl (by (try simp only [List.map_toArray, List.map_cons, List.map_nil]); first | done | rfl | (simp only [List.length_drop, List.length_take]; rfl)) ?_; (with_reducible refine (timecode_tenMinutes.calls a1 a2 t146 _ A10.out).mono ?_); rintro e w' ⟨rfl, ⟨nd, rfl⟩⟩; refine ⟨_, rfl, ?_⟩; (try (rw [drewN_self w28]; generalize hq_ : World.drewN w28 _ = w28; have n0_ : Aside0 (w28.heap[gb140]? = some (.cells #[.int .i64 0, .int .i64 0, .int .i64 0, .int .i64 0, .int .i64 0, .bool false] 34 (0, 0))) := ⟨by rw [← hq_]; exact (by (with_reducible repeat (first | refine blk_drewN ?_ _ | refine blk_drew ?_ | refine blk_alloc ?_ _)); exact BK140.out)⟩; have n1_ : Aside0 (Below w.heap.size w w28) := ⟨by rw [← hq_]; exact (by repeat (first | (with_reducible first | exact HB.out | apply below_alloc | apply pw_below_drewN | apply below_drew1 | refine below_set ?_ GE140.out) | exact HB.out))⟩; clear BK140 HB hq_; have BK140 := n0_; have HB := n1_; clear n0_ n1_))) | ((with_reducible refine gate_dst (N := 15) rfl ?_); refine box_event ?hg (N := 15) ?hd (cs := #[.int .i64 0, .int .i64 0, .int .i64 0, .int .i64 0, .int .i64 0, .bool false]) (t := 34) ?hr ?_; (case hd => rfl); (case hg => rfl); (case hr => first | (go_simp; done) | (go_simp; rfl)); intro gb148 hg w29 hbox hb; have n0_ := Aside0.mk (blk_below (g := gb140) (o := .cells #[.int .i64 0, .int .i64 0, .int .i64 0, .int .i64 0, .int .i64 0, .bool false] 34 (0, 0)) (by (with_reducible repeat (first | refine blk_drewN ?_ _ | refine blk_drew ?_ | refine blk_alloc ?_ _)); exact BK140.out) hb); have n1_ := Aside0.mk (below_step (by repeat (first | (with_reducible first | exact HB.out | apply below_alloc | apply pw_below_drewN | apply below_drew1 | refine below_set ?_ GE140.out) | exact HB.out)) hb); have n2_ := Aside0.mk (hbox); have n3_ := Aside0.mk ((by rw [hg]; exact (below_size (by repeat (first | (with_reducible first | exact HB.out | apply below_alloc | apply pw_below_drewN | apply below_drew1 | refine below_set ?_ GE140.out) | exact HB.out))) : w.heap.size ≤ gb148)); have n4_ := Aside0.mk ((by rw [hg]; exact (below_size (by repeat (first | (with_reducible first | exact HB.out | apply below_alloc | apply pw_below_drewN | apply below_drew1 | refine below_set ?_ GE140.out) | exact HB.out))) : w.heap.size ≤ gb148)); have n5_ := Aside0.mk ((by rw [hg]; exact Nat.ne_of_lt (blk_lt (g := gb140) (o := .cells #[.int .i64 0, .int .i64 0, .int .i64 0, .int .i64 0, .int .i64 0, .bool false] 34 (0, 0)) (by (with_reducible repeat (first | refine blk_drewN ?_ _ | refine blk_drew ?_ | refine blk_alloc ?_ _)); exact BK140.out)) : gb140 ≠ gb148)); have n6_ := Aside0.mk ((by rw [hg]; exact Nat.ne_of_gt (blk_lt (g := gb140) (o := .cells #[.int .i64 0, .int .i64 0, .int .i64 0, .int .i64 0, .int .i64 0, .bool false] 34 (0, 0)) (by (with_reducible repeat (first | refine blk_drewN ?_ _ | refine blk_drew ?_ | refine blk_alloc ?_ _)); exact BK140.out)) : gb148 ≠ gb140)); clear BK140; clear HB; have BK140 := n0_; have HB := n1_; have BK148 := n2_; have GW148 := n3_; have GE148 := n4_; have NB140_148 := n5_; have NB148_140 := n6_; clear n0_ n1_ n2_ n3_ n4_ n5_ n6_; clear hb hbox hg; have hnb30 := NB148_140.out; have hnc30 := NB140_148.out; have hcz31_0 : w29.cell? ⟨gb148, 0, none⟩ = some (.int .i64 0) := (blk_cell BK148.out 0).trans rfl; have hcz31_1 : w29.cell? ⟨gb148, 1, none⟩ = some (.int .i64 0) := (blk_cell BK148.out 1).trans rfl; have hcz31_2 : w29.cell? ⟨gb148, 2, none⟩ = some (.int .i64 0) := (blk_cell BK148.out 2).trans rfl; have hcz31_3 : w29.cell? ⟨gb148, 3, none⟩ = some (.int .i64 0) := (blk_cell BK148.out 3).trans rfl; have hcz31_4 : w29.cell? ⟨gb148, 4, none⟩ = some (.int .i64 0) := (blk_cell BK148.out 4).trans rfl; have hcz31_5 : w29.cell? ⟨gb148, 5, none⟩ = some (.bool false) := (blk_cell BK148.out 5).trans rfl; have hfz31_0 := blk_frozen BK148.out 0; have hfz31_1 := blk_frozen BK148.out 1; have hfz31_2 := blk_frozen BK148.out 2; have hfz31_3 := blk_frozen BK148.out 3; have hfz31_4 := blk_frozen BK148.out 4; have hfz31_5 := blk_frozen BK148.out 5))
            have n0_ : Aside0 (((((((((w29.setCell ⟨gb148, 0, none⟩ (.int .i64 0)).setCell ⟨gb148, 1, none⟩ (.int .i64 0)).setCell ⟨gb148, 2, none⟩ (.int .i64 0)).setCell ⟨gb148, 3, none⟩ (.int .i64 0)).setCell ⟨gb148, 4, none⟩ (.int .i64 a1)).setCell ⟨gb148, 5, none⟩ (.bool a2)).setCell ⟨gb148, 0, none⟩ (.int .i64 (wrap64 (Int.tdiv (wrap64 ((wrap64 ((wrap64 (Int.tdiv t143 t145)) * 10)))) 60)))).setCell ⟨gb148, 1, none⟩ (.int .i64 (Int.tmod (wrap64 ((wrap64 ((wrap64 (Int.tdiv t143 t145)) * 10)))) 60))).heap[gb140]? = some (.cells #[.int .i64 0, .int .i64 0, .int .i64 0, .int .i64 0, .int .i64 0, .bool false] 34 (0, 0))) := ⟨by (with_reducible repeat (first | refine blk_drewN ?_ _ | refine blk_drew ?_ | refine blk_alloc ?_ _)); refine blk_far ?_ NB140_148.out _; (with_reducible repeat (first | refine blk_drewN ?_ _ | refine blk_drew ?_ | refine blk_alloc ?_ _)); refine blk_far ?_ NB140_148.out _; (with_reducible repeat (first | refine blk_drewN ?_ _ | refine blk_drew ?_ | refine blk_alloc ?_ _)); refine blk_far ?_ NB140_148.out _; (with_reducible repeat (first | refine blk_drewN ?_ _ | refine blk_drew ?_ | refine blk_alloc ?_ _)); refine blk_far ?_ NB140_148.out _; (with_reducible repeat (first | refine blk_drewN ?_ _ | refine blk_drew ?_ | refine blk_alloc ?_ _)); refine blk_far ?_ NB140_148.out _; (with_reducible repeat (first | refine blk_drewN ?_ _ | refine blk_drew ?_ | refine blk_alloc ?_ _)); refine blk_far ?_ NB140_148.out _; (with_reducible repeat (first | refine blk_drewN ?_ _ | refine blk_drew ?_ | refine blk_alloc ?_ _)); refine blk_far ?_ NB140_148.out _; (with_reducible repeat (first | refine blk_drewN ?_ _ | refine blk_drew ?_ | refine blk_alloc ?_ _)); refine blk_far ?_ NB140_148.out _; (with_reducible repeat (first | refine blk_drewN ?_ _ | refine blk_drew ?_ | refine blk_alloc ?_ _)); exact BK140.out⟩
            have n1_ : Aside0 (((((((((w29.setCell ⟨gb148, 0, none⟩ (.int .i64 0)).setCell ⟨gb148, 1, none⟩ (.int .i64 0)).setCell ⟨gb148, 2, none⟩ (.int .i64 0)).setCell ⟨gb148, 3, none⟩ (.int .i64 0)).setCell ⟨gb148, 4, none⟩ (.int .i64 a1)).setCell ⟨gb148, 5, none⟩ (.bool a2)).setCell ⟨gb148, 0, none⟩ (.int .i64 (wrap64 (Int.tdiv (wrap64 ((wrap64 ((wrap64 (Int.tdiv t143 t145)) * 10)))) 60)))).setCell ⟨gb148, 1, none⟩ (.int .i64 (Int.tmod (wrap64 ((wrap64 ((wrap64 (Int.tdiv t143 t145)) * 10)))) 60))).heap[gb148]? = some (.cells #[.int .i64 (wrap64 (Int.tdiv (wrap64 ((wrap64 ((wrap64 (Int.tdiv t143 t145)) * 10)))) 60)), .int .i64 (Int.tmod (wrap64 ((wrap64 ((wrap64 (Int.tdiv t143 t145)) * 10)))) 60), .int .i64 0, .int .i64 0, .int .i64 a1, .bool a2] 34 (0, 0))) := ⟨by (with_reducible repeat (first | refine blk_drewN ?_ _ | refine blk_drew ?_ | refine blk_alloc ?_ _)); refine blk_put (cs := #[.int .i64 (wrap64 (Int.tdiv (wrap64 ((wrap64 ((wrap64 (Int.tdiv t143 t145)) * 10)))) 60)), .int .i64 0, .int .i64 0, .int .i64 0, .int .i64 a1, .bool a2]) ?_ 1 _ rfl; (with_reducible repeat (first | refine blk_drewN ?_ _ | refine blk_drew ?_ | refine blk_alloc ?_ _)); refine blk_put (cs := #[.int .i64 0, .int .i64 0, .int .i64 0, .int .i64 0, .int .i64 a1, .bool a2]) ?_ 0 _ rfl; (with_reducible repeat (first | refine blk_drewN ?_ _ | refine blk_drew ?_ | refine blk_alloc ?_ _)); refine blk_put (cs := #[.int .i64 0, .int .i64 0, .int .i64 0, .int .i64 0, .int .i64 a1, .bool false]) ?_ 5 _ rfl; (with_reducible repeat (first | refine blk_drewN ?_ _ | refine blk_drew ?_ | refine blk_alloc ?_ _)); refine blk_put (cs := #[.int .i64 0, .int .i64 0, .int .i64 0, .int .i64 0, .int .i64 0, .bool false]) ?_ 4 _ rfl; (with_reducible repeat (first | refine blk_drewN ?_ _ | refine blk_drew ?_ | refine blk_alloc ?_ _)); refine blk_put (cs := #[.int .i64 0, .int .i64 0, .int .i64 0, .int .i64 0, .int .i64 0, .bool false]) ?_ 3 _ rfl; (with_reducible repeat (first | refine blk_drewN ?_ _ | refine blk_drew ?_ | refine blk_alloc ?_ _)); refine blk_put (cs := #[.int .i64 0, .int .i64 0, .int .i64 0, .int .i64 0, .int .i64 0, .bool false]) ?_ 2 _ rfl; (with_reducible repeat (first | refine blk_drewN ?_ _ | refine blk_drew ?_ | refine blk_alloc ?_ _)); refine blk_put (cs := #[.int .i64 0, .int .i64 0, .int .i64 0, .int .i64 0, .int .i64 0, .bool false]) ?_ 1 _ rfl; (with_reducible repeat (first | refine blk_drewN ?_ _ | refine blk_drew ?_ | refine blk_alloc ?_ _)); refine blk_put (cs := #[.int .i64 0, .int .i64 0, .int .i64 0, .int .i64 0, .int .i64 0, .bool false]) ?_ 0 _ rfl; (with_reducible repeat (first | refine blk_drewN ?_ _ | refine blk_drew ?_ | refine blk_alloc ?_ _)); exact BK148.out⟩
            have n2_ : Aside0 (Below w.heap.size w ((((((((w29.setCell ⟨gb148, 0, none⟩ (.int .i64 0)).setCell ⟨gb148, 1, none⟩ (.int .i64 0)).setCell ⟨gb148, 2, none⟩ (.int .i64 0)).setCell ⟨gb148, 3, none⟩ (.int .i64 0)).setCell ⟨gb148, 4, none⟩ (.int .i64 a1)).setCell ⟨gb148, 5, none⟩ (.bool a2)).setCell ⟨gb148, 0, none⟩ (.int .i64 (wrap64 (Int.tdiv (wrap64 ((wrap64 ((wrap64 (Int.tdiv t143 t145)) * 10)))) 60)))).setCell ⟨gb148, 1, none⟩ (.int .i64 (Int.tmod (wrap64 ((wrap64 ((wrap64 (Int.tdiv t143 t145)) * 10)))) 60)))) := ⟨by repeat (first | (with_reducible first | exact HB.out | apply below_alloc | apply pw_below_drewN | apply below_drew1 | refine below_set ?_ GE140.out | refine below_set ?_ GE148.out) | exact HB.out)⟩
            (try clear BK140)
            (try clear BK148)
            (try clear HB)
            generalize ((((((((w29.setCell ⟨gb148, 0, none⟩ (.int .i64 0)).setCell ⟨gb148, 1, none⟩ (.int .i64 0)).setCell ⟨gb148, 2, none⟩ (.int .i64 0)).setCell ⟨gb148, 3, none⟩ (.int .i64 0)).setCell ⟨gb148, 4, none⟩ (.int .i64 a1)).setCell ⟨gb148, 5, none⟩ (.bool a2)).setCell ⟨gb148, 0, none⟩ (.int .i64 (wrap64 (Int.tdiv (wrap64 ((wrap64 ((wrap64 (Int.tdiv t143 t145)) * 10)))) 60)))).setCell ⟨gb148, 1, none⟩ (.int .i64 (Int.tmod (wrap64 ((wrap64 ((wrap64 (Int.tdiv t143 t145)) * 10)))) 60))) = w32 at n0_ n1_ n2_ ⊢
            have BK140 := n0_
            have BK148 := n1_
            have HB := n2_
            clear n0_ n1_ n2_
            have n0_ := Aside0.mk (blk_drew BK140.out)
            have n1_ := Aside0.mk (blk_drew BK148.out)
            have n2_ := Aside0.mk (below_drew1 HB.out)
            clear BK140
            clear BK148
            clear HB
            have BK140 := n0_
            have BK148 := n1_
            have HB := n2_
            clear n0_ n1_ n2_
            refine start_ (n := 10) (S := fun w' => True) (ds := []) #[false, false, false, false, false, false, false, false, false, false] (by kernel_rfl) rfl rfl trivial (fun hHeld => ?_); refine with_tabW timecode_Label.tab17 timecode_Label.bits17 (fun HT_ HW_ => ?_)
            generalize w32.drew = w33 at BK140 BK148 HB hHeld ⊢
            refine pure_ (i := 0) (N := some 79) (v := ?_) (a' := ?_) #[true, false, false, false, false, false, false, false, false, false] rfl rfl (any_of HT_.out (by kernel_rfl)) (fun _ _ _ h => h) (Or.inl ⟨by rfl, ?_⟩) ?_ ?_
            rotate_left
            · intro w'
              go_simp
              with_reducible rfl
            rotate_left
            · simp only [Act.put, List.setIfInBounds_toArray, List.set_cons_zero, List.set_cons_succ, i64_w, i32_w]
              rfl
            refine pure_ (i := 1) (N := some 80) (v := ?_) (a' := ?_) #[true, true, false, false, false, false, false, false, false, false] rfl rfl (any_of HT_.out (by kernel_rfl)) (fun _ _ _ h => h) (Or.inl ⟨by rfl, ?_⟩) ?_ ?_
            rotate_left
            · intro w'
              go_simp
              with_reducible rfl
            rotate_left
            · simp only [Act.put, List.setIfInBounds_toArray, List.set_cons_zero, List.set_cons_succ, i64_w, i32_w]
              rfl
            refine pure_ (i := 2) (N := some 81) (v := ?_) (a' := ?_) #[true, true, true, false, false, false, false, false, false, false] rfl rfl (any_of HT_.out (by kernel_rfl)) (fun _ _ _ h => h) (Or.inl ⟨by rfl, ?_⟩) ?_ ?_
            rotate_left
            · intro w'
              go_simp
              with_reducible rfl
            rotate_left
            · simp only [Act.put, List.setIfInBounds_toArray, List.set_cons_zero, List.set_cons_succ, i64_w, i32_w]
              rfl
            refine pure_ (i := 3) (N := some 82) (v := ?_) (a' := ?_) #[true, true, true, true, false, false, false, false, false, false] rfl rfl (any_of HT_.out (by kernel_rfl)) (fun _ _ _ h => h) (Or.inl ⟨by rfl, ?_⟩) ?_ ?_
            rotate_left
            · intro w'
              go_simp
              with_reducible rfl
            rotate_left
            · simp only [Act.put, List.setIfInBounds_toArray, List.set_cons_zero, List.set_cons_succ, i64_w, i32_w]
              rfl
            refine pure_ (i := 4) (N := some 83) (v := ?_) (a' := ?_) #[true, true, true, true, true, false, false, false, false, false] rfl rfl (any_of HT_.out (by kernel_rfl)) (fun _ _ _ h => h) (Or.inl ⟨by rfl, ?_⟩) ?_ ?_
            rotate_left
            · intro w'
              go_simp
              with_reducible rfl
            rotate_left
            · simp only [Act.put, List.setIfInBounds_toArray, List.set_cons_zero, List.set_cons_succ, i64_w, i32_w]
              rfl
            refine pure_ (i := 5) (N := some 84) (v := ?_) (a' := ?_) #[true, true, true, true, true, true, false, false, false, false] rfl rfl (any_of HT_.out (by kernel_rfl)) (fun _ _ _ h => h) (Or.inl ⟨by rfl, ?_⟩) ?_ ?_
            rotate_left
            · intro w'
              go_simp
              with_reducible rfl
            rotate_left
            · simp only [Act.put, List.setIfInBounds_toArray, List.set_cons_zero, List.set_cons_succ, i64_w, i32_w]
              rfl
            refine pure_ (i := 6) (N := some 85) (v := ?_) (a' := ?_) #[true, true, true, true, true, true, true, false, false, false] rfl rfl (any_of HT_.out (by kernel_rfl)) (fun _ _ _ h => h) (Or.inl ⟨by rfl, ?_⟩) ?_ ?_
            rotate_left
            · intro w'
              go_simp
              with_reducible rfl
            rotate_left
            · simp only [Act.put, List.setIfInBounds_toArray, List.set_cons_zero, List.set_cons_succ, i64_w, i32_w]
              rfl
            refine one_ (i := 7) (N := none) #[true, true, true, true, true, true, true, true, false, false] rfl rfl (one_of HT_.out (by kernel_rfl)) (by decide) (fun K hK => ?_)
            have hs34 : w33.cell? ⟨gb148, 2, none⟩ = some (.int .i64 0) := (blk_cell BK148.out 2).trans rfl
            have hfs34 := blk_frozen BK148.out 2
            have hns34_0 := NB140_148.out
            have hms34_0 := NB148_140.out
            refine skip_ (w1 := ?_) (by rfl) rfl ?_ ?_
            rotate_left
            · go_simp
              rfl
            refine hK.out _ _ trivial (fun hHeld => ?_)
            clear hK K
            refine pure_ (i := 8) (N := some 86) (v := ?_) (a' := ?_) #[true, true, true, true, true, true, true, true, true, false] rfl rfl (any_of HT_.out (by kernel_rfl)) (fun _ _ _ h => h) (Or.inl ⟨by rfl, ?_⟩) ?_ ?_
            rotate_left
            · intro w'
              go_simp
              with_reducible rfl
            rotate_left
            · simp only [Act.put, List.setIfInBounds_toArray, List.set_cons_zero, List.set_cons_succ, i64_w, i32_w]
              rfl
            refine one_ (i := 9) (N := none) #[true, true, true, true, true, true, true, true, true, true] rfl rfl (one_of HT_.out (by kernel_rfl)) (by decide) (fun K hK => ?_)
            have hs35 : w33.cell? ⟨gb148, 3, none⟩ = some (.int .i64 0) := (blk_cell BK148.out 3).trans rfl
            have hfs35 := blk_frozen BK148.out 3
            have hns35_0 := NB140_148.out
            have hms35_0 := NB148_140.out
            refine skip_ (w1 := ?_) (by rfl) rfl ?_ ?_
            rotate_left
            · go_simp
              rfl
            refine hK.out _ _ trivial (fun hHeld => ?_)
            clear hK K
            refine done_ (done_of HT_.out (by kernel_rfl)) ?_
            have hcz36_0 : w33.cell? ⟨gb148, 0, none⟩ = some (.int .i64 (wrap64 (Int.tdiv (wrap64 ((wrap64 ((wrap64 (Int.tdiv t143 t145)) * 10)))) 60))) := (blk_cell BK148.out 0).trans rfl
            have hcz36_1 : w33.cell? ⟨gb148, 1, none⟩ = some (.int .i64 (Int.tmod (wrap64 ((wrap64 ((wrap64 (Int.tdiv t143 t145)) * 10)))) 60)) := (blk_cell BK148.out 1).trans rfl
            have hcz36_2 : w33.cell? ⟨gb148, 2, none⟩ = some (.int .i64 0) := (blk_cell BK148.out 2).trans rfl
            have hcz36_3 : w33.cell? ⟨gb148, 3, none⟩ = some (.int .i64 0) := (blk_cell BK148.out 3).trans rfl
            have hcz36_4 : w33.cell? ⟨gb148, 4, none⟩ = some (.int .i64 a1) := (blk_cell BK148.out 4).trans rfl
            have hcz36_5 : w33.cell? ⟨gb148, 5, none⟩ = some (.bool a2) := (blk_cell BK148.out 5).trans rfl
            have hfz36_0 := blk_frozen BK148.out 0
            have hfz36_1 := blk_frozen BK148.out 1
            have hfz36_2 := blk_frozen BK148.out 2
            have hfz36_3 := blk_frozen BK148.out 3
            have hfz36_4 := blk_frozen BK148.out 4
            have hfz36_5 := blk_frozen BK148.out 5
            have hcz37_0 : w33.cell? ⟨gb140, 0, none⟩ = some (.int .i64 0) := (blk_cell BK140.out 0).trans rfl
            have hcz37_1 : w33.cell? ⟨gb140, 1, none⟩ = some (.int .i64 0) := (blk_cell BK140.out 1).trans rfl
            have hcz37_2 : w33.cell? ⟨gb140, 2, none⟩ = some (.int .i64 0) := (blk_cell BK140.out 2).trans rfl
            have hcz37_3 : w33.cell? ⟨gb140, 3, none⟩ = some (.int .i64 0) := (blk_cell BK140.out 3).trans rfl
            have hcz37_4 : w33.cell? ⟨gb140, 4, none⟩ = some (.int .i64 0) := (blk_cell BK140.out 4).trans rfl
            have hcz37_5 : w33.cell? ⟨gb140, 5, none⟩ = some (.bool false) := (blk_cell BK140.out 5).trans rfl
            have hfz37_0 := blk_frozen BK140.out 0
            have hfz37_1 := blk_frozen BK140.out 1
            have hfz37_2 := blk_frozen BK140.out 2
            have hfz37_3 := blk_frozen BK140.out 3
            have hfz37_4 := blk_frozen BK140.out 4
            have hfz37_5 := blk_frozen BK140.out 5
            try go_wp2
            refine bodyPost_ret (results_ct rfl _ _ gb140 34 #[.int .i64 (wrap64 (Int.tdiv (wrap64 ((wrap64 ((wrap64 (Int.tdiv t143 t145)) * 10)))) 60)), .int .i64 (Int.tmod (wrap64 ((wrap64 ((wrap64 (Int.tdiv t143 t145)) * 10)))) 60), .int .i64 (wrap64 (Int.tdiv (Int.tmod t143 t146) a1)), .int .i64 (Int.tmod (Int.tmod t143 t146) a1), .int .i64 a1, .bool a2] (0, 0) _ rfl (by (with_reducible repeat (first | refine blk_drewN ?_ _ | refine blk_drew ?_ | refine blk_alloc ?_ _)); refine blk_put (cs := #[.int .i64 (wrap64 (Int.tdiv (wrap64 ((wrap64 ((wrap64 (Int.tdiv t143 t145)) * 10)))) 60)), .int .i64 (Int.tmod (wrap64 ((wrap64 ((wrap64 (Int.tdiv t143 t145)) * 10)))) 60), .int .i64 (wrap64 (Int.tdiv (Int.tmod t143 t146) a1)), .int .i64 (Int.tmod (Int.tmod t143 t146) a1), .int .i64 a1, .bool false]) ?_ 5 _ rfl; (with_reducible repeat (first | refine blk_drewN ?_ _ | refine blk_drew ?_ | refine blk_alloc ?_ _)); refine blk_put (cs := #[.int .i64 (wrap64 (Int.tdiv (wrap64 ((wrap64 ((wrap64 (Int.tdiv t143 t145)) * 10)))) 60)), .int .i64 (Int.tmod (wrap64 ((wrap64 ((wrap64 (Int.tdiv t143 t145)) * 10)))) 60), .int .i64 (wrap64 (Int.tdiv (Int.tmod t143 t146) a1)), .int .i64 (Int.tmod (Int.tmod t143 t146) a1), .int .i64 0, .bool false]) ?_ 4 _ rfl; (with_reducible repeat (first | refine blk_drewN ?_ _ | refine blk_drew ?_ | refine blk_alloc ?_ _)); refine blk_put (cs := #[.int .i64 (wrap64 (Int.tdiv (wrap64 ((wrap64 ((wrap64 (Int.tdiv t143 t145)) * 10)))) 60)), .int .i64 (Int.tmod (wrap64 ((wrap64 ((wrap64 (Int.tdiv t143 t145)) * 10)))) 60), .int .i64 (wrap64 (Int.tdiv (Int.tmod t143 t146) a1)), .int .i64 0, .int .i64 0, .bool false]) ?_ 3 _ rfl; (with_reducible repeat (first | refine blk_drewN ?_ _ | refine blk_drew ?_ | refine blk_alloc ?_ _)); refine blk_put (cs := #[.int .i64 (wrap64 (Int.tdiv (wrap64 ((wrap64 ((wrap64 (Int.tdiv t143 t145)) * 10)))) 60)), .int .i64 (Int.tmod (wrap64 ((wrap64 ((wrap64 (Int.tdiv t143 t145)) * 10)))) 60), .int .i64 0, .int .i64 0, .int .i64 0, .bool false]) ?_ 2 _ rfl; (with_reducible repeat (first | refine blk_drewN ?_ _ | refine blk_drew ?_ | refine blk_alloc ?_ _)); refine blk_put (cs := #[.int .i64 (wrap64 (Int.tdiv (wrap64 ((wrap64 ((wrap64 (Int.tdiv t143 t145)) * 10)))) 60)), .int .i64 0, .int .i64 0, .int .i64 0, .int .i64 0, .bool false]) ?_ 1 _ rfl; (with_reducible repeat (first | refine blk_drewN ?_ _ | refine blk_drew ?_ | refine blk_alloc ?_ _)); refine blk_put (cs := #[.int .i64 0, .int .i64 0, .int .i64 0, .int .i64 0, .int .i64 0, .bool false]) ?_ 0 _ rfl; (with_reducible repeat (first | refine blk_drewN ?_ _ | refine blk_drew ?_ | refine blk_alloc ?_ _)); refine blk_far ?_ NB140_148.out _; (with_reducible repeat (first | refine blk_drewN ?_ _ | refine blk_drew ?_ | refine blk_alloc ?_ _)); refine blk_far ?_ NB140_148.out _; (with_reducible repeat (first | refine blk_drewN ?_ _ | refine blk_drew ?_ | refine blk_alloc ?_ _)); exact BK140.out) Try.underlying34 rfl (by kernel_rfl)) rfl ?_
            exact ⟨by first | rfl | (simp [errW_none, errW_some] <;> rfl) | (simp [*, errW_none, errW_some] <;> rfl), by repeat (first | (with_reducible first | exact HB.out | apply below_alloc | apply pw_below_drewN | apply below_drew1 | refine below_set ?_ GE140.out | refine below_set ?_ GE148.out) | exact HB.out)⟩
  · rw [if_neg c5] at H
    have c5b0 : (t142 == 0) = false := beq_eq_false_iff_ne.mpr c5
    have c5b1 : (t142 != 0) = true := bne_iff_ne.mpr c5
    simp only [Option.some.injEq, Prod.mk.injEq] at H
    obtain ⟨rfl, rfl, rfl, rfl, rfl, rfl, rfl⟩ := H
    go_enter Try.func23, Try.ntmps23
    go_wp2_with (first | ((with_reducible refine gate_dst (N := 6) rfl ?_); refine box_event ?hg (N := 6) ?hd (cs := #[.int .i64 0, .int .i64 0, .int .i64 0, .int .i64 0, .int .i64 0, .bool false]) (t := 34) ?hr ?_; (case hd => rfl); (case hg => rfl); (case hr => first | (go_simp; done) | (go_simp; rfl)); intro gb140 hg w38 hbox hb; have n0_ := Aside0.mk (below_step (by repeat (first | (with_reducible first | exact HB.out | apply below_alloc | apply pw_below_drewN | apply below_drew1) | exact HB.out)) hb); have n1_ := Aside0.mk (hbox); have n2_ := Aside0.mk ((by rw [hg]; exact (below_size (by repeat (first | (with_reducible first | exact HB.out | apply below_alloc | apply pw_below_drewN | apply below_drew1) | exact HB.out))) : w.heap.size ≤ gb140)); have n3_ := Aside0.mk ((by rw [hg]; exact (below_size (by repeat (first | (with_reducible first | exact HB.out | apply below_alloc | apply pw_below_drewN | apply below_drew1) | exact HB.out))) : w.heap.size ≤ gb140)); clear HB; have HB := n0_; have BK140 := n1_; have GW140 := n2_; have GE140 := n3_; clear n0_ n1_ n2_ n3_; clear hb hbox hg) | ((with_reducible refine gate_callee (f := 21) rfl ?_); refine goesL_ (some 19) rfl rfl Try.func21 (by kernel_rfl) rfl #[.int .i64 a1, .bool a2] rfl (by (try simp only [List.map_toArray, List.map_cons, List.map_nil]); first | done | rfl | (simp only [List.length_drop, List.length_take]; rfl)) ?_; (with_reducible refine (timecode_Day.calls k a1 a2 t141 t142 _ A4.out).mono ?_); rintro e w39 ⟨rfl, hb⟩; refine ⟨_, rfl, ?_⟩; have n0_ := Aside0.mk (blk_below (g := gb140) (o := .cells #[.int .i64 0, .int .i64 0, .int .i64 0, .int .i64 0, .int .i64 0, .bool false] 34 (0, 0)) (by (with_reducible repeat (first | refine blk_drewN ?_ _ | refine blk_drew ?_ | refine blk_alloc ?_ _)); exact BK140.out) hb); have n1_ := Aside0.mk (below_step (by repeat (first | (with_reducible first | exact HB.out | apply below_alloc | apply pw_below_drewN | apply below_drew1 | refine below_set ?_ GE140.out) | exact HB.out)) hb); clear BK140; clear HB; have BK140 := n0_; have HB := n1_; clear n0_ n1_; (try clear hb); (try clear hb2); (try clear hk); (try clear hi); have hcz40_0 : w39.cell? ⟨gb140, 0, none⟩ = some (.int .i64 0) := (blk_cell BK140.out 0).trans rfl; have hcz40_1 : w39.cell? ⟨gb140, 1, none⟩ = some (.int .i64 0) := (blk_cell BK140.out 1).trans rfl; have hcz40_2 : w39.cell? ⟨gb140, 2, none⟩ = some (.int .i64 0) := (blk_cell BK140.out 2).trans rfl; have hcz40_3 : w39.cell? ⟨gb140, 3, none⟩ = some (.int .i64 0) := (blk_cell BK140.out 3).trans rfl; have hcz40_4 : w39.cell? ⟨gb140, 4, none⟩ = some (.int .i64 0) := (blk_cell BK140.out 4).trans rfl; have hcz40_5 : w39.cell? ⟨gb140, 5, none⟩ = some (.bool false) := (blk_cell BK140.out 5).trans rfl; have hfz40_0 := blk_frozen BK140.out 0; have hfz40_1 := blk_frozen BK140.out 1; have hfz40_2 := blk_frozen BK140.out 2; have hfz40_3 := blk_frozen BK140.out 3; have hfz40_4 := blk_frozen BK140.out 4; have hfz40_5 := blk_frozen BK140.out 5))
    refine bodyPost_ret (results_ct rfl _ _ gb140 34 #[.int .i64 0, .int .i64 0, .int .i64 0, .int .i64 0, .int .i64 0, .bool false] (0, 0) _ rfl (by (with_reducible repeat (first | refine blk_drewN ?_ _ | refine blk_drew ?_ | refine blk_alloc ?_ _)); refine blk_put (cs := #[.int .i64 0, .int .i64 0, .int .i64 0, .int .i64 0, .int .i64 0, .bool false]) ?_ 5 _ rfl; (with_reducible repeat (first | refine blk_drewN ?_ _ | refine blk_drew ?_ | refine blk_alloc ?_ _)); refine blk_put (cs := #[.int .i64 0, .int .i64 0, .int .i64 0, .int .i64 0, .int .i64 0, .bool false]) ?_ 4 _ rfl; (with_reducible repeat (first | refine blk_drewN ?_ _ | refine blk_drew ?_ | refine blk_alloc ?_ _)); refine blk_put (cs := #[.int .i64 0, .int .i64 0, .int .i64 0, .int .i64 0, .int .i64 0, .bool false]) ?_ 3 _ rfl; (with_reducible repeat (first | refine blk_drewN ?_ _ | refine blk_drew ?_ | refine blk_alloc ?_ _)); refine blk_put (cs := #[.int .i64 0, .int .i64 0, .int .i64 0, .int .i64 0, .int .i64 0, .bool false]) ?_ 2 _ rfl; (with_reducible repeat (first | refine blk_drewN ?_ _ | refine blk_drew ?_ | refine blk_alloc ?_ _)); refine blk_put (cs := #[.int .i64 0, .int .i64 0, .int .i64 0, .int .i64 0, .int .i64 0, .bool false]) ?_ 1 _ rfl; (with_reducible repeat (first | refine blk_drewN ?_ _ | refine blk_drew ?_ | refine blk_alloc ?_ _)); refine blk_put (cs := #[.int .i64 0, .int .i64 0, .int .i64 0, .int .i64 0, .int .i64 0, .bool false]) ?_ 0 _ rfl; (with_reducible repeat (first | refine blk_drewN ?_ _ | refine blk_drew ?_ | refine blk_alloc ?_ _)); exact BK140.out) Try.underlying34 rfl (by kernel_rfl)) rfl ?_
    exact ⟨by first | rfl | (simp [errW_none, errW_some] <;> rfl) | (simp [*, errW_none, errW_some] <;> rfl), by repeat (first | (with_reducible first | exact HB.out | apply below_alloc | apply pw_below_drewN | apply below_drew1 | refine below_set ?_ GE140.out) | exact HB.out)⟩

/-! ### timecode_in: function 44 -/
def timecode_in.f (a0 : Int) (a1 : Int) : Option (Bool) := if a0 ≥ 0 then (some (decide (a0 < a1))) else (some false)
set_option maxHeartbeats 8000000 in
set_option maxRecDepth 100000 in
theorem timecode_in.calls (a0 : Int) (a1 : Int) (r : Bool) (w : World) (h : timecode_in.f a0 a1 = some r) :
    Calls Try.prog 44 #[.int .i64 a0, .int .i64 a1] w fun e w' => e = .returned (.bool r) ∧ Drawn0 w w' := by
  have H : (if a0 ≥ 0 then (some (decide (a0 < a1))) else (some false)) = some r := h
  clear h
  by_cases c3 : a0 ≥ 0
  · rw [if_pos c3] at H
    have c3b0 : decide (0 ≤ a0) = true := decide_eq_true c3
    clear c3
    obtain rfl := Option.some.inj H
    go_enter Try.func44, Try.ntmps44
    go_wp2
    go_ret
    exact ⟨by first | rfl | (simp; done) | (simp [*]; done), by repeat (first | exact Drawn0.refl _ | apply Drawn0.step)⟩
  · rw [if_neg c3] at H
    have c3b0 : decide (0 ≤ a0) = false := decide_eq_false c3
    clear c3
    obtain rfl := Option.some.inj H
    go_enter Try.func44, Try.ntmps44
    go_wp2
    go_ret
    exact ⟨by first | rfl | (simp; done) | (simp [*]; done), by repeat (first | exact Drawn0.refl _ | apply Drawn0.step)⟩

/-! ### timecode_Number: function 25 -/
def timecode_Number.j0 : Nat → Bool → Int → Int → Int → Int → Int → Bool → Option (Int × Int)
  | 0, _, _, _, _, _, _, _ => none
  | k + 1, x43, x150000, x150001, x150002, x150003, x150004, x150005 => if x43 = true then (some (0, 2)) else ((timecode_dropped.f x150004 x150005).bind fun t156 => (if (Int.tmod x150001 10) = 0 then (some (wrap64 ((wrap64 ((wrap64 ((wrap64 ((wrap64 ((wrap64 ((wrap64 (x150000 * 60)) + x150001)) * 60)) + x150002)) * x150004)) + x150003)) - (wrap64 (t156 * (wrap64 ((wrap64 ((wrap64 (x150000 * 60)) + x150001)) - (wrap64 (Int.tdiv (wrap64 ((wrap64 (x150000 * 60)) + x150001)) 10))))))), 0)) else (if x150002 = 0 then (if x150003 < t156 then (some (0, 2)) else (some (wrap64 ((wrap64 ((wrap64 ((wrap64 ((wrap64 ((wrap64 ((wrap64 (x150000 * 60)) + x150001)) * 60)) + x150002)) * x150004)) + x150003)) - (wrap64 (t156 * (wrap64 ((wrap64 ((wrap64 (x150000 * 60)) + x150001)) - (wrap64 (Int.tdiv (wrap64 ((wrap64 (x150000 * 60)) + x150001)) 10))))))), 0))) else (some (wrap64 ((wrap64 ((wrap64 ((wrap64 ((wrap64 ((wrap64 ((wrap64 (x150000 * 60)) + x150001)) * 60)) + x150002)) * x150004)) + x150003)) - (wrap64 (t156 * (wrap64 ((wrap64 ((wrap64 (x150000 * 60)) + x150001)) - (wrap64 (Int.tdiv (wrap64 ((wrap64 (x150000 * 60)) + x150001)) 10))))))), 0)))))
def timecode_Number.f (k : Nat) (a0_0 : Int) (a0_1 : Int) (a0_2 : Int) (a0_3 : Int) (a0_4 : Int) (a0_5 : Bool) : Option (Int × Int) := (timecode_Day.f k a0_4 a0_5).bind fun bt150 => (if bt150.2 = 0 then ((timecode_in.f a0_0 24).bind fun t152 => (if t152 = true then ((timecode_in.f a0_1 60).bind fun t153 => (if t153 = true then ((timecode_in.f a0_2 60).bind fun t154 => (if t154 = true then ((timecode_in.f a0_3 a0_4).bind fun t155 => (timecode_Number.j0 k (!t155) a0_0 a0_1 a0_2 a0_3 a0_4 a0_5)) else (timecode_Number.j0 k true a0_0 a0_1 a0_2 a0_3 a0_4 a0_5))) else (timecode_Number.j0 k true a0_0 a0_1 a0_2 a0_3 a0_4 a0_5))) else (timecode_Number.j0 k true a0_0 a0_1 a0_2 a0_3 a0_4 a0_5))) else (some (0, bt150.2)))
theorem timecode_Number.mono_l : ∀ k, (∀ y0 y1 y2 y3 y4 y5 y6, LeO (timecode_Number.j0 k y0 y1 y2 y3 y4 y5 y6) (timecode_Number.j0 (k + 1) y0 y1 y2 y3 y4 y5 y6))
  | 0 => fun _ _ _ _ _ _ _ r h => by simp [timecode_Number.j0] at h
  | k + 1 => by
    have ih0 := timecode_Number.mono_l k
    · intro y0 y1 y2 y3 y4 y5 y6
      unfold timecode_Number.j0
      repeat' first
      | (with_reducible exact ih0 _ _ _ _ _ _ _)
      | (with_reducible exact timecode_Day.mono _ _ _)
      | (with_reducible exact LeO.refl _)
      | (with_reducible exact LeO.none _)
      | (with_reducible refine LeO.ite ?_ ?_)
      | (with_reducible refine LeO.bind ?_ (fun _ => ?_))
      | exact ih0 _ _ _ _ _ _ _
      | exact timecode_Day.mono _ _ _
      | exact LeO.none _
      | refine LeO.ite ?_ ?_
      | refine LeO.bind ?_ (fun _ => ?_)
theorem timecode_Number.mono : ∀ a0 a1 a2 a3 a4 a5 k, LeO (timecode_Number.f k a0 a1 a2 a3 a4 a5) (timecode_Number.f (k + 1) a0 a1 a2 a3 a4 a5) := by
  intro a0 a1 a2 a3 a4 a5 k
  have ih0 := timecode_Number.mono_l k
  unfold timecode_Number.f
  repeat' first
      | (with_reducible exact ih0 _ _ _ _ _ _ _)
      | (with_reducible exact timecode_Day.mono _ _ _)
      | (with_reducible exact LeO.refl _)
      | (with_reducible exact LeO.none _)
      | (with_reducible refine LeO.ite ?_ ?_)
      | (with_reducible refine LeO.bind ?_ (fun _ => ?_))
      | exact ih0 _ _ _ _ _ _ _
      | exact timecode_Day.mono _ _ _
      | exact LeO.none _
      | refine LeO.ite ?_ ?_
      | refine LeO.bind ?_ (fun _ => ?_)
set_option maxHeartbeats 8000000 in
set_option maxRecDepth 100000 in
theorem timecode_Number.calls (k : Nat) (a0_0 : Int) (a0_1 : Int) (a0_2 : Int) (a0_3 : Int) (a0_4 : Int) (a0_5 : Bool) (r1 : Int) (r2 : Int) (w : World) (h : timecode_Number.f k a0_0 a0_1 a0_2 a0_3 a0_4 a0_5 = some (r1, r2)) :
    Calls Try.prog 25 #[.agg #[.int .i64 a0_0, .int .i64 a0_1, .int .i64 a0_2, .int .i64 a0_3, .int .i64 a0_4, .bool a0_5]] w fun e w' => e = .returned (.tuple #[.int .i64 r1, .int .i64 r2]) ∧ Below w.heap.size w w' := by
  have hu34 := Try.underlying34
  have HB := Aside0.mk (Below.refl w.heap.size w)
  have H : ((timecode_Day.f k a0_4 a0_5).bind fun bt150 => (if bt150.2 = 0 then ((timecode_in.f a0_0 24).bind fun t152 => (if t152 = true then ((timecode_in.f a0_1 60).bind fun t153 => (if t153 = true then ((timecode_in.f a0_2 60).bind fun t154 => (if t154 = true then ((timecode_in.f a0_3 a0_4).bind fun t155 => (timecode_Number.j0 k (!t155) a0_0 a0_1 a0_2 a0_3 a0_4 a0_5)) else (timecode_Number.j0 k true a0_0 a0_1 a0_2 a0_3 a0_4 a0_5))) else (timecode_Number.j0 k true a0_0 a0_1 a0_2 a0_3 a0_4 a0_5))) else (timecode_Number.j0 k true a0_0 a0_1 a0_2 a0_3 a0_4 a0_5))) else (some (0, bt150.2)))) = some (r1, r2) := h
  clear h
  replace H := Option.bind_eq_some_iff.mp H
  obtain ⟨⟨t150, t151⟩, A20, H⟩ := H
  replace H : (if t151 = 0 then ((timecode_in.f a0_0 24).bind fun t152 => (if t152 = true then ((timecode_in.f a0_1 60).bind fun t153 => (if t153 = true then ((timecode_in.f a0_2 60).bind fun t154 => (if t154 = true then ((timecode_in.f a0_3 a0_4).bind fun t155 => (timecode_Number.j0 k (!t155) a0_0 a0_1 a0_2 a0_3 a0_4 a0_5)) else (timecode_Number.j0 k true a0_0 a0_1 a0_2 a0_3 a0_4 a0_5))) else (timecode_Number.j0 k true a0_0 a0_1 a0_2 a0_3 a0_4 a0_5))) else (timecode_Number.j0 k true a0_0 a0_1 a0_2 a0_3 a0_4 a0_5))) else (some (0, t151))) = some (r1, r2) := H
  have A2 := Aside0.mk A20
  clear A20
  by_cases c3 : t151 = 0
  · rw [if_pos c3] at H
    have c3b0 : (t151 == 0) = true := beq_iff_eq.mpr c3
    have c3b1 : (t151 != 0) = false := bne_eq_false_iff_eq.mpr c3
    clear c3
    have HC4 := Aside0.mk H
    clear H
    go_enter Try.func25, Try.ntmps25
    go_upto_region 4 with (first | ((with_reducible refine gate_dst (N := 1) rfl ?_); refine box_event ?hg (N := 1) ?hd (cs := #[.int .i64 a0_0, .int .i64 a0_1, .int .i64 a0_2, .int .i64 a0_3, .int .i64 a0_4, .bool a0_5]) (t := 34) ?hr ?_; (case hd => rfl); (case hg => rfl); (case hr => first | (go_simp; done) | (go_simp; rfl)); intro gb149 hg w5 hbox hb; have n0_ := Aside0.mk (below_step (by repeat (first | (with_reducible first | exact HB.out | apply below_alloc | apply pw_below_drewN | apply below_drew1) | exact HB.out)) hb); have n1_ := Aside0.mk (hbox); have n2_ := Aside0.mk ((by rw [hg]; exact (below_size (by repeat (first | (with_reducible first | exact HB.out | apply below_alloc | apply pw_below_drewN | apply below_drew1) | exact HB.out))) : w.heap.size ≤ gb149)); have n3_ := Aside0.mk ((by rw [hg]; exact (below_size (by repeat (first | (with_reducible first | exact HB.out | apply below_alloc | apply pw_below_drewN | apply below_drew1) | exact HB.out))) : w.heap.size ≤ gb149)); clear HB; have HB := n0_; have BK149 := n1_; have GW149 := n2_; have GE149 := n3_; clear n0_ n1_ n2_ n3_; clear hb hbox hg; have hcz6_0 : w5.cell? ⟨gb149, 0, none⟩ = some (.int .i64 a0_0) := (blk_cell BK149.out 0).trans rfl; have hcz6_1 : w5.cell? ⟨gb149, 1, none⟩ = some (.int .i64 a0_1) := (blk_cell BK149.out 1).trans rfl; have hcz6_2 : w5.cell? ⟨gb149, 2, none⟩ = some (.int .i64 a0_2) := (blk_cell BK149.out 2).trans rfl; have hcz6_3 : w5.cell? ⟨gb149, 3, none⟩ = some (.int .i64 a0_3) := (blk_cell BK149.out 3).trans rfl; have hcz6_4 : w5.cell? ⟨gb149, 4, none⟩ = some (.int .i64 a0_4) := (blk_cell BK149.out 4).trans rfl; have hcz6_5 : w5.cell? ⟨gb149, 5, none⟩ = some (.bool a0_5) := (blk_cell BK149.out 5).trans rfl; have hfz6_0 := blk_frozen BK149.out 0; have hfz6_1 := blk_frozen BK149.out 1; have hfz6_2 := blk_frozen BK149.out 2; have hfz6_3 := blk_frozen BK149.out 3; have hfz6_4 := blk_frozen BK149.out 4; have hfz6_5 := blk_frozen BK149.out 5) | ((with_reducible refine gate_callee (f := 21) rfl ?_); refine goesL_ (some 14) rfl rfl Try.func21 (by kernel_rfl) rfl #[.int .i64 a0_4, .bool a0_5] rfl (by (try simp only [List.map_toArray, List.map_cons, List.map_nil]); first | done | rfl | (simp only [List.length_drop, List.length_take]; rfl)) ?_; (with_reducible refine (timecode_Day.calls k a0_4 a0_5 t150 t151 _ A2.out).mono ?_); rintro e w7 ⟨rfl, hb⟩; refine ⟨_, rfl, ?_⟩; have n0_ := Aside0.mk (blk_below (g := gb149) (o := .cells #[.int .i64 a0_0, .int .i64 a0_1, .int .i64 a0_2, .int .i64 a0_3, .int .i64 a0_4, .bool a0_5] 34 (0, 0)) (by (with_reducible repeat (first | refine blk_drewN ?_ _ | refine blk_drew ?_ | refine blk_alloc ?_ _)); exact BK149.out) hb); have n1_ := Aside0.mk (below_step (by repeat (first | (with_reducible first | exact HB.out | apply below_alloc | apply pw_below_drewN | apply below_drew1 | refine below_set ?_ GE149.out) | exact HB.out)) hb); clear BK149; clear HB; have BK149 := n0_; have HB := n1_; clear n0_ n1_; (try clear hb); (try clear hb2); (try clear hk); (try clear hi)))
    (try simp only [Act.put, List.setIfInBounds_toArray, List.set_cons_zero, List.set_cons_succ])
    go_cut [43] (fun v43 wc => ∃ (kq : Nat) (x43_3 : Bool), v43 = .bool x43_3 ∧ Aside0 (timecode_Number.j0 kq x43_3 a0_0 a0_1 a0_2 a0_3 a0_4 a0_5 = some (r1, r2)) ∧ Aside0 (kq ≤ k) ∧ Aside0 (wc.heap[gb149]? = some (.cells #[.int .i64 a0_0, .int .i64 a0_1, .int .i64 a0_2, .int .i64 a0_3, .int .i64 a0_4, .bool a0_5] 34 (0, 0))) ∧ Aside0 (Below w.heap.size w wc))
    case first =>
      have H := HC4.out
      clear HC4
      replace H := Option.bind_eq_some_iff.mp H
      obtain ⟨t152, A80, H⟩ := H
      replace H : (if t152 = true then ((timecode_in.f a0_1 60).bind fun t153 => (if t153 = true then ((timecode_in.f a0_2 60).bind fun t154 => (if t154 = true then ((timecode_in.f a0_3 a0_4).bind fun t155 => (timecode_Number.j0 k (!t155) a0_0 a0_1 a0_2 a0_3 a0_4 a0_5)) else (timecode_Number.j0 k true a0_0 a0_1 a0_2 a0_3 a0_4 a0_5))) else (timecode_Number.j0 k true a0_0 a0_1 a0_2 a0_3 a0_4 a0_5))) else (timecode_Number.j0 k true a0_0 a0_1 a0_2 a0_3 a0_4 a0_5)) = some (r1, r2) := H
      have A8 := Aside0.mk A80
      clear A80
      by_cases c9 : t152 = true
      · subst c9
        have H1 : ((timecode_in.f a0_1 60).bind fun t153 => (if t153 = true then ((timecode_in.f a0_2 60).bind fun t154 => (if t154 = true then ((timecode_in.f a0_3 a0_4).bind fun t155 => (timecode_Number.j0 k (!t155) a0_0 a0_1 a0_2 a0_3 a0_4 a0_5)) else (timecode_Number.j0 k true a0_0 a0_1 a0_2 a0_3 a0_4 a0_5))) else (timecode_Number.j0 k true a0_0 a0_1 a0_2 a0_3 a0_4 a0_5))) = some (r1, r2) := by rw [if_pos rfl] at H; exact H
        clear H
        have H := H1
        clear H1
        replace H := Option.bind_eq_some_iff.mp H
        obtain ⟨t153, A100, H⟩ := H
        replace H : (if t153 = true then ((timecode_in.f a0_2 60).bind fun t154 => (if t154 = true then ((timecode_in.f a0_3 a0_4).bind fun t155 => (timecode_Number.j0 k (!t155) a0_0 a0_1 a0_2 a0_3 a0_4 a0_5)) else (timecode_Number.j0 k true a0_0 a0_1 a0_2 a0_3 a0_4 a0_5))) else (timecode_Number.j0 k true a0_0 a0_1 a0_2 a0_3 a0_4 a0_5)) = some (r1, r2) := H
        have A10 := Aside0.mk A100
        clear A100
        by_cases c11 : t153 = true
        · subst c11
          have H1 : ((timecode_in.f a0_2 60).bind fun t154 => (if t154 = true then ((timecode_in.f a0_3 a0_4).bind fun t155 => (timecode_Number.j0 k (!t155) a0_0 a0_1 a0_2 a0_3 a0_4 a0_5)) else (timecode_Number.j0 k true a0_0 a0_1 a0_2 a0_3 a0_4 a0_5))) = some (r1, r2) := by rw [if_pos rfl] at H; exact H
          clear H
          have H := H1
          clear H1
          replace H := Option.bind_eq_some_iff.mp H
          obtain ⟨t154, A120, H⟩ := H
          replace H : (if t154 = true then ((timecode_in.f a0_3 a0_4).bind fun t155 => (timecode_Number.j0 k (!t155) a0_0 a0_1 a0_2 a0_3 a0_4 a0_5)) else (timecode_Number.j0 k true a0_0 a0_1 a0_2 a0_3 a0_4 a0_5)) = some (r1, r2) := H
          have A12 := Aside0.mk A120
          clear A120
          by_cases c13 : t154 = true
          · subst c13
            have H1 : ((timecode_in.f a0_3 a0_4).bind fun t155 => (timecode_Number.j0 k (!t155) a0_0 a0_1 a0_2 a0_3 a0_4 a0_5)) = some (r1, r2) := by rw [if_pos rfl] at H; exact H
            clear H
            have H := H1
            clear H1
            replace H := Option.bind_eq_some_iff.mp H
            obtain ⟨t155, A140, H⟩ := H
            replace H : (timecode_Number.j0 k (!t155) a0_0 a0_1 a0_2 a0_3 a0_4 a0_5) = some (r1, r2) := H
            have A14 := Aside0.mk A140
            clear A140
            have H' := Aside0.mk H
            clear H
            have hcz15_0 : w7.cell? ⟨gb149, 0, none⟩ = some (.int .i64 a0_0) := (blk_cell BK149.out 0).trans rfl
            have hcz15_1 : w7.cell? ⟨gb149, 1, none⟩ = some (.int .i64 a0_1) := (blk_cell BK149.out 1).trans rfl
            have hcz15_2 : w7.cell? ⟨gb149, 2, none⟩ = some (.int .i64 a0_2) := (blk_cell BK149.out 2).trans rfl
            have hcz15_3 : w7.cell? ⟨gb149, 3, none⟩ = some (.int .i64 a0_3) := (blk_cell BK149.out 3).trans rfl
            have hcz15_4 : w7.cell? ⟨gb149, 4, none⟩ = some (.int .i64 a0_4) := (blk_cell BK149.out 4).trans rfl
            have hcz15_5 : w7.cell? ⟨gb149, 5, none⟩ = some (.bool a0_5) := (blk_cell BK149.out 5).trans rfl
            have hfz15_0 := blk_frozen BK149.out 0
            have hfz15_1 := blk_frozen BK149.out 1
            have hfz15_2 := blk_frozen BK149.out 2
            have hfz15_3 := blk_frozen BK149.out 3
            have hfz15_4 := blk_frozen BK149.out 4
            have hfz15_5 := blk_frozen BK149.out 5
            go_wp2_with (first | ((with_reducible refine gate_callee (f := 44) rfl ?_); refine goesL_ (some 22) rfl rfl Try.func44 (by kernel_rfl) rfl #[.int .i64 a0_0, .int .i64 24] rfl (by (try simp only [List.map_toArray, List.map_cons, List.map_nil]); first | done | rfl | (simp only [List.length_drop, List.length_take]; rfl)) ?_; (with_reducible refine (timecode_in.calls a0_0 24 true _ A8.out).mono ?_); rintro e w' ⟨rfl, ⟨nd, rfl⟩⟩; refine ⟨_, rfl, ?_⟩) | (go_at_call 44; (with_reducible refine (timecode_in.calls a0_1 60 true _ A10.out).mono ?_); rintro e w' ⟨rfl, ⟨nd, rfl⟩⟩) | (go_at_call 44; (with_reducible refine (timecode_in.calls a0_2 60 true _ A12.out).mono ?_); rintro e w' ⟨rfl, ⟨nd, rfl⟩⟩) | (go_at_call 44; (with_reducible refine (timecode_in.calls a0_3 a0_4 t155 _ A14.out).mono ?_); rintro e w' ⟨rfl, ⟨nd, rfl⟩⟩))
            go_meet
            case rel => exact ⟨_, (!t155), (by first | rfl | (simp; done) | (simp [*]; done)), H', ⟨by first | omega | exact Nat.le_refl _⟩, ⟨by (with_reducible repeat (first | refine blk_drewN ?_ _ | refine blk_drew ?_ | refine blk_alloc ?_ _)); exact BK149.out⟩, ⟨by repeat (first | (with_reducible first | exact HB.out | apply below_alloc | apply pw_below_drewN | apply below_drew1 | refine below_set ?_ GE149.out) | exact HB.out)⟩⟩
          · replace c13 := Bool.eq_false_iff.mpr c13
            subst c13
            have H1 : (timecode_Number.j0 k true a0_0 a0_1 a0_2 a0_3 a0_4 a0_5) = some (r1, r2) := by rw [if_neg (show ¬ (false = true) by decide)] at H; exact H
            clear H
            have H := H1
            clear H1
            have H' := Aside0.mk H
            clear H
            have hcz16_0 : w7.cell? ⟨gb149, 0, none⟩ = some (.int .i64 a0_0) := (blk_cell BK149.out 0).trans rfl
            have hcz16_1 : w7.cell? ⟨gb149, 1, none⟩ = some (.int .i64 a0_1) := (blk_cell BK149.out 1).trans rfl
            have hcz16_2 : w7.cell? ⟨gb149, 2, none⟩ = some (.int .i64 a0_2) := (blk_cell BK149.out 2).trans rfl
            have hcz16_3 : w7.cell? ⟨gb149, 3, none⟩ = some (.int .i64 a0_3) := (blk_cell BK149.out 3).trans rfl
            have hcz16_4 : w7.cell? ⟨gb149, 4, none⟩ = some (.int .i64 a0_4) := (blk_cell BK149.out 4).trans rfl
            have hcz16_5 : w7.cell? ⟨gb149, 5, none⟩ = some (.bool a0_5) := (blk_cell BK149.out 5).trans rfl
            have hfz16_0 := blk_frozen BK149.out 0
            have hfz16_1 := blk_frozen BK149.out 1
            have hfz16_2 := blk_frozen BK149.out 2
            have hfz16_3 := blk_frozen BK149.out 3
            have hfz16_4 := blk_frozen BK149.out 4
            have hfz16_5 := blk_frozen BK149.out 5
            go_wp2_with (first | ((with_reducible refine gate_callee (f := 44) rfl ?_); refine goesL_ (some 22) rfl rfl Try.func44 (by kernel_rfl) rfl #[.int .i64 a0_0, .int .i64 24] rfl (by (try simp only [List.map_toArray, List.map_cons, List.map_nil]); first | done | rfl | (simp only [List.length_drop, List.length_take]; rfl)) ?_; (with_reducible refine (timecode_in.calls a0_0 24 true _ A8.out).mono ?_); rintro e w' ⟨rfl, ⟨nd, rfl⟩⟩; refine ⟨_, rfl, ?_⟩) | (go_at_call 44; (with_reducible refine (timecode_in.calls a0_1 60 true _ A10.out).mono ?_); rintro e w' ⟨rfl, ⟨nd, rfl⟩⟩) | (go_at_call 44; (with_reducible refine (timecode_in.calls a0_2 60 false _ A12.out).mono ?_); rintro e w' ⟨rfl, ⟨nd, rfl⟩⟩))
            go_meet
            case rel => exact ⟨_, (true), (by first | rfl | (simp; done) | (simp [*]; done)), H', ⟨by first | omega | exact Nat.le_refl _⟩, ⟨by (with_reducible repeat (first | refine blk_drewN ?_ _ | refine blk_drew ?_ | refine blk_alloc ?_ _)); exact BK149.out⟩, ⟨by repeat (first | (with_reducible first | exact HB.out | apply below_alloc | apply pw_below_drewN | apply below_drew1 | refine below_set ?_ GE149.out) | exact HB.out)⟩⟩
        · replace c11 := Bool.eq_false_iff.mpr c11
          subst c11
          have H1 : (timecode_Number.j0 k true a0_0 a0_1 a0_2 a0_3 a0_4 a0_5) = some (r1, r2) := by rw [if_neg (show ¬ (false = true) by decide)] at H; exact H
          clear H
          have H := H1
          clear H1
          have H' := Aside0.mk H
          clear H
          have hcz17_0 : w7.cell? ⟨gb149, 0, none⟩ = some (.int .i64 a0_0) := (blk_cell BK149.out 0).trans rfl
          have hcz17_1 : w7.cell? ⟨gb149, 1, none⟩ = some (.int .i64 a0_1) := (blk_cell BK149.out 1).trans rfl
          have hcz17_2 : w7.cell? ⟨gb149, 2, none⟩ = some (.int .i64 a0_2) := (blk_cell BK149.out 2).trans rfl
          have hcz17_3 : w7.cell? ⟨gb149, 3, none⟩ = some (.int .i64 a0_3) := (blk_cell BK149.out 3).trans rfl
          have hcz17_4 : w7.cell? ⟨gb149, 4, none⟩ = some (.int .i64 a0_4) := (blk_cell BK149.out 4).trans rfl
          have hcz17_5 : w7.cell? ⟨gb149, 5, none⟩ = some (.bool a0_5) := (blk_cell BK149.out 5).trans rfl
          have hfz17_0 := blk_frozen BK149.out 0
          have hfz17_1 := blk_frozen BK149.out 1
          have hfz17_2 := blk_frozen BK149.out 2
          have hfz17_3 := blk_frozen BK149.out 3
          have hfz17_4 := blk_frozen BK149.out 4
          have hfz17_5 := blk_frozen BK149.out 5
          go_wp2_with (first | ((with_reducible refine gate_callee (f := 44) rfl ?_); refine goesL_ (some 22) rfl rfl Try.func44 (by kernel_rfl) rfl #[.int .i64 a0_0, .int .i64 24] rfl (by (try simp only [List.map_toArray, List.map_cons, List.map_nil]); first | done | rfl | (simp only [List.length_drop, List.length_take]; rfl)) ?_; (with_reducible refine (timecode_in.calls a0_0 24 true _ A8.out).mono ?_); rintro e w' ⟨rfl, ⟨nd, rfl⟩⟩; refine ⟨_, rfl, ?_⟩) | (go_at_call 44; (with_reducible refine (timecode_in.calls a0_1 60 false _ A10.out).mono ?_); rintro e w' ⟨rfl, ⟨nd, rfl⟩⟩))
          go_meet
          case rel => exact ⟨_, (true), (by first | rfl | (simp; done) | (simp [*]; done)), H', ⟨by first | omega | exact Nat.le_refl _⟩, ⟨by (with_reducible repeat (first | refine blk_drewN ?_ _ | refine blk_drew ?_ | refine blk_alloc ?_ _)); exact BK149.out⟩, ⟨by repeat (first | (with_reducible first | exact HB.out | apply below_alloc | apply pw_below_drewN | apply below_drew1 | refine below_set ?_ GE149.out) | exact HB.out)⟩⟩
      · replace c9 := Bool.eq_false_iff.mpr c9
        subst c9
        have H1 : (timecode_Number.j0 k true a0_0 a0_1 a0_2 a0_3 a0_4 a0_5) = some (r1, r2) := by rw [if_neg (show ¬ (false = true) by decide)] at H; exact H
        clear H
        have H := H1
        clear H1
        have H' := Aside0.mk H
        clear H
        have hcz18_0 : w7.cell? ⟨gb149, 0, none⟩ = some (.int .i64 a0_0) := (blk_cell BK149.out 0).trans rfl
        have hcz18_1 : w7.cell? ⟨gb149, 1, none⟩ = some (.int .i64 a0_1) := (blk_cell BK149.out 1).trans rfl
        have hcz18_2 : w7.cell? ⟨gb149, 2, none⟩ = some (.int .i64 a0_2) := (blk_cell BK149.out 2).trans rfl
        have hcz18_3 : w7.cell? ⟨gb149, 3, none⟩ = some (.int .i64 a0_3) := (blk_cell BK149.out 3).trans rfl
        have hcz18_4 : w7.cell? ⟨gb149, 4, none⟩ = some (.int .i64 a0_4) := (blk_cell BK149.out 4).trans rfl
        have hcz18_5 : w7.cell? ⟨gb149, 5, none⟩ = some (.bool a0_5) := (blk_cell BK149.out 5).trans rfl
        have hfz18_0 := blk_frozen BK149.out 0
        have hfz18_1 := blk_frozen BK149.out 1
        have hfz18_2 := blk_frozen BK149.out 2
        have hfz18_3 := blk_frozen BK149.out 3
        have hfz18_4 := blk_frozen BK149.out 4
        have hfz18_5 := blk_frozen BK149.out 5
        go_wp2_with (first | ((with_reducible refine gate_callee (f := 44) rfl ?_); refine goesL_ (some 22) rfl rfl Try.func44 (by kernel_rfl) rfl #[.int .i64 a0_0, .int .i64 24] rfl (by (try simp only [List.map_toArray, List.map_cons, List.map_nil]); first | done | rfl | (simp only [List.length_drop, List.length_take]; rfl)) ?_; (with_reducible refine (timecode_in.calls a0_0 24 false _ A8.out).mono ?_); rintro e w' ⟨rfl, ⟨nd, rfl⟩⟩; refine ⟨_, rfl, ?_⟩))
        go_meet
        case rel => exact ⟨_, (true), (by first | rfl | (simp; done) | (simp [*]; done)), H', ⟨by first | omega | exact Nat.le_refl _⟩, ⟨by (with_reducible repeat (first | refine blk_drewN ?_ _ | refine blk_drew ?_ | refine blk_alloc ?_ _)); exact BK149.out⟩, ⟨by repeat (first | (with_reducible first | exact HB.out | apply below_alloc | apply pw_below_drewN | apply below_drew1 | refine below_set ?_ GE149.out) | exact HB.out)⟩⟩
    case rest =>
      clear HC4
      try clear c1
      try clear c2
      try clear p2
      try clear c3
      try clear c3b0
      try clear c3b1
      try clear c4
      try clear c9
      try clear c11
      try clear c13
      try clear hcz15_0
      try clear hcz15_1
      try clear hcz15_2
      try clear hcz15_3
      try clear hcz15_4
      try clear hcz15_5
      try clear hcz16_0
      try clear hcz16_1
      try clear hcz16_2
      try clear hcz16_3
      try clear hcz16_4
      try clear hcz16_5
      try clear hcz17_0
      try clear hcz17_1
      try clear hcz17_2
      try clear hcz17_3
      try clear hcz17_4
      try clear hcz17_5
      try clear hcz18_0
      try clear hcz18_1
      try clear hcz18_2
      try clear hcz18_3
      try clear hcz18_4
      try clear hcz18_5
      try clear hcz6_0
      try clear hcz6_1
      try clear hcz6_2
      try clear hcz6_3
      try clear hcz6_4
      try clear hcz6_5
      try clear hfz15_0
      try clear hfz15_1
      try clear hfz15_2
      try clear hfz15_3
      try clear hfz15_4
      try clear hfz15_5
      try clear hfz16_0
      try clear hfz16_1
      try clear hfz16_2
      try clear hfz16_3
      try clear hfz16_4
      try clear hfz16_5
      try clear hfz17_0
      try clear hfz17_1
      try clear hfz17_2
      try clear hfz17_3
      try clear hfz17_4
      try clear hfz17_5
      try clear hfz18_0
      try clear hfz18_1
      try clear hfz18_2
      try clear hfz18_3
      try clear hfz18_4
      try clear hfz18_5
      try clear hfz6_0
      try clear hfz6_1
      try clear hfz6_2
      try clear hfz6_3
      try clear hfz6_4
      try clear hfz6_5
      obtain ⟨kq, x43_3, rfl, HA, HJ3, BK149, HB⟩ := hcut
      cases kq with
      | zero => exact absurd HA.out (by simp [timecode_Number.j0])
      | succ kj3 =>
        have H := HA.out
        clear HA
        simp only [timecode_Number.j0] at H
        by_cases c19 : x43_3 = true
        · subst c19
          have H1 : (some (0, 2)) = some (r1, r2) := by rw [if_pos rfl] at H; exact H
          clear H
          have H := H1
          clear H1
          simp only [Option.some.injEq, Prod.mk.injEq] at H
          obtain ⟨rfl, rfl⟩ := H
          go_wp2
          go_ret2
          exact ⟨by first | rfl | (simp [errW_none, errW_some] <;> rfl) | (simp [*, errW_none, errW_some] <;> rfl), by repeat (first | (with_reducible first | exact HB.out | apply below_alloc | apply pw_below_drewN | apply below_drew1 | refine below_set ?_ GE149.out) | exact HB.out)⟩
        · replace c19 := Bool.eq_false_iff.mpr c19
          subst c19
          have H1 : ((timecode_dropped.f a0_4 a0_5).bind fun t156 => (if (Int.tmod a0_1 10) = 0 then (some (wrap64 ((wrap64 ((wrap64 ((wrap64 ((wrap64 ((wrap64 ((wrap64 (a0_0 * 60)) + a0_1)) * 60)) + a0_2)) * a0_4)) + a0_3)) - (wrap64 (t156 * (wrap64 ((wrap64 ((wrap64 (a0_0 * 60)) + a0_1)) - (wrap64 (Int.tdiv (wrap64 ((wrap64 (a0_0 * 60)) + a0_1)) 10))))))), 0)) else (if a0_2 = 0 then (if a0_3 < t156 then (some (0, 2)) else (some (wrap64 ((wrap64 ((wrap64 ((wrap64 ((wrap64 ((wrap64 ((wrap64 (a0_0 * 60)) + a0_1)) * 60)) + a0_2)) * a0_4)) + a0_3)) - (wrap64 (t156 * (wrap64 ((wrap64 ((wrap64 (a0_0 * 60)) + a0_1)) - (wrap64 (Int.tdiv (wrap64 ((wrap64 (a0_0 * 60)) + a0_1)) 10))))))), 0))) else (some (wrap64 ((wrap64 ((wrap64 ((wrap64 ((wrap64 ((wrap64 ((wrap64 (a0_0 * 60)) + a0_1)) * 60)) + a0_2)) * a0_4)) + a0_3)) - (wrap64 (t156 * (wrap64 ((wrap64 ((wrap64 (a0_0 * 60)) + a0_1)) - (wrap64 (Int.tdiv (wrap64 ((wrap64 (a0_0 * 60)) + a0_1)) 10))))))), 0))))) = some (r1, r2) := by rw [if_neg (show ¬ (false = true) by decide)] at H; exact H
          clear H
          have H := H1
          clear H1
          replace H := Option.bind_eq_some_iff.mp H
          obtain ⟨t156, A200, H⟩ := H
          replace H : (if (Int.tmod a0_1 10) = 0 then (some (wrap64 ((wrap64 ((wrap64 ((wrap64 ((wrap64 ((wrap64 ((wrap64 (a0_0 * 60)) + a0_1)) * 60)) + a0_2)) * a0_4)) + a0_3)) - (wrap64 (t156 * (wrap64 ((wrap64 ((wrap64 (a0_0 * 60)) + a0_1)) - (wrap64 (Int.tdiv (wrap64 ((wrap64 (a0_0 * 60)) + a0_1)) 10))))))), 0)) else (if a0_2 = 0 then (if a0_3 < t156 then (some (0, 2)) else (some (wrap64 ((wrap64 ((wrap64 ((wrap64 ((wrap64 ((wrap64 ((wrap64 (a0_0 * 60)) + a0_1)) * 60)) + a0_2)) * a0_4)) + a0_3)) - (wrap64 (t156 * (wrap64 ((wrap64 ((wrap64 (a0_0 * 60)) + a0_1)) - (wrap64 (Int.tdiv (wrap64 ((wrap64 (a0_0 * 60)) + a0_1)) 10))))))), 0))) else (some (wrap64 ((wrap64 ((wrap64 ((wrap64 ((wrap64 ((wrap64 ((wrap64 (a0_0 * 60)) + a0_1)) * 60)) + a0_2)) * a0_4)) + a0_3)) - (wrap64 (t156 * (wrap64 ((wrap64 ((wrap64 (a0_0 * 60)) + a0_1)) - (wrap64 (Int.tdiv (wrap64 ((wrap64 (a0_0 * 60)) + a0_1)) 10))))))), 0)))) = some (r1, r2) := H
          have A20 := Aside0.mk A200
          clear A200
          by_cases c21 : (Int.tmod a0_1 10) = 0
          · rw [if_pos c21] at H
            have c21b0 : ((Int.tmod a0_1 10) == 0) = true := beq_iff_eq.mpr c21
            have c21b1 : ((Int.tmod a0_1 10) != 0) = false := bne_eq_false_iff_eq.mpr c21
            clear c21
            simp only [Option.some.injEq, Prod.mk.injEq] at H
            obtain ⟨rfl, rfl⟩ := H
            have hcz22_0 : wc.cell? ⟨gb149, 0, none⟩ = some (.int .i64 a0_0) := (blk_cell BK149.out 0).trans rfl
            have hcz22_1 : wc.cell? ⟨gb149, 1, none⟩ = some (.int .i64 a0_1) := (blk_cell BK149.out 1).trans rfl
            have hcz22_2 : wc.cell? ⟨gb149, 2, none⟩ = some (.int .i64 a0_2) := (blk_cell BK149.out 2).trans rfl
            have hcz22_3 : wc.cell? ⟨gb149, 3, none⟩ = some (.int .i64 a0_3) := (blk_cell BK149.out 3).trans rfl
            have hcz22_4 : wc.cell? ⟨gb149, 4, none⟩ = some (.int .i64 a0_4) := (blk_cell BK149.out 4).trans rfl
            have hcz22_5 : wc.cell? ⟨gb149, 5, none⟩ = some (.bool a0_5) := (blk_cell BK149.out 5).trans rfl
            have hfz22_0 := blk_frozen BK149.out 0
            have hfz22_1 := blk_frozen BK149.out 1
            have hfz22_2 := blk_frozen BK149.out 2
            have hfz22_3 := blk_frozen BK149.out 3
            have hfz22_4 := blk_frozen BK149.out 4
            have hfz22_5 := blk_frozen BK149.out 5
            go_wp2_with (first | ((with_reducible refine gate_callee (f := 43) rfl ?_); refine goesL_ (some 48) rfl rfl Try.func43 (by kernel_rfl) rfl #[.int .i64 a0_4, .bool a0_5] rfl (by (try simp only [List.map_toArray, List.map_cons, List.map_nil]); first | done | rfl | (simp only [List.length_drop, List.length_take]; rfl)) ?_; (with_reducible refine (timecode_dropped.calls a0_4 a0_5 t156 _ A20.out).mono ?_); rintro e w' ⟨rfl, ⟨nd, rfl⟩⟩; refine ⟨_, rfl, ?_⟩))
            go_ret2
            exact ⟨by first | rfl | (simp [errW_none, errW_some] <;> rfl) | (simp [*, errW_none, errW_some] <;> rfl), by repeat (first | (with_reducible first | exact HB.out | apply below_alloc | apply pw_below_drewN | apply below_drew1 | refine below_set ?_ GE149.out) | exact HB.out)⟩
          · rw [if_neg c21] at H
            have c21b0 : ((Int.tmod a0_1 10) == 0) = false := beq_eq_false_iff_ne.mpr c21
            have c21b1 : ((Int.tmod a0_1 10) != 0) = true := bne_iff_ne.mpr c21
            by_cases c23 : a0_2 = 0
            · rw [if_pos c23] at H
              have c23b0 : (a0_2 == 0) = true := beq_iff_eq.mpr c23
              have c23b1 : (a0_2 != 0) = false := bne_eq_false_iff_eq.mpr c23
              clear c23
              by_cases c24 : a0_3 < t156
              · rw [if_pos c24] at H
                have c24b0 : decide (a0_3 < t156) = true := decide_eq_true c24
                clear c24
                simp only [Option.some.injEq, Prod.mk.injEq] at H
                obtain ⟨rfl, rfl⟩ := H
                have hcz25_0 : wc.cell? ⟨gb149, 0, none⟩ = some (.int .i64 a0_0) := (blk_cell BK149.out 0).trans rfl
                have hcz25_1 : wc.cell? ⟨gb149, 1, none⟩ = some (.int .i64 a0_1) := (blk_cell BK149.out 1).trans rfl
                have hcz25_2 : wc.cell? ⟨gb149, 2, none⟩ = some (.int .i64 a0_2) := (blk_cell BK149.out 2).trans rfl
                have hcz25_3 : wc.cell? ⟨gb149, 3, none⟩ = some (.int .i64 a0_3) := (blk_cell BK149.out 3).trans rfl
                have hcz25_4 : wc.cell? ⟨gb149, 4, none⟩ = some (.int .i64 a0_4) := (blk_cell BK149.out 4).trans rfl
                have hcz25_5 : wc.cell? ⟨gb149, 5, none⟩ = some (.bool a0_5) := (blk_cell BK149.out 5).trans rfl
                have hfz25_0 := blk_frozen BK149.out 0
                have hfz25_1 := blk_frozen BK149.out 1
                have hfz25_2 := blk_frozen BK149.out 2
                have hfz25_3 := blk_frozen BK149.out 3
                have hfz25_4 := blk_frozen BK149.out 4
                have hfz25_5 := blk_frozen BK149.out 5
                go_wp2_with (first | ((with_reducible refine gate_callee (f := 43) rfl ?_); refine goesL_ (some 48) rfl rfl Try.func43 (by kernel_rfl) rfl #[.int .i64 a0_4, .bool a0_5] rfl (by (try simp only [List.map_toArray, List.map_cons, List.map_nil]); first | done | rfl | (simp only [List.length_drop, List.length_take]; rfl)) ?_; (with_reducible refine (timecode_dropped.calls a0_4 a0_5 t156 _ A20.out).mono ?_); rintro e w' ⟨rfl, ⟨nd, rfl⟩⟩; refine ⟨_, rfl, ?_⟩))
                go_ret2
                exact ⟨by first | rfl | (simp [errW_none, errW_some] <;> rfl) | (simp [*, errW_none, errW_some] <;> rfl), by repeat (first | (with_reducible first | exact HB.out | apply below_alloc | apply pw_below_drewN | apply below_drew1 | refine below_set ?_ GE149.out) | exact HB.out)⟩
              · rw [if_neg c24] at H
                have c24b0 : decide (a0_3 < t156) = false := decide_eq_false c24
                clear c24
                simp only [Option.some.injEq, Prod.mk.injEq] at H
                obtain ⟨rfl, rfl⟩ := H
                have hcz26_0 : wc.cell? ⟨gb149, 0, none⟩ = some (.int .i64 a0_0) := (blk_cell BK149.out 0).trans rfl
                have hcz26_1 : wc.cell? ⟨gb149, 1, none⟩ = some (.int .i64 a0_1) := (blk_cell BK149.out 1).trans rfl
                have hcz26_2 : wc.cell? ⟨gb149, 2, none⟩ = some (.int .i64 a0_2) := (blk_cell BK149.out 2).trans rfl
                have hcz26_3 : wc.cell? ⟨gb149, 3, none⟩ = some (.int .i64 a0_3) := (blk_cell BK149.out 3).trans rfl
                have hcz26_4 : wc.cell? ⟨gb149, 4, none⟩ = some (.int .i64 a0_4) := (blk_cell BK149.out 4).trans rfl
                have hcz26_5 : wc.cell? ⟨gb149, 5, none⟩ = some (.bool a0_5) := (blk_cell BK149.out 5).trans rfl
                have hfz26_0 := blk_frozen BK149.out 0
                have hfz26_1 := blk_frozen BK149.out 1
                have hfz26_2 := blk_frozen BK149.out 2
                have hfz26_3 := blk_frozen BK149.out 3
                have hfz26_4 := blk_frozen BK149.out 4
                have hfz26_5 := blk_frozen BK149.out 5
                go_wp2_with (first | ((with_reducible refine gate_callee (f := 43) rfl ?_); refine goesL_ (some 48) rfl rfl Try.func43 (by kernel_rfl) rfl #[.int .i64 a0_4, .bool a0_5] rfl (by (try simp only [List.map_toArray, List.map_cons, List.map_nil]); first | done | rfl | (simp only [List.length_drop, List.length_take]; rfl)) ?_; (with_reducible refine (timecode_dropped.calls a0_4 a0_5 t156 _ A20.out).mono ?_); rintro e w' ⟨rfl, ⟨nd, rfl⟩⟩; refine ⟨_, rfl, ?_⟩))
                go_ret2
                exact ⟨by first | rfl | (simp [errW_none, errW_some] <;> rfl) | (simp [*, errW_none, errW_some] <;> rfl), by repeat (first | (with_reducible first | exact HB.out | apply below_alloc | apply pw_below_drewN | apply below_drew1 | refine below_set ?_ GE149.out) | exact HB.out)⟩
            · rw [if_neg c23] at H
              have c23b0 : (a0_2 == 0) = false := beq_eq_false_iff_ne.mpr c23
              have c23b1 : (a0_2 != 0) = true := bne_iff_ne.mpr c23
              simp only [Option.some.injEq, Prod.mk.injEq] at H
              obtain ⟨rfl, rfl⟩ := H
              have hcz27_0 : wc.cell? ⟨gb149, 0, none⟩ = some (.int .i64 a0_0) := (blk_cell BK149.out 0).trans rfl
              have hcz27_1 : wc.cell? ⟨gb149, 1, none⟩ = some (.int .i64 a0_1) := (blk_cell BK149.out 1).trans rfl
              have hcz27_2 : wc.cell? ⟨gb149, 2, none⟩ = some (.int .i64 a0_2) := (blk_cell BK149.out 2).trans rfl
              have hcz27_3 : wc.cell? ⟨gb149, 3, none⟩ = some (.int .i64 a0_3) := (blk_cell BK149.out 3).trans rfl
              have hcz27_4 : wc.cell? ⟨gb149, 4, none⟩ = some (.int .i64 a0_4) := (blk_cell BK149.out 4).trans rfl
              have hcz27_5 : wc.cell? ⟨gb149, 5, none⟩ = some (.bool a0_5) := (blk_cell BK149.out 5).trans rfl
              have hfz27_0 := blk_frozen BK149.out 0
              have hfz27_1 := blk_frozen BK149.out 1
              have hfz27_2 := blk_frozen BK149.out 2
              have hfz27_3 := blk_frozen BK149.out 3
              have hfz27_4 := blk_frozen BK149.out 4
              have hfz27_5 := blk_frozen BK149.out 5
              go_wp2_with (first | ((with_reducible refine gate_callee (f := 43) rfl ?_); refine goesL_ (some 48) rfl rfl Try.func43 (by kernel_rfl) rfl #[.int .i64 a0_4, .bool a0_5] rfl (by (try simp only [List.map_toArray, List.map_cons, List.map_nil]); first | done | rfl | (simp only [List.length_drop, List.length_take]; rfl)) ?_; (with_reducible refine (timecode_dropped.calls a0_4 a0_5 t156 _ A20.out).mono ?_); rintro e w' ⟨rfl, ⟨nd, rfl⟩⟩; refine ⟨_, rfl, ?_⟩))
              go_ret2
              exact ⟨by first | rfl | (simp [errW_none, errW_some] <;> rfl) | (simp [*, errW_none, errW_some] <;> rfl), by repeat (first | (with_reducible first | exact HB.out | apply below_alloc | apply pw_below_drewN | apply below_drew1 | refine below_set ?_ GE149.out) | exact HB.out)⟩
  · rw [if_neg c3] at H
    have c3b0 : (t151 == 0) = false := beq_eq_false_iff_ne.mpr c3
    have c3b1 : (t151 != 0) = true := bne_iff_ne.mpr c3
    simp only [Option.some.injEq, Prod.mk.injEq] at H
    obtain ⟨rfl, rfl⟩ := H
    go_enter Try.func25, Try.ntmps25
    go_wp2_with (first | ((with_reducible refine gate_dst (N := 1) rfl ?_); refine box_event ?hg (N := 1) ?hd (cs := #[.int .i64 a0_0, .int .i64 a0_1, .int .i64 a0_2, .int .i64 a0_3, .int .i64 a0_4, .bool a0_5]) (t := 34) ?hr ?_; (case hd => rfl); (case hg => rfl); (case hr => first | (go_simp; done) | (go_simp; rfl)); intro gb149 hg w28 hbox hb; have n0_ := Aside0.mk (below_step (by repeat (first | (with_reducible first | exact HB.out | apply below_alloc | apply pw_below_drewN | apply below_drew1) | exact HB.out)) hb); have n1_ := Aside0.mk (hbox); have n2_ := Aside0.mk ((by rw [hg]; exact (below_size (by repeat (first | (with_reducible first | exact HB.out | apply below_alloc | apply pw_below_drewN | apply below_drew1) | exact HB.out))) : w.heap.size ≤ gb149)); have n3_ := Aside0.mk ((by rw [hg]; exact (below_size (by repeat (first | (with_reducible first | exact HB.out | apply below_alloc | apply pw_below_drewN | apply below_drew1) | exact HB.out))) : w.heap.size ≤ gb149)); clear HB; have HB := n0_; have BK149 := n1_; have GW149 := n2_; have GE149 := n3_; clear n0_ n1_ n2_ n3_; clear hb hbox hg; have hcz29_0 : w28.cell? ⟨gb149, 0, none⟩ = some (.int .i64 a0_0) := (blk_cell BK149.out 0).trans rfl; have hcz29_1 : w28.cell? ⟨gb149, 1, none⟩ = some (.int .i64 a0_1) := (blk_cell BK149.out 1).trans rfl; have hcz29_2 : w28.cell? ⟨gb149, 2, none⟩ = some (.int .i64 a0_2) := (blk_cell BK149.out 2).trans rfl; have hcz29_3 : w28.cell? ⟨gb149, 3, none⟩ = some (.int .i64 a0_3) := (blk_cell BK149.out 3).trans rfl; have hcz29_4 : w28.cell? ⟨gb149, 4, none⟩ = some (.int .i64 a0_4) := (blk_cell BK149.out 4).trans rfl; have hcz29_5 : w28.cell? ⟨gb149, 5, none⟩ = some (.bool a0_5) := (blk_cell BK149.out 5).trans rfl; have hfz29_0 := blk_frozen BK149.out 0; have hfz29_1 := blk_frozen BK149.out 1; have hfz29_2 := blk_frozen BK149.out 2; have hfz29_3 := blk_frozen BK149.out 3; have hfz29_4 := blk_frozen BK149.out 4; have hfz29_5 := blk_frozen BK149.out 5) | ((with_reducible refine gate_callee (f := 21) rfl ?_); refine goesL_ (some 14) rfl rfl Try.func21 (by kernel_rfl) rfl #[.int .i64 a0_4, .bool a0_5] rfl (by (try simp only [List.map_toArray, List.map_cons, List.map_nil]); first | done | rfl | (simp only [List.length_drop, List.length_take]; rfl)) ?_; (with_reducible refine (timecode_Day.calls k a0_4 a0_5 t150 t151 _ A2.out).mono ?_); rintro e w30 ⟨rfl, hb⟩; refine ⟨_, rfl, ?_⟩; have n0_ := Aside0.mk (blk_below (g := gb149) (o := .cells #[.int .i64 a0_0, .int .i64 a0_1, .int .i64 a0_2, .int .i64 a0_3, .int .i64 a0_4, .bool a0_5] 34 (0, 0)) (by (with_reducible repeat (first | refine blk_drewN ?_ _ | refine blk_drew ?_ | refine blk_alloc ?_ _)); exact BK149.out) hb); have n1_ := Aside0.mk (below_step (by repeat (first | (with_reducible first | exact HB.out | apply below_alloc | apply pw_below_drewN | apply below_drew1 | refine below_set ?_ GE149.out) | exact HB.out)) hb); clear BK149; clear HB; have BK149 := n0_; have HB := n1_; clear n0_ n1_; (try clear hb); (try clear hb2); (try clear hk); (try clear hi)))
    go_ret2
    exact ⟨by first | rfl | (simp [errW_none, errW_some] <;> rfl) | (simp [*, errW_none, errW_some] <;> rfl), by repeat (first | (with_reducible first | exact HB.out | apply below_alloc | apply pw_below_drewN | apply below_drew1 | refine below_set ?_ GE149.out) | exact HB.out)⟩

/-! ### timecode_two: function 45 -/
def timecode_two.f (a0 : Int) : Option (ByteArray) := some (strOfNums (([(wrap64 (48 + (wrap64 (Int.tdiv a0 10)))) % 256, (wrap64 (48 + (Int.tmod a0 10))) % 256] : List Int)))
set_option maxHeartbeats 8000000 in
set_option maxRecDepth 100000 in
theorem timecode_two.calls (a0 : Int) (r : ByteArray) (w : World) (h : timecode_two.f a0 = some r) :
    Calls Try.prog 45 #[.int .i64 a0] w fun e w' => e = .returned (.string r) ∧ Below w.heap.size w w' := by
  have HB := Aside0.mk (Below.refl w.heap.size w)
  have H : (some (strOfNums (([(wrap64 (48 + (wrap64 (Int.tdiv a0 10)))) % 256, (wrap64 (48 + (Int.tmod a0 10))) % 256] : List Int)))) = some r := h
  clear h
  obtain ⟨y157, hy157⟩ : ∃ y_ : List Int, y_ = (([(wrap64 (48 + (wrap64 (Int.tdiv a0 10)))) % 256, (wrap64 (48 + (Int.tmod a0 10))) % 256] : List Int)) := ⟨_, rfl⟩
  replace H : (some (strOfNums y157)) = some r := by first | (rw [hy157]; with_reducible exact H) | (have H2_ := (Option.bind_some _ _).symm.trans H; rw [hy157]; with_reducible exact H2_) | (have H2_ := (Option.bind_some _ _).symm.trans H; with_reducible exact H2_) | with_reducible exact H | (rw [hy157]; exact H) | exact H
  have Ny157 := Aside0.mk hy157
  clear hy157
  obtain rfl := Option.some.inj H
  go_enter Try.func45, Try.ntmps45
  go_wp2_with (first | ((with_reducible refine gate_dst (N := 11) rfl ?_); refine Kd.R_lit (Kd.int .u8) _ 5 ?hg (N := 11) ?hd (xs := ([(wrap64 (48 + (wrap64 (Int.tdiv a0 10)))) % 256, (wrap64 (48 + (Int.tmod a0 10))) % 256] : List Int)) (inner := [.int .u8 ((wrap64 (48 + (wrap64 (Int.tdiv a0 10)))) % 256), .int .u8 ((wrap64 (48 + (Int.tmod a0 10))) % 256)]) (ok := fun _ => True) (okp := fun _ => True) ?hr ?hp (fun _ hk => hk) trivial (Below.refl _ _) (Nat.le_refl _) (by simp) ?_; (case hd => rfl); (case hg => rfl); (case hr => first | (go_simp; done) | (go_simp; rfl)); (case hp => exact (Reps.one (show Kd.M (Kd.int .u8) _ _ _ ((wrap64 (48 + (wrap64 (Int.tdiv a0 10)))) % 256) [.int .u8 ((wrap64 (48 + (wrap64 (Int.tdiv a0 10)))) % 256)] from rfl) (Reps.one (show Kd.M (Kd.int .u8) _ _ _ ((wrap64 (48 + (Int.tmod a0 10))) % 256) [.int .u8 ((wrap64 (48 + (Int.tmod a0 10))) % 256)] from rfl) (Reps.none _ _)))); intro v158 w2 ho3 hb hg_ hnew_; clear hg_ hnew_; (first | rw [← Ny157.out] at ho3 | (simp only [Int.reduceToNat] at ho3; rw [← Ny157.out] at ho3)); have n0_ := Aside0.mk (Kd.R_lower ho3 (below_size (by repeat (first | (with_reducible first | exact HB.out | apply below_alloc | apply pw_below_drewN | apply below_drew1) | exact HB.out)))); have n1_ := Aside0.mk (below_step (by repeat (first | (with_reducible first | exact HB.out | apply below_alloc | apply pw_below_drewN | apply below_drew1) | exact HB.out)) hb); clear HB; have HO159 := n0_; have HB := n1_; clear n0_ n1_; clear hb ho3; have hcv4 := own_string (P := Try.prog) Try.underlying74 Try.underlying5 Try.underlying9 (Kd.own_of_R HO159.out)))
  go_ret
  exact ⟨by first | rfl | (simp [errW_none, errW_some] <;> rfl) | (simp [*, errW_none, errW_some] <;> rfl), by repeat (first | (with_reducible first | exact HB.out | apply below_alloc | apply pw_below_drewN | apply below_drew1) | exact HB.out)⟩

end Go.Proofs.Ytfdhjnfpppafaaa.PTimecodeBases
