-- Written for this claim by a turned copy of the kit's print (wip/printx/mk.py). By an AI agent.
import Derived.Test.YtfdhjnfpppafaaaPTimecodeDriftsx0
import Derived.Test.YtfdhjnfpppafaaaPTimecodeDriftsx2
import Derived.Test.YtfdhjnfpppafaaaPTimecodeDriftsx3
namespace Go.Proofs.Ytfdhjnfpppafaaa.PTimecodeDrifts
open Go.RowKit Go.Proofs.YtfdhjnfpppafaaaW.PrintWords Go.Proofs.YtfdhjnfpppafaaaW.PrintLast Go.Proofs.YtfdhjnfpppafaaaW.PrintMore
attribute [local go_sem] max2_int min2_int max_two min_two max_three min_three max_four min_four   -- for this text's walks alone
set_option linter.unusedVariables false
set_option linter.unusedSimpArgs false

/-! ### timecode_Number: function 25 -/
def timecode_Number.j0 : Nat → Bool → Int → Int → Int → Int → Int → Bool → Option (Int × Int)
  | 0, _, _, _, _, _, _, _ => none
  | k + 1, x43, x141000, x141001, x141002, x141003, x141004, x141005 => if x43 = true then (some (0, 2)) else ((timecode_dropped.f x141004 x141005).bind fun t147 => (if (Int.tmod x141001 10) = 0 then (some (wrap64 ((wrap64 ((wrap64 ((wrap64 ((wrap64 ((wrap64 ((wrap64 (x141000 * 60)) + x141001)) * 60)) + x141002)) * x141004)) + x141003)) - (wrap64 (t147 * (wrap64 ((wrap64 ((wrap64 (x141000 * 60)) + x141001)) - (wrap64 (Int.tdiv (wrap64 ((wrap64 (x141000 * 60)) + x141001)) 10))))))), 0)) else (if x141002 = 0 then (if x141003 < t147 then (some (0, 2)) else (some (wrap64 ((wrap64 ((wrap64 ((wrap64 ((wrap64 ((wrap64 ((wrap64 (x141000 * 60)) + x141001)) * 60)) + x141002)) * x141004)) + x141003)) - (wrap64 (t147 * (wrap64 ((wrap64 ((wrap64 (x141000 * 60)) + x141001)) - (wrap64 (Int.tdiv (wrap64 ((wrap64 (x141000 * 60)) + x141001)) 10))))))), 0))) else (some (wrap64 ((wrap64 ((wrap64 ((wrap64 ((wrap64 ((wrap64 ((wrap64 (x141000 * 60)) + x141001)) * 60)) + x141002)) * x141004)) + x141003)) - (wrap64 (t147 * (wrap64 ((wrap64 ((wrap64 (x141000 * 60)) + x141001)) - (wrap64 (Int.tdiv (wrap64 ((wrap64 (x141000 * 60)) + x141001)) 10))))))), 0)))))
def timecode_Number.f (k : Nat) (a0_0 : Int) (a0_1 : Int) (a0_2 : Int) (a0_3 : Int) (a0_4 : Int) (a0_5 : Bool) : Option (Int × Int) := (timecode_Day.f k a0_4 a0_5).bind fun bt141 => (if bt141.2 = 0 then ((timecode_in.f a0_0 24).bind fun t143 => (if t143 = true then ((timecode_in.f a0_1 60).bind fun t144 => (if t144 = true then ((timecode_in.f a0_2 60).bind fun t145 => (if t145 = true then ((timecode_in.f a0_3 a0_4).bind fun t146 => (timecode_Number.j0 k (!t146) a0_0 a0_1 a0_2 a0_3 a0_4 a0_5)) else (timecode_Number.j0 k true a0_0 a0_1 a0_2 a0_3 a0_4 a0_5))) else (timecode_Number.j0 k true a0_0 a0_1 a0_2 a0_3 a0_4 a0_5))) else (timecode_Number.j0 k true a0_0 a0_1 a0_2 a0_3 a0_4 a0_5))) else (some (0, bt141.2)))
theorem timecode_Number.mono_l : ∀ k, (∀ y0 y1 y2 y3 y4 y5 y6, LeO (timecode_Number.j0 k y0 y1 y2 y3 y4 y5 y6) (timecode_Number.j0 (k + 1) y0 y1 y2 y3 y4 y5 y6))
  | 0 => fun _ _ _ _ _ _ _ r h => by simp [timecode_Number.j0] at h
  | k + 1 => by
    have ih0 := timecode_Number.mono_l k
    · intro y0 y1 y2 y3 y4 y5 y6
      unfold timecode_Number.j0
      repeat' first
      | (with_reducible exact ih0 _ _ _ _ _ _ _)
      | (with_reducible exact timecode_Day.mono _ _ _)
      | (with_reducible exact LeO.refl _)
      | (with_reducible exact LeO.none _)
      | (with_reducible refine LeO.ite ?_ ?_)
      | (with_reducible refine LeO.bind ?_ (fun _ => ?_))
      | exact ih0 _ _ _ _ _ _ _
      | exact timecode_Day.mono _ _ _
      | exact LeO.none _
      | refine LeO.ite ?_ ?_
      | refine LeO.bind ?_ (fun _ => ?_)
theorem timecode_Number.mono : ∀ a0 a1 a2 a3 a4 a5 k, LeO (timecode_Number.f k a0 a1 a2 a3 a4 a5) (timecode_Number.f (k + 1) a0 a1 a2 a3 a4 a5) := by
  intro a0 a1 a2 a3 a4 a5 k
  have ih0 := timecode_Number.mono_l k
  unfold timecode_Number.f
  repeat' first
      | (with_reducible exact ih0 _ _ _ _ _ _ _)
      | (with_reducible exact timecode_Day.mono _ _ _)
      | (with_reducible exact LeO.refl _)
      | (with_reducible exact LeO.none _)
      | (with_reducible refine LeO.ite ?_ ?_)
      | (with_reducible refine LeO.bind ?_ (fun _ => ?_))
      | exact ih0 _ _ _ _ _ _ _
      | exact timecode_Day.mono _ _ _
      | exact LeO.none _
      | refine LeO.ite ?_ ?_
      | refine LeO.bind ?_ (fun _ => ?_)
set_option maxHeartbeats 8000000 in
set_option maxRecDepth 100000 in
theorem timecode_Number.calls (k : Nat) (a0_0 : Int) (a0_1 : Int) (a0_2 : Int) (a0_3 : Int) (a0_4 : Int) (a0_5 : Bool) (r1 : Int) (r2 : Int) (w : World) (h : timecode_Number.f k a0_0 a0_1 a0_2 a0_3 a0_4 a0_5 = some (r1, r2)) :
    Calls Try.prog 25 #[.agg #[.int .i64 a0_0, .int .i64 a0_1, .int .i64 a0_2, .int .i64 a0_3, .int .i64 a0_4, .bool a0_5]] w fun e w' => e = .returned (.tuple #[.int .i64 r1, .int .i64 r2]) ∧ Below w.heap.size w w' := by
  have hu34 := Try.underlying34
  have HB := Aside0.mk (Below.refl w.heap.size w)
  have H : ((timecode_Day.f k a0_4 a0_5).bind fun bt141 => (if bt141.2 = 0 then ((timecode_in.f a0_0 24).bind fun t143 => (if t143 = true then ((timecode_in.f a0_1 60).bind fun t144 => (if t144 = true then ((timecode_in.f a0_2 60).bind fun t145 => (if t145 = true then ((timecode_in.f a0_3 a0_4).bind fun t146 => (timecode_Number.j0 k (!t146) a0_0 a0_1 a0_2 a0_3 a0_4 a0_5)) else (timecode_Number.j0 k true a0_0 a0_1 a0_2 a0_3 a0_4 a0_5))) else (timecode_Number.j0 k true a0_0 a0_1 a0_2 a0_3 a0_4 a0_5))) else (timecode_Number.j0 k true a0_0 a0_1 a0_2 a0_3 a0_4 a0_5))) else (some (0, bt141.2)))) = some (r1, r2) := h
  clear h
  replace H := Option.bind_eq_some_iff.mp H
  obtain ⟨⟨t141, t142⟩, A20, H⟩ := H
  replace H : (if t142 = 0 then ((timecode_in.f a0_0 24).bind fun t143 => (if t143 = true then ((timecode_in.f a0_1 60).bind fun t144 => (if t144 = true then ((timecode_in.f a0_2 60).bind fun t145 => (if t145 = true then ((timecode_in.f a0_3 a0_4).bind fun t146 => (timecode_Number.j0 k (!t146) a0_0 a0_1 a0_2 a0_3 a0_4 a0_5)) else (timecode_Number.j0 k true a0_0 a0_1 a0_2 a0_3 a0_4 a0_5))) else (timecode_Number.j0 k true a0_0 a0_1 a0_2 a0_3 a0_4 a0_5))) else (timecode_Number.j0 k true a0_0 a0_1 a0_2 a0_3 a0_4 a0_5))) else (some (0, t142))) = some (r1, r2) := H
  have A2 := Aside0.mk A20
  clear A20
  by_cases c3 : t142 = 0
  · rw [if_pos c3] at H
    have c3b0 : (t142 == 0) = true := beq_iff_eq.mpr c3
    have c3b1 : (t142 != 0) = false := bne_eq_false_iff_eq.mpr c3
    clear c3
    have HC4 := Aside0.mk H
    clear H
    go_enter Try.func25, Try.ntmps25
    go_upto_region 4 with (first | ((with_reducible refine gate_dst (N := 1) rfl ?_); refine box_event ?hg (N := 1) ?hd (cs := #[.int .i64 a0_0, .int .i64 a0_1, .int .i64 a0_2, .int .i64 a0_3, .int .i64 a0_4, .bool a0_5]) (t := 34) ?hr ?_; (case hd => rfl); (case hg => rfl); (case hr => first | (go_simp; done) | (go_simp; rfl)); intro gb140 hg w5 hbox hb; have n0_ := Aside0.mk (below_step (by repeat (first | (with_reducible first | exact HB.out | apply below_alloc | apply pw_below_drewN | apply below_drew1) | exact HB.out)) hb); have n1_ := Aside0.mk (hbox); have n2_ := Aside0.mk ((by rw [hg]; exact (below_size (by repeat (first | (with_reducible first | exact HB.out | apply below_alloc | apply pw_below_drewN | apply below_drew1) | exact HB.out))) : w.heap.size ≤ gb140)); have n3_ := Aside0.mk ((by rw [hg]; exact (below_size (by repeat (first | (with_reducible first | exact HB.out | apply below_alloc | apply pw_below_drewN | apply below_drew1) | exact HB.out))) : w.heap.size ≤ gb140)); clear HB; have HB := n0_; have BK140 := n1_; have GW140 := n2_; have GE140 := n3_; clear n0_ n1_ n2_ n3_; clear hb hbox hg; have hcz6_0 : w5.cell? ⟨gb140, 0, none⟩ = some (.int .i64 a0_0) := (blk_cell BK140.out 0).trans rfl; have hcz6_1 : w5.cell? ⟨gb140, 1, none⟩ = some (.int .i64 a0_1) := (blk_cell BK140.out 1).trans rfl; have hcz6_2 : w5.cell? ⟨gb140, 2, none⟩ = some (.int .i64 a0_2) := (blk_cell BK140.out 2).trans rfl; have hcz6_3 : w5.cell? ⟨gb140, 3, none⟩ = some (.int .i64 a0_3) := (blk_cell BK140.out 3).trans rfl; have hcz6_4 : w5.cell? ⟨gb140, 4, none⟩ = some (.int .i64 a0_4) := (blk_cell BK140.out 4).trans rfl; have hcz6_5 : w5.cell? ⟨gb140, 5, none⟩ = some (.bool a0_5) := (blk_cell BK140.out 5).trans rfl; have hfz6_0 := blk_frozen BK140.out 0; have hfz6_1 := blk_frozen BK140.out 1; have hfz6_2 := blk_frozen BK140.out 2; have hfz6_3 := blk_frozen BK140.out 3; have hfz6_4 := blk_frozen BK140.out 4; have hfz6_5 := blk_frozen BK140.out 5) | ((with_reducible refine gate_callee (f := 21) rfl ?_); refine goesL_ (some 14) rfl rfl Try.func21 (by kernel_rfl) rfl #[.int .i64 a0_4, .bool a0_5] rfl (by (try simp only [List.map_toArray, List.map_cons, List.map_nil]); first | done | rfl | (simp only [List.length_drop, List.length_take]; rfl)) ?_; (with_reducible refine (timecode_Day.calls k a0_4 a0_5 t141 t142 _ A2.out).mono ?_); rintro e w7 ⟨rfl, hb⟩; refine ⟨_, rfl, ?_⟩; have n0_ := Aside0.mk (blk_below (g := gb140) (o := .cells #[.int .i64 a0_0, .int .i64 a0_1, .int .i64 a0_2, .int .i64 a0_3, .int .i64 a0_4, .bool a0_5] 34 (0, 0)) (by (with_reducible repeat (first | refine blk_drewN ?_ _ | refine blk_drew ?_ | refine blk_alloc ?_ _)); exact BK140.out) hb); have n1_ := Aside0.mk (below_step (by repeat (first | (with_reducible first | exact HB.out | apply below_alloc | apply pw_below_drewN | apply below_drew1 | refine below_set ?_ GE140.out) | exact HB.out)) hb); clear BK140; clear HB; have BK140 := n0_; have HB := n1_; clear n0_ n1_; (try clear hb); (try clear hb2); (try clear hk); (try clear hi)))
    (try simp only [Act.put, List.setIfInBounds_toArray, List.set_cons_zero, List.set_cons_succ])
    go_cut [43] (fun v43 wc => ∃ (kq : Nat) (x43_3 : Bool), v43 = .bool x43_3 ∧ Aside0 (timecode_Number.j0 kq x43_3 a0_0 a0_1 a0_2 a0_3 a0_4 a0_5 = some (r1, r2)) ∧ Aside0 (kq ≤ k) ∧ Aside0 (wc.heap[gb140]? = some (.cells #[.int .i64 a0_0, .int .i64 a0_1, .int .i64 a0_2, .int .i64 a0_3, .int .i64 a0_4, .bool a0_5] 34 (0, 0))) ∧ Aside0 (Below w.heap.size w wc))
    case first =>
      have H := HC4.out
      clear HC4
      replace H := Option.bind_eq_some_iff.mp H
      obtain ⟨t143, A80, H⟩ := H
      replace H : (if t143 = true then ((timecode_in.f a0_1 60).bind fun t144 => (if t144 = true then ((timecode_in.f a0_2 60).bind fun t145 => (if t145 = true then ((timecode_in.f a0_3 a0_4).bind fun t146 => (timecode_Number.j0 k (!t146) a0_0 a0_1 a0_2 a0_3 a0_4 a0_5)) else (timecode_Number.j0 k true a0_0 a0_1 a0_2 a0_3 a0_4 a0_5))) else (timecode_Number.j0 k true a0_0 a0_1 a0_2 a0_3 a0_4 a0_5))) else (timecode_Number.j0 k true a0_0 a0_1 a0_2 a0_3 a0_4 a0_5)) = some (r1, r2) := H
      have A8 := Aside0.mk A80
      clear A80
      by_cases c9 : t143 = true
      · subst c9
        have H1 : ((timecode_in.f a0_1 60).bind fun t144 => (if t144 = true then ((timecode_in.f a0_2 60).bind fun t145 => (if t145 = true then ((timecode_in.f a0_3 a0_4).bind fun t146 => (timecode_Number.j0 k (!t146) a0_0 a0_1 a0_2 a0_3 a0_4 a0_5)) else (timecode_Number.j0 k true a0_0 a0_1 a0_2 a0_3 a0_4 a0_5))) else (timecode_Number.j0 k true a0_0 a0_1 a0_2 a0_3 a0_4 a0_5))) = some (r1, r2) := by rw [if_pos rfl] at H; exact H
        clear H
        have H := H1
        clear H1
        replace H := Option.bind_eq_some_iff.mp H
        obtain ⟨t144, A100, H⟩ := H
        replace H : (if t144 = true then ((timecode_in.f a0_2 60).bind fun t145 => (if t145 = true then ((timecode_in.f a0_3 a0_4).bind fun t146 => (timecode_Number.j0 k (!t146) a0_0 a0_1 a0_2 a0_3 a0_4 a0_5)) else (timecode_Number.j0 k true a0_0 a0_1 a0_2 a0_3 a0_4 a0_5))) else (timecode_Number.j0 k true a0_0 a0_1 a0_2 a0_3 a0_4 a0_5)) = some (r1, r2) := H
        have A10 := Aside0.mk A100
        clear A100
        by_cases c11 : t144 = true
        · subst c11
          have H1 : ((timecode_in.f a0_2 60).bind fun t145 => (if t145 = true then ((timecode_in.f a0_3 a0_4).bind fun t146 => (timecode_Number.j0 k (!t146) a0_0 a0_1 a0_2 a0_3 a0_4 a0_5)) else (timecode_Number.j0 k true a0_0 a0_1 a0_2 a0_3 a0_4 a0_5))) = some (r1, r2) := by rw [if_pos rfl] at H; exact H
          clear H
          have H := H1
          clear H1
          replace H := Option.bind_eq_some_iff.mp H
          obtain ⟨t145, A120, H⟩ := H
          replace H : (if t145 = true then ((timecode_in.f a0_3 a0_4).bind fun t146 => (timecode_Number.j0 k (!t146) a0_0 a0_1 a0_2 a0_3 a0_4 a0_5)) else (timecode_Number.j0 k true a0_0 a0_1 a0_2 a0_3 a0_4 a0_5)) = some (r1, r2) := H
          have A12 := Aside0.mk A120
          clear A120
          by_cases c13 : t145 = true
          · subst c13
            have H1 : ((timecode_in.f a0_3 a0_4).bind fun t146 => (timecode_Number.j0 k (!t146) a0_0 a0_1 a0_2 a0_3 a0_4 a0_5)) = some (r1, r2) := by rw [if_pos rfl] at H; exact H
            clear H
            have H := H1
            clear H1
            replace H := Option.bind_eq_some_iff.mp H
            obtain ⟨t146, A140, H⟩ := H
            replace H : (timecode_Number.j0 k (!t146) a0_0 a0_1 a0_2 a0_3 a0_4 a0_5) = some (r1, r2) := H
            have A14 := Aside0.mk A140
            clear A140
            have H' := Aside0.mk H
            clear H
            have hcz15_0 : w7.cell? ⟨gb140, 0, none⟩ = some (.int .i64 a0_0) := (blk_cell BK140.out 0).trans rfl
            have hcz15_1 : w7.cell? ⟨gb140, 1, none⟩ = some (.int .i64 a0_1) := (blk_cell BK140.out 1).trans rfl
            have hcz15_2 : w7.cell? ⟨gb140, 2, none⟩ = some (.int .i64 a0_2) := (blk_cell BK140.out 2).trans rfl
            have hcz15_3 : w7.cell? ⟨gb140, 3, none⟩ = some (.int .i64 a0_3) := (blk_cell BK140.out 3).trans rfl
            have hcz15_4 : w7.cell? ⟨gb140, 4, none⟩ = some (.int .i64 a0_4) := (blk_cell BK140.out 4).trans rfl
            have hcz15_5 : w7.cell? ⟨gb140, 5, none⟩ = some (.bool a0_5) := (blk_cell BK140.out 5).trans rfl
            have hfz15_0 := blk_frozen BK140.out 0
            have hfz15_1 := blk_frozen BK140.out 1
            have hfz15_2 := blk_frozen BK140.out 2
            have hfz15_3 := blk_frozen BK140.out 3
            have hfz15_4 := blk_frozen BK140.out 4
            have hfz15_5 := blk_frozen BK140.out 5
            go_wp2_with (first | ((with_reducible refine gate_callee (f := 44) rfl ?_); refine goesL_ (some 22) rfl rfl Try.func44 (by kernel_rfl) rfl #[.int .i64 a0_0, .int .i64 24] rfl (by (try simp only [List.map_toArray, List.map_cons, List.map_nil]); first | done | rfl | (simp only [List.length_drop, List.length_take]; rfl)) ?_; (with_reducible refine (timecode_in.calls a0_0 24 true _ A8.out).mono ?_); rintro e w' ⟨rfl, ⟨nd, rfl⟩⟩; refine ⟨_, rfl, ?_⟩) | (go_at_call 44; (with_reducible refine (timecode_in.calls a0_1 60 true _ A10.out).mono ?_); rintro e w' ⟨rfl, ⟨nd, rfl⟩⟩) | (go_at_call 44; (with_reducible refine (timecode_in.calls a0_2 60 true _ A12.out).mono ?_); rintro e w' ⟨rfl, ⟨nd, rfl⟩⟩) | (go_at_call 44; (with_reducible refine (timecode_in.calls a0_3 a0_4 t146 _ A14.out).mono ?_); rintro e w' ⟨rfl, ⟨nd, rfl⟩⟩))
            go_meet
            case rel => exact ⟨_, (!t146), (by first | rfl | (simp; done) | (simp [*]; done)), H', ⟨by first | omega | exact Nat.le_refl _⟩, ⟨by (with_reducible repeat (first | refine blk_drewN ?_ _ | refine blk_drew ?_ | refine blk_alloc ?_ _)); exact BK140.out⟩, ⟨by repeat (first | (with_reducible first | exact HB.out | apply below_alloc | apply pw_below_drewN | apply below_drew1 | refine below_set ?_ GE140.out) | exact HB.out)⟩⟩
          · replace c13 := Bool.eq_false_iff.mpr c13
            subst c13
            have H1 : (timecode_Number.j0 k true a0_0 a0_1 a0_2 a0_3 a0_4 a0_5) = some (r1, r2) := by rw [if_neg (show ¬ (false = true) by decide)] at H; exact H
            clear H
            have H := H1
            clear H1
            have H' := Aside0.mk H
            clear H
            have hcz16_0 : w7.cell? ⟨gb140, 0, none⟩ = some (.int .i64 a0_0) := (blk_cell BK140.out 0).trans rfl
            have hcz16_1 : w7.cell? ⟨gb140, 1, none⟩ = some (.int .i64 a0_1) := (blk_cell BK140.out 1).trans rfl
            have hcz16_2 : w7.cell? ⟨gb140, 2, none⟩ = some (.int .i64 a0_2) := (blk_cell BK140.out 2).trans rfl
            have hcz16_3 : w7.cell? ⟨gb140, 3, none⟩ = some (.int .i64 a0_3) := (blk_cell BK140.out 3).trans rfl
            have hcz16_4 : w7.cell? ⟨gb140, 4, none⟩ = some (.int .i64 a0_4) := (blk_cell BK140.out 4).trans rfl
            have hcz16_5 : w7.cell? ⟨gb140, 5, none⟩ = some (.bool a0_5) := (blk_cell BK140.out 5).trans rfl
            have hfz16_0 := blk_frozen BK140.out 0
            have hfz16_1 := blk_frozen BK140.out 1
            have hfz16_2 := blk_frozen BK140.out 2
            have hfz16_3 := blk_frozen BK140.out 3
            have hfz16_4 := blk_frozen BK140.out 4
            have hfz16_5 := blk_frozen BK140.out 5
            go_wp2_with (first | ((with_reducible refine gate_callee (f := 44) rfl ?_); refine goesL_ (some 22) rfl rfl Try.func44 (by kernel_rfl) rfl #[.int .i64 a0_0, .int .i64 24] rfl (by (try simp only [List.map_toArray, List.map_cons, List.map_nil]); first | done | rfl | (simp only [List.length_drop, List.length_take]; rfl)) ?_; (with_reducible refine (timecode_in.calls a0_0 24 true _ A8.out).mono ?_); rintro e w' ⟨rfl, ⟨nd, rfl⟩⟩; refine ⟨_, rfl, ?_⟩) | (go_at_call 44; (with_reducible refine (timecode_in.calls a0_1 60 true _ A10.out).mono ?_); rintro e w' ⟨rfl, ⟨nd, rfl⟩⟩) | (go_at_call 44; (with_reducible refine (timecode_in.calls a0_2 60 false _ A12.out).mono ?_); rintro e w' ⟨rfl, ⟨nd, rfl⟩⟩))
            go_meet
            case rel => exact ⟨_, (true), (by first | rfl | (simp; done) | (simp [*]; done)), H', ⟨by first | omega | exact Nat.le_refl _⟩, ⟨by (with_reducible repeat (first | refine blk_drewN ?_ _ | refine blk_drew ?_ | refine blk_alloc ?_ _)); exact BK140.out⟩, ⟨by repeat (first | (with_reducible first | exact HB.out | apply below_alloc | apply pw_below_drewN | apply below_drew1 | refine below_set ?_ GE140.out) | exact HB.out)⟩⟩
        · replace c11 := Bool.eq_false_iff.mpr c11
          subst c11
          have H1 : (timecode_Number.j0 k true a0_0 a0_1 a0_2 a0_3 a0_4 a0_5) = some (r1, r2) := by rw [if_neg (show ¬ (false = true) by decide)] at H; exact H
          clear H
          have H := H1
          clear H1
          have H' := Aside0.mk H
          clear H
          have hcz17_0 : w7.cell? ⟨gb140, 0, none⟩ = some (.int .i64 a0_0) := (blk_cell BK140.out 0).trans rfl
          have hcz17_1 : w7.cell? ⟨gb140, 1, none⟩ = some (.int .i64 a0_1) := (blk_cell BK140.out 1).trans rfl
          have hcz17_2 : w7.cell? ⟨gb140, 2, none⟩ = some (.int .i64 a0_2) := (blk_cell BK140.out 2).trans rfl
          have hcz17_3 : w7.cell? ⟨gb140, 3, none⟩ = some (.int .i64 a0_3) := (blk_cell BK140.out 3).trans rfl
          have hcz17_4 : w7.cell? ⟨gb140, 4, none⟩ = some (.int .i64 a0_4) := (blk_cell BK140.out 4).trans rfl
          have hcz17_5 : w7.cell? ⟨gb140, 5, none⟩ = some (.bool a0_5) := (blk_cell BK140.out 5).trans rfl
          have hfz17_0 := blk_frozen BK140.out 0
          have hfz17_1 := blk_frozen BK140.out 1
          have hfz17_2 := blk_frozen BK140.out 2
          have hfz17_3 := blk_frozen BK140.out 3
          have hfz17_4 := blk_frozen BK140.out 4
          have hfz17_5 := blk_frozen BK140.out 5
          go_wp2_with (first | ((with_reducible refine gate_callee (f := 44) rfl ?_); refine goesL_ (some 22) rfl rfl Try.func44 (by kernel_rfl) rfl #[.int .i64 a0_0, .int .i64 24] rfl (by (try simp only [List.map_toArray, List.map_cons, List.map_nil]); first | done | rfl | (simp only [List.length_drop, List.length_take]; rfl)) ?_; (with_reducible refine (timecode_in.calls a0_0 24 true _ A8.out).mono ?_); rintro e w' ⟨rfl, ⟨nd, rfl⟩⟩; refine ⟨_, rfl, ?_⟩) | (go_at_call 44; (with_reducible refine (timecode_in.calls a0_1 60 false _ A10.out).mono ?_); rintro e w' ⟨rfl, ⟨nd, rfl⟩⟩))
          go_meet
          case rel => exact ⟨_, (true), (by first | rfl | (simp; done) | (simp [*]; done)), H', ⟨by first | omega | exact Nat.le_refl _⟩, ⟨by (with_reducible repeat (first | refine blk_drewN ?_ _ | refine blk_drew ?_ | refine blk_alloc ?_ _)); exact BK140.out⟩, ⟨by repeat (first | (with_reducible first | exact HB.out | apply below_alloc | apply pw_below_drewN | apply below_drew1 | refine below_set ?_ GE140.out) | exact HB.out)⟩⟩
      · replace c9 := Bool.eq_false_iff.mpr c9
        subst c9
        have H1 : (timecode_Number.j0 k true a0_0 a0_1 a0_2 a0_3 a0_4 a0_5) = some (r1, r2) := by rw [if_neg (show ¬ (false = true) by decide)] at H; exact H
        clear H
        have H := H1
        clear H1
        have H' := Aside0.mk H
        clear H
        have hcz18_0 : w7.cell? ⟨gb140, 0, none⟩ = some (.int .i64 a0_0) := (blk_cell BK140.out 0).trans rfl
        have hcz18_1 : w7.cell? ⟨gb140, 1, none⟩ = some (.int .i64 a0_1) := (blk_cell BK140.out 1).trans rfl
        have hcz18_2 : w7.cell? ⟨gb140, 2, none⟩ = some (.int .i64 a0_2) := (blk_cell BK140.out 2).trans rfl
        have hcz18_3 : w7.cell? ⟨gb140, 3, none⟩ = some (.int .i64 a0_3) := (blk_cell BK140.out 3).trans rfl
        have hcz18_4 : w7.cell? ⟨gb140, 4, none⟩ = some (.int .i64 a0_4) := (blk_cell BK140.out 4).trans rfl
        have hcz18_5 : w7.cell? ⟨gb140, 5, none⟩ = some (.bool a0_5) := (blk_cell BK140.out 5).trans rfl
        have hfz18_0 := blk_frozen BK140.out 0
        have hfz18_1 := blk_frozen BK140.out 1
        have hfz18_2 := blk_frozen BK140.out 2
        have hfz18_3 := blk_frozen BK140.out 3
        have hfz18_4 := blk_frozen BK140.out 4
        have hfz18_5 := blk_frozen BK140.out 5
        go_wp2_with (first | ((with_reducible refine gate_callee (f := 44) rfl ?_); refine goesL_ (some 22) rfl rfl Try.func44 (by kernel_rfl) rfl #[.int .i64 a0_0, .int .i64 24] rfl (by (try simp only [List.map_toArray, List.map_cons, List.map_nil]); first | done | rfl | (simp only [List.length_drop, List.length_take]; rfl)) ?_; (with_reducible refine (timecode_in.calls a0_0 24 false _ A8.out).mono ?_); rintro e w' ⟨rfl, ⟨nd, rfl⟩⟩; refine ⟨_, rfl, ?_⟩))
        go_meet
        case rel => exact ⟨_, (true), (by first | rfl | (simp; done) | (simp [*]; done)), H', ⟨by first | omega | exact Nat.le_refl _⟩, ⟨by (with_reducible repeat (first | refine blk_drewN ?_ _ | refine blk_drew ?_ | refine blk_alloc ?_ _)); exact BK140.out⟩, ⟨by repeat (first | (with_reducible first | exact HB.out | apply below_alloc | apply pw_below_drewN | apply below_drew1 | refine below_set ?_ GE140.out) | exact HB.out)⟩⟩
    case rest =>
      clear HC4
      try clear c1
      try clear c2
      try clear p2
      try clear c3
      try clear c3b0
      try clear c3b1
      try clear c4
      try clear c9
      try clear c11
      try clear c13
      try clear hcz15_0
      try clear hcz15_1
      try clear hcz15_2
      try clear hcz15_3
      try clear hcz15_4
      try clear hcz15_5
      try clear hcz16_0
      try clear hcz16_1
      try clear hcz16_2
      try clear hcz16_3
      try clear hcz16_4
      try clear hcz16_5
      try clear hcz17_0
      try clear hcz17_1
      try clear hcz17_2
      try clear hcz17_3
      try clear hcz17_4
      try clear hcz17_5
      try clear hcz18_0
      try clear hcz18_1
      try clear hcz18_2
      try clear hcz18_3
      try clear hcz18_4
      try clear hcz18_5
      try clear hcz6_0
      try clear hcz6_1
      try clear hcz6_2
      try clear hcz6_3
      try clear hcz6_4
      try clear hcz6_5
      try clear hfz15_0
      try clear hfz15_1
      try clear hfz15_2
      try clear hfz15_3
      try clear hfz15_4
      try clear hfz15_5
      try clear hfz16_0
      try clear hfz16_1
      try clear hfz16_2
      try clear hfz16_3
      try clear hfz16_4
      try clear hfz16_5
      try clear hfz17_0
      try clear hfz17_1
      try clear hfz17_2
      try clear hfz17_3
      try clear hfz17_4
      try clear hfz17_5
      try clear hfz18_0
      try clear hfz18_1
      try clear hfz18_2
      try clear hfz18_3
      try clear hfz18_4
      try clear hfz18_5
      try clear hfz6_0
      try clear hfz6_1
      try clear hfz6_2
      try clear hfz6_3
      try clear hfz6_4
      try clear hfz6_5
      obtain ⟨kq, x43_3, rfl, HA, HJ3, BK140, HB⟩ := hcut
      cases kq with
      | zero => exact absurd HA.out (by simp [timecode_Number.j0])
      | succ kj3 =>
        have H := HA.out
        clear HA
        simp only [timecode_Number.j0] at H
        by_cases c19 : x43_3 = true
        · subst c19
          have H1 : (some (0, 2)) = some (r1, r2) := by rw [if_pos rfl] at H; exact H
          clear H
          have H := H1
          clear H1
          simp only [Option.some.injEq, Prod.mk.injEq] at H
          obtain ⟨rfl, rfl⟩ := H
          go_wp2
          go_ret2
          exact ⟨by first | rfl | (simp [errW_none, errW_some] <;> rfl) | (simp [*, errW_none, errW_some] <;> rfl), by repeat (first | (with_reducible first | exact HB.out | apply below_alloc | apply pw_below_drewN | apply below_drew1 | refine below_set ?_ GE140.out) | exact HB.out)⟩
        · replace c19 := Bool.eq_false_iff.mpr c19
          subst c19
          have H1 : ((timecode_dropped.f a0_4 a0_5).bind fun t147 => (if (Int.tmod a0_1 10) = 0 then (some (wrap64 ((wrap64 ((wrap64 ((wrap64 ((wrap64 ((wrap64 ((wrap64 (a0_0 * 60)) + a0_1)) * 60)) + a0_2)) * a0_4)) + a0_3)) - (wrap64 (t147 * (wrap64 ((wrap64 ((wrap64 (a0_0 * 60)) + a0_1)) - (wrap64 (Int.tdiv (wrap64 ((wrap64 (a0_0 * 60)) + a0_1)) 10))))))), 0)) else (if a0_2 = 0 then (if a0_3 < t147 then (some (0, 2)) else (some (wrap64 ((wrap64 ((wrap64 ((wrap64 ((wrap64 ((wrap64 ((wrap64 (a0_0 * 60)) + a0_1)) * 60)) + a0_2)) * a0_4)) + a0_3)) - (wrap64 (t147 * (wrap64 ((wrap64 ((wrap64 (a0_0 * 60)) + a0_1)) - (wrap64 (Int.tdiv (wrap64 ((wrap64 (a0_0 * 60)) + a0_1)) 10))))))), 0))) else (some (wrap64 ((wrap64 ((wrap64 ((wrap64 ((wrap64 ((wrap64 ((wrap64 (a0_0 * 60)) + a0_1)) * 60)) + a0_2)) * a0_4)) + a0_3)) - (wrap64 (t147 * (wrap64 ((wrap64 ((wrap64 (a0_0 * 60)) + a0_1)) - (wrap64 (Int.tdiv (wrap64 ((wrap64 (a0_0 * 60)) + a0_1)) 10))))))), 0))))) = some (r1, r2) := by rw [if_neg (show ¬ (false = true) by decide)] at H; exact H
          clear H
          have H := H1
          clear H1
          replace H := Option.bind_eq_some_iff.mp H
          obtain ⟨t147, A200, H⟩ := H
          replace H : (if (Int.tmod a0_1 10) = 0 then (some (wrap64 ((wrap64 ((wrap64 ((wrap64 ((wrap64 ((wrap64 ((wrap64 (a0_0 * 60)) + a0_1)) * 60)) + a0_2)) * a0_4)) + a0_3)) - (wrap64 (t147 * (wrap64 ((wrap64 ((wrap64 (a0_0 * 60)) + a0_1)) - (wrap64 (Int.tdiv (wrap64 ((wrap64 (a0_0 * 60)) + a0_1)) 10))))))), 0)) else (if a0_2 = 0 then (if a0_3 < t147 then (some (0, 2)) else (some (wrap64 ((wrap64 ((wrap64 ((wrap64 ((wrap64 ((wrap64 ((wrap64 (a0_0 * 60)) + a0_1)) * 60)) + a0_2)) * a0_4)) + a0_3)) - (wrap64 (t147 * (wrap64 ((wrap64 ((wrap64 (a0_0 * 60)) + a0_1)) - (wrap64 (Int.tdiv (wrap64 ((wrap64 (a0_0 * 60)) + a0_1)) 10))))))), 0))) else (some (wrap64 ((wrap64 ((wrap64 ((wrap64 ((wrap64 ((wrap64 ((wrap64 (a0_0 * 60)) + a0_1)) * 60)) + a0_2)) * a0_4)) + a0_3)) - (wrap64 (t147 * (wrap64 ((wrap64 ((wrap64 (a0_0 * 60)) + a0_1)) - (wrap64 (Int.tdiv (wrap64 ((wrap64 (a0_0 * 60)) + a0_1)) 10))))))), 0)))) = some (r1, r2) := H
          have A20 := Aside0.mk A200
          clear A200
          by_cases c21 : (Int.tmod a0_1 10) = 0
          · rw [if_pos c21] at H
            have c21b0 : ((Int.tmod a0_1 10) == 0) = true := beq_iff_eq.mpr c21
            have c21b1 : ((Int.tmod a0_1 10) != 0) = false := bne_eq_false_iff_eq.mpr c21
            clear c21
            simp only [Option.some.injEq, Prod.mk.injEq] at H
            obtain ⟨rfl, rfl⟩ := H
            have hcz22_0 : wc.cell? ⟨gb140, 0, none⟩ = some (.int .i64 a0_0) := (blk_cell BK140.out 0).trans rfl
            have hcz22_1 : wc.cell? ⟨gb140, 1, none⟩ = some (.int .i64 a0_1) := (blk_cell BK140.out 1).trans rfl
            have hcz22_2 : wc.cell? ⟨gb140, 2, none⟩ = some (.int .i64 a0_2) := (blk_cell BK140.out 2).trans rfl
            have hcz22_3 : wc.cell? ⟨gb140, 3, none⟩ = some (.int .i64 a0_3) := (blk_cell BK140.out 3).trans rfl
            have hcz22_4 : wc.cell? ⟨gb140, 4, none⟩ = some (.int .i64 a0_4) := (blk_cell BK140.out 4).trans rfl
            have hcz22_5 : wc.cell? ⟨gb140, 5, none⟩ = some (.bool a0_5) := (blk_cell BK140.out 5).trans rfl
            have hfz22_0 := blk_frozen BK140.out 0
            have hfz22_1 := blk_frozen BK140.out 1
            have hfz22_2 := blk_frozen BK140.out 2
            have hfz22_3 := blk_frozen BK140.out 3
            have hfz22_4 := blk_frozen BK140.out 4
            have hfz22_5 := blk_frozen BK140.out 5
            go_wp2_with (first | ((with_reducible refine gate_callee (f := 43) rfl ?_); refine goesL_ (some 48) rfl rfl Try.func43 (by kernel_rfl) rfl #[.int .i64 a0_4, .bool a0_5] rfl (by (try simp only [List.map_toArray, List.map_cons, List.map_nil]); first | done | rfl | (simp only [List.length_drop, List.length_take]; rfl)) ?_; (with_reducible refine (timecode_dropped.calls a0_4 a0_5 t147 _ A20.out).mono ?_); rintro e w' ⟨rfl, ⟨nd, rfl⟩⟩; refine ⟨_, rfl, ?_⟩))
            go_ret2
            exact ⟨by first | rfl | (simp [errW_none, errW_some] <;> rfl) | (simp [*, errW_none, errW_some] <;> rfl), by repeat (first | (with_reducible first | exact HB.out | apply below_alloc | apply pw_below_drewN | apply below_drew1 | refine below_set ?_ GE140.out) | exact HB.out)⟩
          · rw [if_neg c21] at H
            have c21b0 : ((Int.tmod a0_1 10) == 0) = false := beq_eq_false_iff_ne.mpr c21
            have c21b1 : ((Int.tmod a0_1 10) != 0) = true := bne_iff_ne.mpr c21
            by_cases c23 : a0_2 = 0
            · rw [if_pos c23] at H
              have c23b0 : (a0_2 == 0) = true := beq_iff_eq.mpr c23
              have c23b1 : (a0_2 != 0) = false := bne_eq_false_iff_eq.mpr c23
              clear c23
              by_cases c24 : a0_3 < t147
              · rw [if_pos c24] at H
                have c24b0 : decide (a0_3 < t147) = true := decide_eq_true c24
                clear c24
                simp only [Option.some.injEq, Prod.mk.injEq] at H
                obtain ⟨rfl, rfl⟩ := H
                have hcz25_0 : wc.cell? ⟨gb140, 0, none⟩ = some (.int .i64 a0_0) := (blk_cell BK140.out 0).trans rfl
                have hcz25_1 : wc.cell? ⟨gb140, 1, none⟩ = some (.int .i64 a0_1) := (blk_cell BK140.out 1).trans rfl
                have hcz25_2 : wc.cell? ⟨gb140, 2, none⟩ = some (.int .i64 a0_2) := (blk_cell BK140.out 2).trans rfl
                have hcz25_3 : wc.cell? ⟨gb140, 3, none⟩ = some (.int .i64 a0_3) := (blk_cell BK140.out 3).trans rfl
                have hcz25_4 : wc.cell? ⟨gb140, 4, none⟩ = some (.int .i64 a0_4) := (blk_cell BK140.out 4).trans rfl
                have hcz25_5 : wc.cell? ⟨gb140, 5, none⟩ = some (.bool a0_5) := (blk_cell BK140.out 5).trans rfl
                have hfz25_0 := blk_frozen BK140.out 0
                have hfz25_1 := blk_frozen BK140.out 1
                have hfz25_2 := blk_frozen BK140.out 2
                have hfz25_3 := blk_frozen BK140.out 3
                have hfz25_4 := blk_frozen BK140.out 4
                have hfz25_5 := blk_frozen BK140.out 5
                go_wp2_with (first | ((with_reducible refine gate_callee (f := 43) rfl ?_); refine goesL_ (some 48) rfl rfl Try.func43 (by kernel_rfl) rfl #[.int .i64 a0_4, .bool a0_5] rfl (by (try simp only [List.map_toArray, List.map_cons, List.map_nil]); first | done | rfl | (simp only [List.length_drop, List.length_take]; rfl)) ?_; (with_reducible refine (timecode_dropped.calls a0_4 a0_5 t147 _ A20.out).mono ?_); rintro e w' ⟨rfl, ⟨nd, rfl⟩⟩; refine ⟨_, rfl, ?_⟩))
                go_ret2
                exact ⟨by first | rfl | (simp [errW_none, errW_some] <;> rfl) | (simp [*, errW_none, errW_some] <;> rfl), by repeat (first | (with_reducible first | exact HB.out | apply below_alloc | apply pw_below_drewN | apply below_drew1 | refine below_set ?_ GE140.out) | exact HB.out)⟩
              · rw [if_neg c24] at H
                have c24b0 : decide (a0_3 < t147) = false := decide_eq_false c24
                clear c24
                simp only [Option.some.injEq, Prod.mk.injEq] at H
                obtain ⟨rfl, rfl⟩ := H
                have hcz26_0 : wc.cell? ⟨gb140, 0, none⟩ = some (.int .i64 a0_0) := (blk_cell BK140.out 0).trans rfl
                have hcz26_1 : wc.cell? ⟨gb140, 1, none⟩ = some (.int .i64 a0_1) := (blk_cell BK140.out 1).trans rfl
                have hcz26_2 : wc.cell? ⟨gb140, 2, none⟩ = some (.int .i64 a0_2) := (blk_cell BK140.out 2).trans rfl
                have hcz26_3 : wc.cell? ⟨gb140, 3, none⟩ = some (.int .i64 a0_3) := (blk_cell BK140.out 3).trans rfl
                have hcz26_4 : wc.cell? ⟨gb140, 4, none⟩ = some (.int .i64 a0_4) := (blk_cell BK140.out 4).trans rfl
                have hcz26_5 : wc.cell? ⟨gb140, 5, none⟩ = some (.bool a0_5) := (blk_cell BK140.out 5).trans rfl
                have hfz26_0 := blk_frozen BK140.out 0
                have hfz26_1 := blk_frozen BK140.out 1
                have hfz26_2 := blk_frozen BK140.out 2
                have hfz26_3 := blk_frozen BK140.out 3
                have hfz26_4 := blk_frozen BK140.out 4
                have hfz26_5 := blk_frozen BK140.out 5
                go_wp2_with (first | ((with_reducible refine gate_callee (f := 43) rfl ?_); refine goesL_ (some 48) rfl rfl Try.func43 (by kernel_rfl) rfl #[.int .i64 a0_4, .bool a0_5] rfl (by (try simp only [List.map_toArray, List.map_cons, List.map_nil]); first | done | rfl | (simp only [List.length_drop, List.length_take]; rfl)) ?_; (with_reducible refine (timecode_dropped.calls a0_4 a0_5 t147 _ A20.out).mono ?_); rintro e w' ⟨rfl, ⟨nd, rfl⟩⟩; refine ⟨_, rfl, ?_⟩))
                go_ret2
                exact ⟨by first | rfl | (simp [errW_none, errW_some] <;> rfl) | (simp [*, errW_none, errW_some] <;> rfl), by repeat (first | (with_reducible first | exact HB.out | apply below_alloc | apply pw_below_drewN | apply below_drew1 | refine below_set ?_ GE140.out) | exact HB.out)⟩
            · rw [if_neg c23] at H
              have c23b0 : (a0_2 == 0) = false := beq_eq_false_iff_ne.mpr c23
              have c23b1 : (a0_2 != 0) = true := bne_iff_ne.mpr c23
              simp only [Option.some.injEq, Prod.mk.injEq] at H
              obtain ⟨rfl, rfl⟩ := H
              have hcz27_0 : wc.cell? ⟨gb140, 0, none⟩ = some (.int .i64 a0_0) := (blk_cell BK140.out 0).trans rfl
              have hcz27_1 : wc.cell? ⟨gb140, 1, none⟩ = some (.int .i64 a0_1) := (blk_cell BK140.out 1).trans rfl
              have hcz27_2 : wc.cell? ⟨gb140, 2, none⟩ = some (.int .i64 a0_2) := (blk_cell BK140.out 2).trans rfl
              have hcz27_3 : wc.cell? ⟨gb140, 3, none⟩ = some (.int .i64 a0_3) := (blk_cell BK140.out 3).trans rfl
              have hcz27_4 : wc.cell? ⟨gb140, 4, none⟩ = some (.int .i64 a0_4) := (blk_cell BK140.out 4).trans rfl
              have hcz27_5 : wc.cell? ⟨gb140, 5, none⟩ = some (.bool a0_5) := (blk_cell BK140.out 5).trans rfl
              have hfz27_0 := blk_frozen BK140.out 0
              have hfz27_1 := blk_frozen BK140.out 1
              have hfz27_2 := blk_frozen BK140.out 2
              have hfz27_3 := blk_frozen BK140.out 3
              have hfz27_4 := blk_frozen BK140.out 4
              have hfz27_5 := blk_frozen BK140.out 5
              go_wp2_with (first | ((with_reducible refine gate_callee (f := 43) rfl ?_); refine goesL_ (some 48) rfl rfl Try.func43 (by kernel_rfl) rfl #[.int .i64 a0_4, .bool a0_5] rfl (by (try simp only [List.map_toArray, List.map_cons, List.map_nil]); first | done | rfl | (simp only [List.length_drop, List.length_take]; rfl)) ?_; (with_reducible refine (timecode_dropped.calls a0_4 a0_5 t147 _ A20.out).mono ?_); rintro e w' ⟨rfl, ⟨nd, rfl⟩⟩; refine ⟨_, rfl, ?_⟩))
              go_ret2
              exact ⟨by first | rfl | (simp [errW_none, errW_some] <;> rfl) | (simp [*, errW_none, errW_some] <;> rfl), by repeat (first | (with_reducible first | exact HB.out | apply below_alloc | apply pw_below_drewN | apply below_drew1 | refine below_set ?_ GE140.out) | exact HB.out)⟩
  · rw [if_neg c3] at H
    have c3b0 : (t142 == 0) = false := beq_eq_false_iff_ne.mpr c3
    have c3b1 : (t142 != 0) = true := bne_iff_ne.mpr c3
    simp only [Option.some.injEq, Prod.mk.injEq] at H
    obtain ⟨rfl, rfl⟩ := H
    go_enter Try.func25, Try.ntmps25
    go_wp2_with (first | ((with_reducible refine gate_dst (N := 1) rfl ?_); refine box_event ?hg (N := 1) ?hd (cs := #[.int .i64 a0_0, .int .i64 a0_1, .int .i64 a0_2, .int .i64 a0_3, .int .i64 a0_4, .bool a0_5]) (t := 34) ?hr ?_; (case hd => rfl); (case hg => rfl); (case hr => first | (go_simp; done) | (go_simp; rfl)); intro gb140 hg w28 hbox hb; have n0_ := Aside0.mk (below_step (by repeat (first | (with_reducible first | exact HB.out | apply below_alloc | apply pw_below_drewN | apply below_drew1) | exact HB.out)) hb); have n1_ := Aside0.mk (hbox); have n2_ := Aside0.mk ((by rw [hg]; exact (below_size (by repeat (first | (with_reducible first | exact HB.out | apply below_alloc | apply pw_below_drewN | apply below_drew1) | exact HB.out))) : w.heap.size ≤ gb140)); have n3_ := Aside0.mk ((by rw [hg]; exact (below_size (by repeat (first | (with_reducible first | exact HB.out | apply below_alloc | apply pw_below_drewN | apply below_drew1) | exact HB.out))) : w.heap.size ≤ gb140)); clear HB; have HB := n0_; have BK140 := n1_; have GW140 := n2_; have GE140 := n3_; clear n0_ n1_ n2_ n3_; clear hb hbox hg; have hcz29_0 : w28.cell? ⟨gb140, 0, none⟩ = some (.int .i64 a0_0) := (blk_cell BK140.out 0).trans rfl; have hcz29_1 : w28.cell? ⟨gb140, 1, none⟩ = some (.int .i64 a0_1) := (blk_cell BK140.out 1).trans rfl; have hcz29_2 : w28.cell? ⟨gb140, 2, none⟩ = some (.int .i64 a0_2) := (blk_cell BK140.out 2).trans rfl; have hcz29_3 : w28.cell? ⟨gb140, 3, none⟩ = some (.int .i64 a0_3) := (blk_cell BK140.out 3).trans rfl; have hcz29_4 : w28.cell? ⟨gb140, 4, none⟩ = some (.int .i64 a0_4) := (blk_cell BK140.out 4).trans rfl; have hcz29_5 : w28.cell? ⟨gb140, 5, none⟩ = some (.bool a0_5) := (blk_cell BK140.out 5).trans rfl; have hfz29_0 := blk_frozen BK140.out 0; have hfz29_1 := blk_frozen BK140.out 1; have hfz29_2 := blk_frozen BK140.out 2; have hfz29_3 := blk_frozen BK140.out 3; have hfz29_4 := blk_frozen BK140.out 4; have hfz29_5 := blk_frozen BK140.out 5) | ((with_reducible refine gate_callee (f := 21) rfl ?_); refine goesL_ (some 14) rfl rfl Try.func21 (by kernel_rfl) rfl #[.int .i64 a0_4, .bool a0_5] rfl (by (try simp only [List.map_toArray, List.map_cons, List.map_nil]); first | done | rfl | (simp only [List.length_drop, List.length_take]; rfl)) ?_; (with_reducible refine (timecode_Day.calls k a0_4 a0_5 t141 t142 _ A2.out).mono ?_); rintro e w30 ⟨rfl, hb⟩; refine ⟨_, rfl, ?_⟩; have n0_ := Aside0.mk (blk_below (g := gb140) (o := .cells #[.int .i64 a0_0, .int .i64 a0_1, .int .i64 a0_2, .int .i64 a0_3, .int .i64 a0_4, .bool a0_5] 34 (0, 0)) (by (with_reducible repeat (first | refine blk_drewN ?_ _ | refine blk_drew ?_ | refine blk_alloc ?_ _)); exact BK140.out) hb); have n1_ := Aside0.mk (below_step (by repeat (first | (with_reducible first | exact HB.out | apply below_alloc | apply pw_below_drewN | apply below_drew1 | refine below_set ?_ GE140.out) | exact HB.out)) hb); clear BK140; clear HB; have BK140 := n0_; have HB := n1_; clear n0_ n1_; (try clear hb); (try clear hb2); (try clear hk); (try clear hi)))
    go_ret2
    exact ⟨by first | rfl | (simp [errW_none, errW_some] <;> rfl) | (simp [*, errW_none, errW_some] <;> rfl), by repeat (first | (with_reducible first | exact HB.out | apply below_alloc | apply pw_below_drewN | apply below_drew1 | refine below_set ?_ GE140.out) | exact HB.out)⟩

/-! ### timecode_two: function 45 -/
def timecode_two.f (a0 : Int) : Option (ByteArray) := some (strOfNums (([(wrap64 (48 + (wrap64 (Int.tdiv a0 10)))) % 256, (wrap64 (48 + (Int.tmod a0 10))) % 256] : List Int)))
set_option maxHeartbeats 8000000 in
set_option maxRecDepth 100000 in
theorem timecode_two.calls (a0 : Int) (r : ByteArray) (w : World) (h : timecode_two.f a0 = some r) :
    Calls Try.prog 45 #[.int .i64 a0] w fun e w' => e = .returned (.string r) ∧ Below w.heap.size w w' := by
  have HB := Aside0.mk (Below.refl w.heap.size w)
  have H : (some (strOfNums (([(wrap64 (48 + (wrap64 (Int.tdiv a0 10)))) % 256, (wrap64 (48 + (Int.tmod a0 10))) % 256] : List Int)))) = some r := h
  clear h
  obtain ⟨y148, hy148⟩ : ∃ y_ : List Int, y_ = (([(wrap64 (48 + (wrap64 (Int.tdiv a0 10)))) % 256, (wrap64 (48 + (Int.tmod a0 10))) % 256] : List Int)) := ⟨_, rfl⟩
  replace H : (some (strOfNums y148)) = some r := by first | (rw [hy148]; with_reducible exact H) | (have H2_ := (Option.bind_some _ _).symm.trans H; rw [hy148]; with_reducible exact H2_) | (have H2_ := (Option.bind_some _ _).symm.trans H; with_reducible exact H2_) | with_reducible exact H | (rw [hy148]; exact H) | exact H
  have Ny148 := Aside0.mk hy148
  clear hy148
  obtain rfl := Option.some.inj H
  go_enter Try.func45, Try.ntmps45
  go_wp2_with (first | ((with_reducible refine gate_dst (N := 11) rfl ?_); refine Kd.R_lit (Kd.int .u8) _ 5 ?hg (N := 11) ?hd (xs := ([(wrap64 (48 + (wrap64 (Int.tdiv a0 10)))) % 256, (wrap64 (48 + (Int.tmod a0 10))) % 256] : List Int)) (inner := [.int .u8 ((wrap64 (48 + (wrap64 (Int.tdiv a0 10)))) % 256), .int .u8 ((wrap64 (48 + (Int.tmod a0 10))) % 256)]) (ok := fun _ => True) (okp := fun _ => True) ?hr ?hp (fun _ hk => hk) trivial (Below.refl _ _) (Nat.le_refl _) (by simp) ?_; (case hd => rfl); (case hg => rfl); (case hr => first | (go_simp; done) | (go_simp; rfl)); (case hp => exact (Reps.one (show Kd.M (Kd.int .u8) _ _ _ ((wrap64 (48 + (wrap64 (Int.tdiv a0 10)))) % 256) [.int .u8 ((wrap64 (48 + (wrap64 (Int.tdiv a0 10)))) % 256)] from rfl) (Reps.one (show Kd.M (Kd.int .u8) _ _ _ ((wrap64 (48 + (Int.tmod a0 10))) % 256) [.int .u8 ((wrap64 (48 + (Int.tmod a0 10))) % 256)] from rfl) (Reps.none _ _)))); intro v149 w2 ho3 hb hg_ hnew_; clear hg_ hnew_; (first | rw [← Ny148.out] at ho3 | (simp only [Int.reduceToNat] at ho3; rw [← Ny148.out] at ho3)); have n0_ := Aside0.mk (Kd.R_lower ho3 (below_size (by repeat (first | (with_reducible first | exact HB.out | apply below_alloc | apply pw_below_drewN | apply below_drew1) | exact HB.out)))); have n1_ := Aside0.mk (below_step (by repeat (first | (with_reducible first | exact HB.out | apply below_alloc | apply pw_below_drewN | apply below_drew1) | exact HB.out)) hb); clear HB; have HO150 := n0_; have HB := n1_; clear n0_ n1_; clear hb ho3; have hcv4 := own_string (P := Try.prog) Try.underlying74 Try.underlying5 Try.underlying9 (Kd.own_of_R HO150.out)))
  go_ret
  exact ⟨by first | rfl | (simp [errW_none, errW_some] <;> rfl) | (simp [*, errW_none, errW_some] <;> rfl), by repeat (first | (with_reducible first | exact HB.out | apply below_alloc | apply pw_below_drewN | apply below_drew1) | exact HB.out)⟩

/-! ### timecode_Format: function 30 -/
def timecode_Format.j0 : Nat → ByteArray → Int → Int → Int → Int → Int → Bool → Option (ByteArray × Int)
  | 0, _, _, _, _, _, _, _ => none
  | k + 1, x6, x152000, x152001, x152002, x152003, x152004, x152005 => (timecode_two.f x152000).bind fun t154 => (if t154.size + 1 ≤ 9223372036854775807 then ((timecode_two.f x152001).bind fun t155 => (if t154.size + 1 + t155.size ≤ 9223372036854775807 then (if t154.size + 1 + t155.size + 1 ≤ 9223372036854775807 then ((timecode_two.f x152002).bind fun t156 => (if t154.size + 1 + t155.size + 1 + t156.size ≤ 9223372036854775807 then (if t154.size + 1 + t155.size + 1 + t156.size + x6.size ≤ 9223372036854775807 then ((timecode_two.f x152003).bind fun t157 => (if t154.size + 1 + t155.size + 1 + t156.size + x6.size + t157.size ≤ 9223372036854775807 then (some ((((((t154 ++ (⟨#[58]⟩ : ByteArray)) ++ t155) ++ (⟨#[58]⟩ : ByteArray)) ++ t156) ++ x6) ++ t157, 0)) else (none))) else (none)) else (none))) else (none)) else (none))) else (none))
def timecode_Format.f (k : Nat) (a0_0 : Int) (a0_1 : Int) (a0_2 : Int) (a0_3 : Int) (a0_4 : Int) (a0_5 : Bool) : Option (ByteArray × Int) := (timecode_Number.f k a0_0 a0_1 a0_2 a0_3 a0_4 a0_5).bind fun bt152 => (if bt152.2 = 0 then (if a0_5 = true then (timecode_Format.j0 k (⟨#[59]⟩ : ByteArray) a0_0 a0_1 a0_2 a0_3 a0_4 a0_5) else (timecode_Format.j0 k (⟨#[58]⟩ : ByteArray) a0_0 a0_1 a0_2 a0_3 a0_4 a0_5)) else (some ((⟨#[]⟩ : ByteArray), bt152.2)))
theorem timecode_Format.mono_l : ∀ k, (∀ y0 y1 y2 y3 y4 y5 y6, LeO (timecode_Format.j0 k y0 y1 y2 y3 y4 y5 y6) (timecode_Format.j0 (k + 1) y0 y1 y2 y3 y4 y5 y6))
  | 0 => fun _ _ _ _ _ _ _ r h => by simp [timecode_Format.j0] at h
  | k + 1 => by
    have ih0 := timecode_Format.mono_l k
    · intro y0 y1 y2 y3 y4 y5 y6
      unfold timecode_Format.j0
      repeat' first
      | (with_reducible exact ih0 _ _ _ _ _ _ _)
      | (with_reducible exact timecode_Number.mono _ _ _ _ _ _ _)
      | (with_reducible exact LeO.refl _)
      | (with_reducible exact LeO.none _)
      | (with_reducible refine LeO.ite ?_ ?_)
      | (with_reducible refine LeO.bind ?_ (fun _ => ?_))
      | exact ih0 _ _ _ _ _ _ _
      | exact timecode_Number.mono _ _ _ _ _ _ _
      | exact LeO.none _
      | refine LeO.ite ?_ ?_
      | refine LeO.bind ?_ (fun _ => ?_)
theorem timecode_Format.mono : ∀ a0 a1 a2 a3 a4 a5 k, LeO (timecode_Format.f k a0 a1 a2 a3 a4 a5) (timecode_Format.f (k + 1) a0 a1 a2 a3 a4 a5) := by
  intro a0 a1 a2 a3 a4 a5 k
  have ih0 := timecode_Format.mono_l k
  unfold timecode_Format.f
  repeat' first
      | (with_reducible exact ih0 _ _ _ _ _ _ _)
      | (with_reducible exact timecode_Number.mono _ _ _ _ _ _ _)
      | (with_reducible exact LeO.refl _)
      | (with_reducible exact LeO.none _)
      | (with_reducible refine LeO.ite ?_ ?_)
      | (with_reducible refine LeO.bind ?_ (fun _ => ?_))
      | exact ih0 _ _ _ _ _ _ _
      | exact timecode_Number.mono _ _ _ _ _ _ _
      | exact LeO.none _
      | refine LeO.ite ?_ ?_
      | refine LeO.bind ?_ (fun _ => ?_)
def timecode_Format.T7 : Bool × List (List Nat × List Nat) := (true, [([], []), ([0], [0]), ([1], [1]), ([2], [2]), ([], []), ([4], [4]), ([5, 2], [5]), ([3, 6], [3, 6]), ([7], [7]), ([], []), ([9], [9]), ([10, 6], [10]), ([8, 11], [8, 11]), ([], []), ([12, 13], [12, 13]), ([], []), ([15], [15]), ([16, 11], [16]), ([14, 17], [14, 17]), ([18, 17, 0, 1, 2, 3, 4, 5, 6, 7, 8, 9, 10, 11, 12, 13, 14, 15, 16, 17, 18], [18]), ([19, 0, 1, 2, 3, 4, 5, 6, 7, 8, 9, 10, 11, 12, 13, 14, 15, 16, 17, 18, 19], [])])
def timecode_Format.B7 : List Nat := [0, 1, 3, 7, 0, 16, 55, 127, 255, 0, 512, 1655, 4095, 0, 16383, 0, 32768, 102007, 262143, 524287, 1048575]
theorem timecode_Format.tab7 : rtab .any (opsOf Try.f30 7) = timecode_Format.T7 := by kernel_rfl
theorem timecode_Format.bits7 : waitsOk timecode_Format.T7.2 timecode_Format.B7 = true := by kernel_rfl
set_option maxHeartbeats 8000000 in
set_option maxRecDepth 100000 in
theorem timecode_Format.calls (k : Nat) (a0_0 : Int) (a0_1 : Int) (a0_2 : Int) (a0_3 : Int) (a0_4 : Int) (a0_5 : Bool) (r1 : ByteArray) (r2 : Int) (w : World) (h : timecode_Format.f k a0_0 a0_1 a0_2 a0_3 a0_4 a0_5 = some (r1, r2)) :
    Calls Try.prog 30 #[.agg #[.int .i64 a0_0, .int .i64 a0_1, .int .i64 a0_2, .int .i64 a0_3, .int .i64 a0_4, .bool a0_5]] w fun e w' => e = .returned (.tuple #[.string r1, .int .i64 r2]) ∧ Below w.heap.size w w' := by
  have hu34 := Try.underlying34
  have HB := Aside0.mk (Below.refl w.heap.size w)
  have H : ((timecode_Number.f k a0_0 a0_1 a0_2 a0_3 a0_4 a0_5).bind fun bt152 => (if bt152.2 = 0 then (if a0_5 = true then (timecode_Format.j0 k (⟨#[59]⟩ : ByteArray) a0_0 a0_1 a0_2 a0_3 a0_4 a0_5) else (timecode_Format.j0 k (⟨#[58]⟩ : ByteArray) a0_0 a0_1 a0_2 a0_3 a0_4 a0_5)) else (some ((⟨#[]⟩ : ByteArray), bt152.2)))) = some (r1, r2) := h
  clear h
  replace H := Option.bind_eq_some_iff.mp H
  obtain ⟨⟨t152, t153⟩, A20, H⟩ := H
  replace H : (if t153 = 0 then (if a0_5 = true then (timecode_Format.j0 k (⟨#[59]⟩ : ByteArray) a0_0 a0_1 a0_2 a0_3 a0_4 a0_5) else (timecode_Format.j0 k (⟨#[58]⟩ : ByteArray) a0_0 a0_1 a0_2 a0_3 a0_4 a0_5)) else (some ((⟨#[]⟩ : ByteArray), t153))) = some (r1, r2) := H
  have A2 := Aside0.mk A20
  clear A20
  by_cases c3 : t153 = 0
  · rw [if_pos c3] at H
    have c3b0 : (t153 == 0) = true := beq_iff_eq.mpr c3
    have c3b1 : (t153 != 0) = false := bne_eq_false_iff_eq.mpr c3
    clear c3
    have HC4 := Aside0.mk H
    clear H
    go_enter Try.func30, Try.ntmps30
    go_upto_if 16 with (first | ((with_reducible refine gate_dst (N := 1) rfl ?_); refine box_event ?hg (N := 1) ?hd (cs := #[.int .i64 a0_0, .int .i64 a0_1, .int .i64 a0_2, .int .i64 a0_3, .int .i64 a0_4, .bool a0_5]) (t := 34) ?hr ?_; (case hd => rfl); (case hg => rfl); (case hr => first | (go_simp; done) | (go_simp; rfl)); intro gb151 hg w5 hbox hb; have n0_ := Aside0.mk (below_step (by repeat (first | (with_reducible first | exact HB.out | apply below_alloc | apply pw_below_drewN | apply below_drew1) | exact HB.out)) hb); have n1_ := Aside0.mk (hbox); have n2_ := Aside0.mk ((by rw [hg]; exact (below_size (by repeat (first | (with_reducible first | exact HB.out | apply below_alloc | apply pw_below_drewN | apply below_drew1) | exact HB.out))) : w.heap.size ≤ gb151)); have n3_ := Aside0.mk ((by rw [hg]; exact (below_size (by repeat (first | (with_reducible first | exact HB.out | apply below_alloc | apply pw_below_drewN | apply below_drew1) | exact HB.out))) : w.heap.size ≤ gb151)); clear HB; have HB := n0_; have BK151 := n1_; have GW151 := n2_; have GE151 := n3_; clear n0_ n1_ n2_ n3_; clear hb hbox hg; have hcz6_0 : w5.cell? ⟨gb151, 0, none⟩ = some (.int .i64 a0_0) := (blk_cell BK151.out 0).trans rfl; have hcz6_1 : w5.cell? ⟨gb151, 1, none⟩ = some (.int .i64 a0_1) := (blk_cell BK151.out 1).trans rfl; have hcz6_2 : w5.cell? ⟨gb151, 2, none⟩ = some (.int .i64 a0_2) := (blk_cell BK151.out 2).trans rfl; have hcz6_3 : w5.cell? ⟨gb151, 3, none⟩ = some (.int .i64 a0_3) := (blk_cell BK151.out 3).trans rfl; have hcz6_4 : w5.cell? ⟨gb151, 4, none⟩ = some (.int .i64 a0_4) := (blk_cell BK151.out 4).trans rfl; have hcz6_5 : w5.cell? ⟨gb151, 5, none⟩ = some (.bool a0_5) := (blk_cell BK151.out 5).trans rfl; have hfz6_0 := blk_frozen BK151.out 0; have hfz6_1 := blk_frozen BK151.out 1; have hfz6_2 := blk_frozen BK151.out 2; have hfz6_3 := blk_frozen BK151.out 3; have hfz6_4 := blk_frozen BK151.out 4; have hfz6_5 := blk_frozen BK151.out 5) | ((with_reducible refine gate_callee (f := 25) rfl ?_); refine goesL_ (some 9) rfl rfl Try.func25 (by kernel_rfl) rfl #[.agg #[.int .i64 a0_0, .int .i64 a0_1, .int .i64 a0_2, .int .i64 a0_3, .int .i64 a0_4, .bool a0_5]] rfl (by (try simp only [List.map_toArray, List.map_cons, List.map_nil]); first | done | rfl | (simp only [List.length_drop, List.length_take]; rfl)) ?_; (with_reducible refine (timecode_Number.calls k a0_0 a0_1 a0_2 a0_3 a0_4 a0_5 t152 t153 _ A2.out).mono ?_); rintro e w7 ⟨rfl, hb⟩; refine ⟨_, rfl, ?_⟩; have n0_ := Aside0.mk (blk_below (g := gb151) (o := .cells #[.int .i64 a0_0, .int .i64 a0_1, .int .i64 a0_2, .int .i64 a0_3, .int .i64 a0_4, .bool a0_5] 34 (0, 0)) (by (with_reducible repeat (first | refine blk_drewN ?_ _ | refine blk_drew ?_ | refine blk_alloc ?_ _)); exact BK151.out) hb); have n1_ := Aside0.mk (below_step (by repeat (first | (with_reducible first | exact HB.out | apply below_alloc | apply pw_below_drewN | apply below_drew1 | refine below_set ?_ GE151.out) | exact HB.out)) hb); clear BK151; clear HB; have BK151 := n0_; have HB := n1_; clear n0_ n1_; (try clear hb); (try clear hb2); (try clear hk); (try clear hi); have hcz8_0 : w7.cell? ⟨gb151, 0, none⟩ = some (.int .i64 a0_0) := (blk_cell BK151.out 0).trans rfl; have hcz8_1 : w7.cell? ⟨gb151, 1, none⟩ = some (.int .i64 a0_1) := (blk_cell BK151.out 1).trans rfl; have hcz8_2 : w7.cell? ⟨gb151, 2, none⟩ = some (.int .i64 a0_2) := (blk_cell BK151.out 2).trans rfl; have hcz8_3 : w7.cell? ⟨gb151, 3, none⟩ = some (.int .i64 a0_3) := (blk_cell BK151.out 3).trans rfl; have hcz8_4 : w7.cell? ⟨gb151, 4, none⟩ = some (.int .i64 a0_4) := (blk_cell BK151.out 4).trans rfl; have hcz8_5 : w7.cell? ⟨gb151, 5, none⟩ = some (.bool a0_5) := (blk_cell BK151.out 5).trans rfl; have hfz8_0 := blk_frozen BK151.out 0; have hfz8_1 := blk_frozen BK151.out 1; have hfz8_2 := blk_frozen BK151.out 2; have hfz8_3 := blk_frozen BK151.out 3; have hfz8_4 := blk_frozen BK151.out 4; have hfz8_5 := blk_frozen BK151.out 5))
    (try simp only [Act.put, List.setIfInBounds_toArray, List.set_cons_zero, List.set_cons_succ])
    go_cut [6] (fun v6 wc => ∃ (kq : Nat) (x6_3 : ByteArray), v6 = .string x6_3 ∧ Aside0 (timecode_Format.j0 kq x6_3 a0_0 a0_1 a0_2 a0_3 a0_4 a0_5 = some (r1, r2)) ∧ Aside0 (kq ≤ k) ∧ Aside0 (wc.heap[gb151]? = some (.cells #[.int .i64 a0_0, .int .i64 a0_1, .int .i64 a0_2, .int .i64 a0_3, .int .i64 a0_4, .bool a0_5] 34 (0, 0))) ∧ Aside0 (Below w.heap.size w wc))
    case first =>
      have H := HC4.out
      clear HC4
      by_cases c9 : a0_5 = true
      · subst c9
        have H1 : (timecode_Format.j0 k (⟨#[59]⟩ : ByteArray) a0_0 a0_1 a0_2 a0_3 a0_4 true) = some (r1, r2) := by rw [if_pos rfl] at H; exact H
        clear H
        have H := H1
        clear H1
        have H' := Aside0.mk H
        clear H
        go_wp2
        go_meet
        case rel => exact ⟨_, ((⟨#[59]⟩ : ByteArray)), (by first | rfl | (simp; done) | (simp [*]; done)), H', ⟨by first | omega | exact Nat.le_refl _⟩, ⟨by (with_reducible repeat (first | refine blk_drewN ?_ _ | refine blk_drew ?_ | refine blk_alloc ?_ _)); exact BK151.out⟩, ⟨by repeat (first | (with_reducible first | exact HB.out | apply below_alloc | apply pw_below_drewN | apply below_drew1 | refine below_set ?_ GE151.out) | exact HB.out)⟩⟩
      · replace c9 := Bool.eq_false_iff.mpr c9
        subst c9
        have H1 : (timecode_Format.j0 k (⟨#[58]⟩ : ByteArray) a0_0 a0_1 a0_2 a0_3 a0_4 false) = some (r1, r2) := by rw [if_neg (show ¬ (false = true) by decide)] at H; exact H
        clear H
        have H := H1
        clear H1
        have H' := Aside0.mk H
        clear H
        go_wp2
        go_meet
        case rel => exact ⟨_, ((⟨#[58]⟩ : ByteArray)), (by first | rfl | (simp; done) | (simp [*]; done)), H', ⟨by first | omega | exact Nat.le_refl _⟩, ⟨by (with_reducible repeat (first | refine blk_drewN ?_ _ | refine blk_drew ?_ | refine blk_alloc ?_ _)); exact BK151.out⟩, ⟨by repeat (first | (with_reducible first | exact HB.out | apply below_alloc | apply pw_below_drewN | apply below_drew1 | refine below_set ?_ GE151.out) | exact HB.out)⟩⟩
    case rest =>
      clear HC4
      try clear c2
      try clear p2
      try clear c3
      try clear c3b0
      try clear c3b1
      try clear c9
      try clear hcz6_0
      try clear hcz6_1
      try clear hcz6_2
      try clear hcz6_3
      try clear hcz6_4
      try clear hcz6_5
      try clear hcz8_0
      try clear hcz8_1
      try clear hcz8_2
      try clear hcz8_3
      try clear hcz8_4
      try clear hcz8_5
      try clear hfz6_0
      try clear hfz6_1
      try clear hfz6_2
      try clear hfz6_3
      try clear hfz6_4
      try clear hfz6_5
      try clear hfz8_0
      try clear hfz8_1
      try clear hfz8_2
      try clear hfz8_3
      try clear hfz8_4
      try clear hfz8_5
      obtain ⟨kq, x6_3, rfl, HA, HJ3, BK151, HB⟩ := hcut
      cases kq with
      | zero => exact absurd HA.out (by simp [timecode_Format.j0])
      | succ kj3 =>
        have H := HA.out
        clear HA
        simp only [timecode_Format.j0] at H
        replace H := Option.bind_eq_some_iff.mp H
        obtain ⟨t154, A100, H⟩ := H
        replace H : (if t154.size + 1 ≤ 9223372036854775807 then ((timecode_two.f a0_1).bind fun t155 => (if t154.size + 1 + t155.size ≤ 9223372036854775807 then (if t154.size + 1 + t155.size + 1 ≤ 9223372036854775807 then ((timecode_two.f a0_2).bind fun t156 => (if t154.size + 1 + t155.size + 1 + t156.size ≤ 9223372036854775807 then (if t154.size + 1 + t155.size + 1 + t156.size + x6_3.size ≤ 9223372036854775807 then ((timecode_two.f a0_3).bind fun t157 => (if t154.size + 1 + t155.size + 1 + t156.size + x6_3.size + t157.size ≤ 9223372036854775807 then (some ((((((t154 ++ (⟨#[58]⟩ : ByteArray)) ++ t155) ++ (⟨#[58]⟩ : ByteArray)) ++ t156) ++ x6_3) ++ t157, 0)) else (none))) else (none)) else (none))) else (none)) else (none))) else (none)) = some (r1, r2) := H
        have A10 := Aside0.mk A100
        clear A100
        by_cases c11 : t154.size + 1 ≤ 9223372036854775807
        · rw [if_pos c11] at H
          have c11b0 := eq_true c11
          have c11b1 : decide (t154.size + 1 ≤ 9223372036854775807) = true := decide_eq_true c11
          try have c11b2 : (9223372036854775807 < t154.size + 1) = False := eq_false (Nat.not_lt.2 c11)
          replace H := Option.bind_eq_some_iff.mp H
          obtain ⟨t155, A120, H⟩ := H
          replace H : (if t154.size + 1 + t155.size ≤ 9223372036854775807 then (if t154.size + 1 + t155.size + 1 ≤ 9223372036854775807 then ((timecode_two.f a0_2).bind fun t156 => (if t154.size + 1 + t155.size + 1 + t156.size ≤ 9223372036854775807 then (if t154.size + 1 + t155.size + 1 + t156.size + x6_3.size ≤ 9223372036854775807 then ((timecode_two.f a0_3).bind fun t157 => (if t154.size + 1 + t155.size + 1 + t156.size + x6_3.size + t157.size ≤ 9223372036854775807 then (some ((((((t154 ++ (⟨#[58]⟩ : ByteArray)) ++ t155) ++ (⟨#[58]⟩ : ByteArray)) ++ t156) ++ x6_3) ++ t157, 0)) else (none))) else (none)) else (none))) else (none)) else (none)) = some (r1, r2) := H
          have A12 := Aside0.mk A120
          clear A120
          by_cases c13 : t154.size + 1 + t155.size ≤ 9223372036854775807
          · rw [if_pos c13] at H
            have c13b0 := eq_true c13
            have c13b1 : decide (t154.size + 1 + t155.size ≤ 9223372036854775807) = true := decide_eq_true c13
            try have c13b2 : (9223372036854775807 < t154.size + 1 + t155.size) = False := eq_false (Nat.not_lt.2 c13)
            by_cases c14 : t154.size + 1 + t155.size + 1 ≤ 9223372036854775807
            · rw [if_pos c14] at H
              have c14b0 := eq_true c14
              have c14b1 : decide (t154.size + 1 + t155.size + 1 ≤ 9223372036854775807) = true := decide_eq_true c14
              try have c14b2 : (9223372036854775807 < t154.size + 1 + t155.size + 1) = False := eq_false (Nat.not_lt.2 c14)
              replace H := Option.bind_eq_some_iff.mp H
              obtain ⟨t156, A150, H⟩ := H
              replace H : (if t154.size + 1 + t155.size + 1 + t156.size ≤ 9223372036854775807 then (if t154.size + 1 + t155.size + 1 + t156.size + x6_3.size ≤ 9223372036854775807 then ((timecode_two.f a0_3).bind fun t157 => (if t154.size + 1 + t155.size + 1 + t156.size + x6_3.size + t157.size ≤ 9223372036854775807 then (some ((((((t154 ++ (⟨#[58]⟩ : ByteArray)) ++ t155) ++ (⟨#[58]⟩ : ByteArray)) ++ t156) ++ x6_3) ++ t157, 0)) else (none))) else (none)) else (none)) = some (r1, r2) := H
              have A15 := Aside0.mk A150
              clear A150
              by_cases c16 : t154.size + 1 + t155.size + 1 + t156.size ≤ 9223372036854775807
              · rw [if_pos c16] at H
                have c16b0 := eq_true c16
                have c16b1 : decide (t154.size + 1 + t155.size + 1 + t156.size ≤ 9223372036854775807) = true := decide_eq_true c16
                try have c16b2 : (9223372036854775807 < t154.size + 1 + t155.size + 1 + t156.size) = False := eq_false (Nat.not_lt.2 c16)
                by_cases c17 : t154.size + 1 + t155.size + 1 + t156.size + x6_3.size ≤ 9223372036854775807
                · rw [if_pos c17] at H
                  have c17b0 := eq_true c17
                  have c17b1 : decide (t154.size + 1 + t155.size + 1 + t156.size + x6_3.size ≤ 9223372036854775807) = true := decide_eq_true c17
                  try have c17b2 : (9223372036854775807 < t154.size + 1 + t155.size + 1 + t156.size + x6_3.size) = False := eq_false (Nat.not_lt.2 c17)
                  replace H := Option.bind_eq_some_iff.mp H
                  obtain ⟨t157, A180, H⟩ := H
                  replace H : (if t154.size + 1 + t155.size + 1 + t156.size + x6_3.size + t157.size ≤ 9223372036854775807 then (some ((((((t154 ++ (⟨#[58]⟩ : ByteArray)) ++ t155) ++ (⟨#[58]⟩ : ByteArray)) ++ t156) ++ x6_3) ++ t157, 0)) else (none)) = some (r1, r2) := H
                  have A18 := Aside0.mk A180
                  clear A180
                  by_cases c19 : t154.size + 1 + t155.size + 1 + t156.size + x6_3.size + t157.size ≤ 9223372036854775807
                  · rw [if_pos c19] at H
                    have c19b0 := eq_true c19
                    have c19b1 : decide (t154.size + 1 + t155.size + 1 + t156.size + x6_3.size + t157.size ≤ 9223372036854775807) = true := decide_eq_true c19
                    try have c19b2 : (9223372036854775807 < t154.size + 1 + t155.size + 1 + t156.size + x6_3.size + t157.size) = False := eq_false (Nat.not_lt.2 c19)
                    simp only [Option.some.injEq, Prod.mk.injEq] at H
                    obtain ⟨rfl, rfl⟩ := H
                    try go_wp2
                    have n0_ := Aside0.mk (blk_drew BK151.out)
                    have n1_ := Aside0.mk (below_drew1 HB.out)
                    clear BK151
                    clear HB
                    have BK151 := n0_
                    have HB := n1_
                    clear n0_ n1_
                    refine start_ (n := 21) (S := fun w' => w'.cell? ⟨gb151, 0, none⟩ = some (.int .i64 a0_0) ∧ w'.cell? ⟨gb151, 1, none⟩ = some (.int .i64 a0_1) ∧ w'.cell? ⟨gb151, 2, none⟩ = some (.int .i64 a0_2) ∧ w'.cell? ⟨gb151, 3, none⟩ = some (.int .i64 a0_3) ∧ w'.cell? ⟨gb151, 4, none⟩ = some (.int .i64 a0_4) ∧ w'.cell? ⟨gb151, 5, none⟩ = some (.bool a0_5)) (ds := []) #[false, false, false, false, false, false, false, false, false, false, false, false, false, false, false, false, false, false, false, false, false] (by kernel_rfl) rfl rfl ⟨(blk_cell BK151.out 0).trans rfl, (blk_cell BK151.out 1).trans rfl, (blk_cell BK151.out 2).trans rfl, (blk_cell BK151.out 3).trans rfl, (blk_cell BK151.out 4).trans rfl, (blk_cell BK151.out 5).trans rfl⟩ (fun hHeld => ?_); refine with_tabW timecode_Format.tab7 timecode_Format.bits7 (fun HT_ HW_ => ?_)
                    generalize wc.drew = w20 at BK151 HB hHeld ⊢
                    refine pure_ (i := 0) (N := some 17) (v := ?_) (a' := ?_) #[true, false, false, false, false, false, false, false, false, false, false, false, false, false, false, false, false, false, false, false, false] rfl rfl (any_of HT_.out (by kernel_rfl)) (fun _ _ _ h => h) (Or.inl ⟨by rfl, ?_⟩) ?_ ?_
                    rotate_left
                    · intro w'
                      go_simp
                      with_reducible rfl
                    rotate_left
                    · simp only [Act.put, List.setIfInBounds_toArray, List.set_cons_zero, List.set_cons_succ, i64_w, i32_w]
                      rfl
                    refine pure_ (i := 4) (N := some 21) (v := ?_) (a' := ?_) #[true, false, false, false, true, false, false, false, false, false, false, false, false, false, false, false, false, false, false, false, false] rfl rfl (any_of HT_.out (by kernel_rfl)) (fun _ _ _ h => h) (Or.inl ⟨by rfl, ?_⟩) ?_ ?_
                    rotate_left
                    · intro w'
                      go_simp
                      with_reducible rfl
                    rotate_left
                    · simp only [Act.put, List.setIfInBounds_toArray, List.set_cons_zero, List.set_cons_succ, i64_w, i32_w]
                      rfl
                    refine pure_ (i := 9) (N := some 26) (v := ?_) (a' := ?_) #[true, false, false, false, true, false, false, false, false, true, false, false, false, false, false, false, false, false, false, false, false] rfl rfl (any_of HT_.out (by kernel_rfl)) (fun _ _ _ h => h) (Or.inl ⟨by rfl, ?_⟩) ?_ ?_
                    rotate_left
                    · intro w'
                      go_simp
                      with_reducible rfl
                    rotate_left
                    · simp only [Act.put, List.setIfInBounds_toArray, List.set_cons_zero, List.set_cons_succ, i64_w, i32_w]
                      rfl
                    refine pure_ (i := 13) (N := some 30) (v := ?_) (a' := ?_) #[true, false, false, false, true, false, false, false, false, true, false, false, false, true, false, false, false, false, false, false, false] rfl rfl (any_of HT_.out (by kernel_rfl)) (fun _ _ _ h => h) (Or.inl ⟨by rfl, ?_⟩) ?_ ?_
                    rotate_left
                    · intro w'
                      go_simp
                      with_reducible rfl
                    rotate_left
                    · simp only [Act.put, List.setIfInBounds_toArray, List.set_cons_zero, List.set_cons_succ, i64_w, i32_w]
                      rfl
                    refine pure_ (i := 15) (N := some 32) (v := ?_) (a' := ?_) #[true, false, false, false, true, false, false, false, false, true, false, false, false, true, false, true, false, false, false, false, false] rfl rfl (any_of HT_.out (by kernel_rfl)) (fun _ _ _ h => h) (Or.inl ⟨by rfl, ?_⟩) ?_ ?_
                    rotate_left
                    · intro w'
                      go_simp
                      with_reducible rfl
                    rotate_left
                    · simp only [Act.put, List.setIfInBounds_toArray, List.set_cons_zero, List.set_cons_succ, i64_w, i32_w]
                      rfl
                    refine take_ (i := 1) (N := some 18) (v := ?_) (a' := ?_) #[true, true, false, false, true, false, false, false, false, true, false, false, false, true, false, true, false, false, false, false, false] rfl rfl (take_ofW HT_.out HW_.out (by kernel_rfl)) (fun _ _ _ h => h) (Or.inl ⟨by rfl, ?_⟩) hHeld ?_ ?_
                    rotate_left
                    · rintro w' ⟨s0, s1, s2, s3, s4, s5⟩
                      go_simp
                      with_reducible rfl
                    rotate_left
                    · simp only [Act.put, List.setIfInBounds_toArray, List.set_cons_zero, List.set_cons_succ, i64_w, i32_w]
                      rfl
                    refine take_ (i := 5) (N := some 22) (v := ?_) (a' := ?_) #[true, true, false, false, true, true, false, false, false, true, false, false, false, true, false, true, false, false, false, false, false] rfl rfl (take_ofW HT_.out HW_.out (by kernel_rfl)) (fun _ _ _ h => h) (Or.inl ⟨by rfl, ?_⟩) hHeld ?_ ?_
                    rotate_left
                    · rintro w' ⟨s0, s1, s2, s3, s4, s5⟩
                      go_simp
                      with_reducible rfl
                    rotate_left
                    · simp only [Act.put, List.setIfInBounds_toArray, List.set_cons_zero, List.set_cons_succ, i64_w, i32_w]
                      rfl
                    refine take_ (i := 10) (N := some 27) (v := ?_) (a' := ?_) #[true, true, false, false, true, true, false, false, false, true, true, false, false, true, false, true, false, false, false, false, false] rfl rfl (take_ofW HT_.out HW_.out (by kernel_rfl)) (fun _ _ _ h => h) (Or.inl ⟨by rfl, ?_⟩) hHeld ?_ ?_
                    rotate_left
                    · rintro w' ⟨s0, s1, s2, s3, s4, s5⟩
                      go_simp
                      with_reducible rfl
                    rotate_left
                    · simp only [Act.put, List.setIfInBounds_toArray, List.set_cons_zero, List.set_cons_succ, i64_w, i32_w]
                      rfl
                    refine take_ (i := 16) (N := some 33) (v := ?_) (a' := ?_) #[true, true, false, false, true, true, false, false, false, true, true, false, false, true, false, true, true, false, false, false, false] rfl rfl (take_ofW HT_.out HW_.out (by kernel_rfl)) (fun _ _ _ h => h) (Or.inl ⟨by rfl, ?_⟩) hHeld ?_ ?_
                    rotate_left
                    · rintro w' ⟨s0, s1, s2, s3, s4, s5⟩
                      go_simp
                      with_reducible rfl
                    rotate_left
                    · simp only [Act.put, List.setIfInBounds_toArray, List.set_cons_zero, List.set_cons_succ, i64_w, i32_w]
                      rfl
                    refine one_ (i := 2) (N := some 19) #[true, true, true, false, true, true, false, false, false, true, true, false, false, true, false, true, true, false, false, false, false] rfl rfl (one_of HT_.out (by kernel_rfl)) (by decide) (fun K hK => ?_)
                    refine goes_ Try.func45 (by kernel_rfl) rfl #[.int .i64 a0_0] (by rfl) rfl rfl (by (try simp only [List.map_toArray, List.map_cons, List.map_nil]); first | done | rfl | (simp only [List.length_drop, List.length_take]; rfl)) ?_
                    with_reducible refine (timecode_two.calls a0_0 t154 _ A10.out).mono ?_
                    rintro e w21 ⟨rfl, hb⟩
                    refine ⟨_, rfl, ?_⟩
                    have n0_ := Aside0.mk (blk_below (g := gb151) (o := .cells #[.int .i64 a0_0, .int .i64 a0_1, .int .i64 a0_2, .int .i64 a0_3, .int .i64 a0_4, .bool a0_5] 34 (0, 0)) (by (with_reducible repeat (first | refine blk_drewN ?_ _ | refine blk_drew ?_ | refine blk_alloc ?_ _)); exact BK151.out) hb)
                    have n1_ := Aside0.mk (below_step (by repeat (first | (with_reducible first | exact HB.out | apply below_alloc | apply pw_below_drewN | apply below_drew1 | refine below_set ?_ GE151.out) | exact HB.out)) hb)
                    clear BK151
                    clear HB
                    have BK151 := n0_
                    have HB := n1_
                    clear n0_ n1_
                    (try clear hb)
                    (try clear hb2)
                    (try clear hk)
                    (try clear hi)
                    refine hK.out _ _ ⟨(blk_cell BK151.out 0).trans rfl, (blk_cell BK151.out 1).trans rfl, (blk_cell BK151.out 2).trans rfl, (blk_cell BK151.out 3).trans rfl, (blk_cell BK151.out 4).trans rfl, (blk_cell BK151.out 5).trans rfl⟩ (fun hHeld => ?_)
                    clear hK K
                    refine norm_ (a' := ?_) ?_ ?_
                    rotate_left
                    · show Act.put _ (some 19) _ = _
                      simp only [Act.put, List.setIfInBounds_toArray, List.set_cons_zero, List.set_cons_succ, i64_w, i32_w]
                      rfl
                    refine pure_ (i := 3) (N := some 20) (v := ?_) (a' := ?_) #[true, true, true, true, true, true, false, false, false, true, true, false, false, true, false, true, true, false, false, false, false] rfl rfl (any_of HT_.out (by kernel_rfl)) (fun _ _ _ h => h) (Or.inl ⟨by rfl, ?_⟩) ?_ ?_
                    rotate_left
                    · intro w'
                      go_simp
                      with_reducible rfl
                    rotate_left
                    · simp only [Act.put, List.setIfInBounds_toArray, List.set_cons_zero, List.set_cons_succ, i64_w, i32_w]
                      rfl
                    refine one_ (i := 6) (N := some 23) #[true, true, true, true, true, true, true, false, false, true, true, false, false, true, false, true, true, false, false, false, false] rfl rfl (one_of HT_.out (by kernel_rfl)) (by decide) (fun K hK => ?_)
                    refine goes_ Try.func45 (by kernel_rfl) rfl #[.int .i64 a0_1] (by rfl) rfl rfl (by (try simp only [List.map_toArray, List.map_cons, List.map_nil]); first | done | rfl | (simp only [List.length_drop, List.length_take]; rfl)) ?_
                    with_reducible refine (timecode_two.calls a0_1 t155 _ A12.out).mono ?_
                    rintro e w22 ⟨rfl, hb⟩
                    refine ⟨_, rfl, ?_⟩
                    have n0_ := Aside0.mk (blk_below (g := gb151) (o := .cells #[.int .i64 a0_0, .int .i64 a0_1, .int .i64 a0_2, .int .i64 a0_3, .int .i64 a0_4, .bool a0_5] 34 (0, 0)) (by (with_reducible repeat (first | refine blk_drewN ?_ _ | refine blk_drew ?_ | refine blk_alloc ?_ _)); exact BK151.out) hb)
                    have n1_ := Aside0.mk (below_step (by repeat (first | (with_reducible first | exact HB.out | apply below_alloc | apply pw_below_drewN | apply below_drew1 | refine below_set ?_ GE151.out) | exact HB.out)) hb)
                    clear BK151
                    clear HB
                    have BK151 := n0_
                    have HB := n1_
                    clear n0_ n1_
                    (try clear hb)
                    (try clear hb2)
                    (try clear hk)
                    (try clear hi)
                    refine hK.out _ _ ⟨(blk_cell BK151.out 0).trans rfl, (blk_cell BK151.out 1).trans rfl, (blk_cell BK151.out 2).trans rfl, (blk_cell BK151.out 3).trans rfl, (blk_cell BK151.out 4).trans rfl, (blk_cell BK151.out 5).trans rfl⟩ (fun hHeld => ?_)
                    clear hK K
                    refine norm_ (a' := ?_) ?_ ?_
                    rotate_left
                    · show Act.put _ (some 23) _ = _
                      simp only [Act.put, List.setIfInBounds_toArray, List.set_cons_zero, List.set_cons_succ, i64_w, i32_w]
                      rfl
                    refine pure_ (i := 7) (N := some 24) (v := ?_) (a' := ?_) #[true, true, true, true, true, true, true, true, false, true, true, false, false, true, false, true, true, false, false, false, false] rfl rfl (any_of HT_.out (by kernel_rfl)) (fun _ _ _ h => h) (Or.inl ⟨by rfl, ?_⟩) ?_ ?_
                    rotate_left
                    · intro w'
                      go_simp
                      with_reducible rfl
                    rotate_left
                    · simp only [Act.put, List.setIfInBounds_toArray, List.set_cons_zero, List.set_cons_succ, i64_w, i32_w]
                      rfl
                    refine pure_ (i := 8) (N := some 25) (v := ?_) (a' := ?_) #[true, true, true, true, true, true, true, true, true, true, true, false, false, true, false, true, true, false, false, false, false] rfl rfl (any_of HT_.out (by kernel_rfl)) (fun _ _ _ h => h) (Or.inl ⟨by rfl, ?_⟩) ?_ ?_
                    rotate_left
                    · intro w'
                      go_simp
                      with_reducible rfl
                    rotate_left
                    · simp only [Act.put, List.setIfInBounds_toArray, List.set_cons_zero, List.set_cons_succ, i64_w, i32_w]
                      rfl
                    refine one_ (i := 11) (N := some 28) #[true, true, true, true, true, true, true, true, true, true, true, true, false, true, false, true, true, false, false, false, false] rfl rfl (one_of HT_.out (by kernel_rfl)) (by decide) (fun K hK => ?_)
                    refine goes_ Try.func45 (by kernel_rfl) rfl #[.int .i64 a0_2] (by rfl) rfl rfl (by (try simp only [List.map_toArray, List.map_cons, List.map_nil]); first | done | rfl | (simp only [List.length_drop, List.length_take]; rfl)) ?_
                    with_reducible refine (timecode_two.calls a0_2 t156 _ A15.out).mono ?_
                    rintro e w23 ⟨rfl, hb⟩
                    refine ⟨_, rfl, ?_⟩
                    have n0_ := Aside0.mk (blk_below (g := gb151) (o := .cells #[.int .i64 a0_0, .int .i64 a0_1, .int .i64 a0_2, .int .i64 a0_3, .int .i64 a0_4, .bool a0_5] 34 (0, 0)) (by (with_reducible repeat (first | refine blk_drewN ?_ _ | refine blk_drew ?_ | refine blk_alloc ?_ _)); exact BK151.out) hb)
                    have n1_ := Aside0.mk (below_step (by repeat (first | (with_reducible first | exact HB.out | apply below_alloc | apply pw_below_drewN | apply below_drew1 | refine below_set ?_ GE151.out) | exact HB.out)) hb)
                    clear BK151
                    clear HB
                    have BK151 := n0_
                    have HB := n1_
                    clear n0_ n1_
                    (try clear hb)
                    (try clear hb2)
                    (try clear hk)
                    (try clear hi)
                    refine hK.out _ _ ⟨(blk_cell BK151.out 0).trans rfl, (blk_cell BK151.out 1).trans rfl, (blk_cell BK151.out 2).trans rfl, (blk_cell BK151.out 3).trans rfl, (blk_cell BK151.out 4).trans rfl, (blk_cell BK151.out 5).trans rfl⟩ (fun hHeld => ?_)
                    clear hK K
                    refine norm_ (a' := ?_) ?_ ?_
                    rotate_left
                    · show Act.put _ (some 28) _ = _
                      simp only [Act.put, List.setIfInBounds_toArray, List.set_cons_zero, List.set_cons_succ, i64_w, i32_w]
                      rfl
                    refine pure_ (i := 12) (N := some 29) (v := ?_) (a' := ?_) #[true, true, true, true, true, true, true, true, true, true, true, true, true, true, false, true, true, false, false, false, false] rfl rfl (any_of HT_.out (by kernel_rfl)) (fun _ _ _ h => h) (Or.inl ⟨by rfl, ?_⟩) ?_ ?_
                    rotate_left
                    · intro w'
                      go_simp
                      with_reducible rfl
                    rotate_left
                    · simp only [Act.put, List.setIfInBounds_toArray, List.set_cons_zero, List.set_cons_succ, i64_w, i32_w]
                      rfl
                    refine pure_ (i := 14) (N := some 31) (v := ?_) (a' := ?_) #[true, true, true, true, true, true, true, true, true, true, true, true, true, true, true, true, true, false, false, false, false] rfl rfl (any_of HT_.out (by kernel_rfl)) (fun _ _ _ h => h) (Or.inl ⟨by rfl, ?_⟩) ?_ ?_
                    rotate_left
                    · intro w'
                      go_simp
                      with_reducible rfl
                    rotate_left
                    · simp only [Act.put, List.setIfInBounds_toArray, List.set_cons_zero, List.set_cons_succ, i64_w, i32_w]
                      rfl
                    refine one_ (i := 17) (N := some 34) #[true, true, true, true, true, true, true, true, true, true, true, true, true, true, true, true, true, true, false, false, false] rfl rfl (one_of HT_.out (by kernel_rfl)) (by decide) (fun K hK => ?_)
                    refine goes_ Try.func45 (by kernel_rfl) rfl #[.int .i64 a0_3] (by rfl) rfl rfl (by (try simp only [List.map_toArray, List.map_cons, List.map_nil]); first | done | rfl | (simp only [List.length_drop, List.length_take]; rfl)) ?_
                    with_reducible refine (timecode_two.calls a0_3 t157 _ A18.out).mono ?_
                    rintro e w24 ⟨rfl, hb⟩
                    refine ⟨_, rfl, ?_⟩
                    have n0_ := Aside0.mk (blk_below (g := gb151) (o := .cells #[.int .i64 a0_0, .int .i64 a0_1, .int .i64 a0_2, .int .i64 a0_3, .int .i64 a0_4, .bool a0_5] 34 (0, 0)) (by (with_reducible repeat (first | refine blk_drewN ?_ _ | refine blk_drew ?_ | refine blk_alloc ?_ _)); exact BK151.out) hb)
                    have n1_ := Aside0.mk (below_step (by repeat (first | (with_reducible first | exact HB.out | apply below_alloc | apply pw_below_drewN | apply below_drew1 | refine below_set ?_ GE151.out) | exact HB.out)) hb)
                    clear BK151
                    clear HB
                    have BK151 := n0_
                    have HB := n1_
                    clear n0_ n1_
                    (try clear hb)
                    (try clear hb2)
                    (try clear hk)
                    (try clear hi)
                    refine hK.out _ _ ⟨(blk_cell BK151.out 0).trans rfl, (blk_cell BK151.out 1).trans rfl, (blk_cell BK151.out 2).trans rfl, (blk_cell BK151.out 3).trans rfl, (blk_cell BK151.out 4).trans rfl, (blk_cell BK151.out 5).trans rfl⟩ (fun hHeld => ?_)
                    clear hK K
                    refine norm_ (a' := ?_) ?_ ?_
                    rotate_left
                    · show Act.put _ (some 34) _ = _
                      simp only [Act.put, List.setIfInBounds_toArray, List.set_cons_zero, List.set_cons_succ, i64_w, i32_w]
                      rfl
                    refine pure_ (i := 18) (N := some 35) (v := ?_) (a' := ?_) #[true, true, true, true, true, true, true, true, true, true, true, true, true, true, true, true, true, true, true, false, false] rfl rfl (any_of HT_.out (by kernel_rfl)) (fun _ _ _ h => h) (Or.inl ⟨by rfl, ?_⟩) ?_ ?_
                    rotate_left
                    · intro w'
                      go_simp
                      with_reducible rfl
                    rotate_left
                    · simp only [Act.put, List.setIfInBounds_toArray, List.set_cons_zero, List.set_cons_succ, i64_w, i32_w]
                      rfl
                    refine pure_ (i := 19) (N := some 2) (v := ?_) (a' := ?_) #[true, true, true, true, true, true, true, true, true, true, true, true, true, true, true, true, true, true, true, true, false] rfl rfl (any_of HT_.out (by kernel_rfl)) (fun _ _ _ h => h) (Or.inl ⟨by rfl, ?_⟩) ?_ ?_
                    rotate_left
                    · intro w'
                      go_simp
                      with_reducible rfl
                    rotate_left
                    · simp only [Act.put, List.setIfInBounds_toArray, List.set_cons_zero, List.set_cons_succ, i64_w, i32_w]
                      rfl
                    refine pure_ (i := 20) (N := some 3) (v := ?_) (a' := ?_) #[true, true, true, true, true, true, true, true, true, true, true, true, true, true, true, true, true, true, true, true, true] rfl rfl (any_of HT_.out (by kernel_rfl)) (fun _ _ _ h => h) (Or.inl ⟨by rfl, ?_⟩) ?_ ?_
                    rotate_left
                    · intro w'
                      go_simp
                      with_reducible rfl
                    rotate_left
                    · simp only [Act.put, List.setIfInBounds_toArray, List.set_cons_zero, List.set_cons_succ, i64_w, i32_w]
                      rfl
                    refine done_ (done_of HT_.out (by kernel_rfl)) ?_
                    try go_wp2
                    go_ret2
                    exact ⟨by first | rfl | (simp [errW_none, errW_some] <;> rfl) | (simp [*, errW_none, errW_some] <;> rfl), by repeat (first | (with_reducible first | exact HB.out | apply below_alloc | apply pw_below_drewN | apply below_drew1 | refine below_set ?_ GE151.out) | exact HB.out)⟩
                  · rw [if_neg c19] at H
                    exact absurd H (by simp)
                · rw [if_neg c17] at H
                  exact absurd H (by simp)
              · rw [if_neg c16] at H
                exact absurd H (by simp)
            · rw [if_neg c14] at H
              exact absurd H (by simp)
          · rw [if_neg c13] at H
            exact absurd H (by simp)
        · rw [if_neg c11] at H
          exact absurd H (by simp)
  · rw [if_neg c3] at H
    have c3b0 : (t153 == 0) = false := beq_eq_false_iff_ne.mpr c3
    have c3b1 : (t153 != 0) = true := bne_iff_ne.mpr c3
    simp only [Option.some.injEq, Prod.mk.injEq] at H
    obtain ⟨rfl, rfl⟩ := H
    go_enter Try.func30, Try.ntmps30
    go_wp2_with (first | ((with_reducible refine gate_dst (N := 1) rfl ?_); refine box_event ?hg (N := 1) ?hd (cs := #[.int .i64 a0_0, .int .i64 a0_1, .int .i64 a0_2, .int .i64 a0_3, .int .i64 a0_4, .bool a0_5]) (t := 34) ?hr ?_; (case hd => rfl); (case hg => rfl); (case hr => first | (go_simp; done) | (go_simp; rfl)); intro gb151 hg w25 hbox hb; have n0_ := Aside0.mk (below_step (by repeat (first | (with_reducible first | exact HB.out | apply below_alloc | apply pw_below_drewN | apply below_drew1) | exact HB.out)) hb); have n1_ := Aside0.mk (hbox); have n2_ := Aside0.mk ((by rw [hg]; exact (below_size (by repeat (first | (with_reducible first | exact HB.out | apply below_alloc | apply pw_below_drewN | apply below_drew1) | exact HB.out))) : w.heap.size ≤ gb151)); have n3_ := Aside0.mk ((by rw [hg]; exact (below_size (by repeat (first | (with_reducible first | exact HB.out | apply below_alloc | apply pw_below_drewN | apply below_drew1) | exact HB.out))) : w.heap.size ≤ gb151)); clear HB; have HB := n0_; have BK151 := n1_; have GW151 := n2_; have GE151 := n3_; clear n0_ n1_ n2_ n3_; clear hb hbox hg; have hcz26_0 : w25.cell? ⟨gb151, 0, none⟩ = some (.int .i64 a0_0) := (blk_cell BK151.out 0).trans rfl; have hcz26_1 : w25.cell? ⟨gb151, 1, none⟩ = some (.int .i64 a0_1) := (blk_cell BK151.out 1).trans rfl; have hcz26_2 : w25.cell? ⟨gb151, 2, none⟩ = some (.int .i64 a0_2) := (blk_cell BK151.out 2).trans rfl; have hcz26_3 : w25.cell? ⟨gb151, 3, none⟩ = some (.int .i64 a0_3) := (blk_cell BK151.out 3).trans rfl; have hcz26_4 : w25.cell? ⟨gb151, 4, none⟩ = some (.int .i64 a0_4) := (blk_cell BK151.out 4).trans rfl; have hcz26_5 : w25.cell? ⟨gb151, 5, none⟩ = some (.bool a0_5) := (blk_cell BK151.out 5).trans rfl; have hfz26_0 := blk_frozen BK151.out 0; have hfz26_1 := blk_frozen BK151.out 1; have hfz26_2 := blk_frozen BK151.out 2; have hfz26_3 := blk_frozen BK151.out 3; have hfz26_4 := blk_frozen BK151.out 4; have hfz26_5 := blk_frozen BK151.out 5) | ((with_reducible refine gate_callee (f := 25) rfl ?_); refine goesL_ (some 9) rfl rfl Try.func25 (by kernel_rfl) rfl #[.agg #[.int .i64 a0_0, .int .i64 a0_1, .int .i64 a0_2, .int .i64 a0_3, .int .i64 a0_4, .bool a0_5]] rfl (by (try simp only [List.map_toArray, List.map_cons, List.map_nil]); first | done | rfl | (simp only [List.length_drop, List.length_take]; rfl)) ?_; (with_reducible refine (timecode_Number.calls k a0_0 a0_1 a0_2 a0_3 a0_4 a0_5 t152 t153 _ A2.out).mono ?_); rintro e w27 ⟨rfl, hb⟩; refine ⟨_, rfl, ?_⟩; have n0_ := Aside0.mk (blk_below (g := gb151) (o := .cells #[.int .i64 a0_0, .int .i64 a0_1, .int .i64 a0_2, .int .i64 a0_3, .int .i64 a0_4, .bool a0_5] 34 (0, 0)) (by (with_reducible repeat (first | refine blk_drewN ?_ _ | refine blk_drew ?_ | refine blk_alloc ?_ _)); exact BK151.out) hb); have n1_ := Aside0.mk (below_step (by repeat (first | (with_reducible first | exact HB.out | apply below_alloc | apply pw_below_drewN | apply below_drew1 | refine below_set ?_ GE151.out) | exact HB.out)) hb); clear BK151; clear HB; have BK151 := n0_; have HB := n1_; clear n0_ n1_; (try clear hb); (try clear hb2); (try clear hk); (try clear hi)))
    go_ret2
    exact ⟨by first | rfl | (simp [errW_none, errW_some] <;> rfl) | (simp [*, errW_none, errW_some] <;> rfl), by repeat (first | (with_reducible first | exact HB.out | apply below_alloc | apply pw_below_drewN | apply below_drew1 | refine below_set ?_ GE151.out) | exact HB.out)⟩

end Go.Proofs.Ytfdhjnfpppafaaa.PTimecodeDrifts
