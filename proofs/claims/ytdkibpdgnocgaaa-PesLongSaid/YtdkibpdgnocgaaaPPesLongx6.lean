-- Written for this claim by a turned copy of the kit's print (wip/printx/mk.py). By an AI agent.
import Derived.Test.YtdkibpdgnocgaaaPPesLongx0
import Derived.Test.YtdkibpdgnocgaaaPPesLongx1
import Derived.Test.YtdkibpdgnocgaaaPPesLongx2
import Derived.Test.YtdkibpdgnocgaaaPPesLongx4
import Derived.Test.YtdkibpdgnocgaaaPPesLongx5
namespace Go.Proofs.Ytdkibpdgnocgaaa.PPesLong
open Go.RowKit Go.Proofs.YtdkibpdgnocgaaaW.PrintWords Go.Proofs.YtdkibpdgnocgaaaW.PrintLast Go.Proofs.YtdkibpdgnocgaaaW.PrintMore
attribute [local go_sem] max2_int min2_int max_two min_two max_three min_three max_four min_four   -- for this text's walks alone
set_option linter.unusedVariables false
set_option linter.unusedSimpArgs false

/-! ### cutroomlaw16_PesLong: function 9 -/
mutual
def cutroomlaw16_PesLong.j0 : Nat → Int → Int → Bool → Int → Int → Option (Bool)
  | 0, _, _, _, _, _ => none
  | k + 1, x0, x1, x47, x222000, x222001 => if x47 = true then ((cutroomlaw16_awake.f k).bind fun t223 => (some t223)) else ((cutroomref01_Position.f k x0 x222000 x222001 90000 1).bind fun bt225 => ((cutroomref01_Position.f k (wrap64 (x0 + x1)) x222000 x222001 90000 1).bind fun bt227 => (if bt225.2 = 0 then (if bt227.2 = 0 then (if (wrap64 (bt227.1 - bt225.1)) ≥ 4294967296 then (cutroomlaw16_PesLong.j1 k x0 x1 bt225.1 bt227.1 true x222000 x222001) else (cutroomlaw16_PesLong.j1 k x0 x1 bt225.1 bt227.1 (decide (bt227.1 > 2305843009213693952)) x222000 x222001)) else (cutroomlaw16_PesLong.j1 k x0 x1 bt225.1 bt227.1 true x222000 x222001)) else (cutroomlaw16_PesLong.j1 k x0 x1 bt225.1 bt227.1 true x222000 x222001))))
def cutroomlaw16_PesLong.j1 : Nat → Int → Int → Int → Int → Bool → Int → Int → Option (Bool)
  | 0, _, _, _, _, _, _, _ => none
  | k + 1, x0, x1, x8, x10, x81, x222000, x222001 => if x81 = true then ((cutroomlaw16_awake.f k).bind fun t229 => (some t229)) else ((pes_Ticks.f k (wrap64 (x0 + x1)) x222000 x222001).bind fun bt230 => ((cutroomlaw16_awake.f k).bind fun t232 => (if t232 = true then (if bt230.2 = 0 then ((pes_Unwrap.f k x8 bt230.1).bind fun t233 => (some (t233 == x10))) else (some false)) else (some false))))
end
def cutroomlaw16_PesLong.f (k : Nat) (a0 : Int) (a1 : Int) (a2_0 : Int) (a2_1 : Int) : Option (Bool) := if a0 < 0 then (cutroomlaw16_PesLong.j0 k a0 a1 true a2_0 a2_1) else (if a0 > 1073741824 then (cutroomlaw16_PesLong.j0 k a0 a1 true a2_0 a2_1) else (if a1 < 1 then (cutroomlaw16_PesLong.j0 k a0 a1 true a2_0 a2_1) else (if a1 > 1048576 then (cutroomlaw16_PesLong.j0 k a0 a1 true a2_0 a2_1) else ((cutroomref01_Valid.f k a2_0 a2_1).bind fun t222 => (if t222 = true then (if a2_0 < 1 then (cutroomlaw16_PesLong.j0 k a0 a1 true a2_0 a2_1) else (if a2_0 > 1048576 then (cutroomlaw16_PesLong.j0 k a0 a1 true a2_0 a2_1) else (cutroomlaw16_PesLong.j0 k a0 a1 (decide (a2_1 > 65536)) a2_0 a2_1))) else (cutroomlaw16_PesLong.j0 k a0 a1 true a2_0 a2_1))))))
theorem cutroomlaw16_PesLong.mono_l : ∀ k, (∀ y0 y1 y2 y3 y4, LeO (cutroomlaw16_PesLong.j0 k y0 y1 y2 y3 y4) (cutroomlaw16_PesLong.j0 (k + 1) y0 y1 y2 y3 y4)) ∧ (∀ y0 y1 y2 y3 y4 y5 y6, LeO (cutroomlaw16_PesLong.j1 k y0 y1 y2 y3 y4 y5 y6) (cutroomlaw16_PesLong.j1 (k + 1) y0 y1 y2 y3 y4 y5 y6))
  | 0 => ⟨fun _ _ _ _ _ r h => by simp [cutroomlaw16_PesLong.j0] at h, fun _ _ _ _ _ _ _ r h => by simp [cutroomlaw16_PesLong.j1] at h⟩
  | k + 1 => by
    obtain ⟨ih0, ih1⟩ := cutroomlaw16_PesLong.mono_l k
    refine ⟨?_, ?_⟩
    · intro y0 y1 y2 y3 y4
      unfold cutroomlaw16_PesLong.j0
      repeat' first
      | (with_reducible exact ih0 _ _ _ _ _)
      | (with_reducible exact ih1 _ _ _ _ _ _ _)
      | (with_reducible exact cutroomlaw16_awake.mono _)
      | (with_reducible exact cutroomref01_Position.mono _ _ _ _ _ _)
      | (with_reducible exact cutroomref01_Valid.mono _ _ _)
      | (with_reducible exact pes_Ticks.mono _ _ _ _)
      | (with_reducible exact pes_Unwrap.mono _ _ _)
      | (with_reducible exact LeO.refl _)
      | (with_reducible exact LeO.none _)
      | (with_reducible refine LeO.ite ?_ ?_)
      | (with_reducible refine LeO.bind ?_ (fun _ => ?_))
      | exact ih0 _ _ _ _ _
      | exact ih1 _ _ _ _ _ _ _
      | exact cutroomlaw16_awake.mono _
      | exact cutroomref01_Position.mono _ _ _ _ _ _
      | exact cutroomref01_Valid.mono _ _ _
      | exact pes_Ticks.mono _ _ _ _
      | exact pes_Unwrap.mono _ _ _
      | exact LeO.none _
      | refine LeO.ite ?_ ?_
      | refine LeO.bind ?_ (fun _ => ?_)
    · intro y0 y1 y2 y3 y4 y5 y6
      unfold cutroomlaw16_PesLong.j1
      repeat' first
      | (with_reducible exact ih0 _ _ _ _ _)
      | (with_reducible exact ih1 _ _ _ _ _ _ _)
      | (with_reducible exact cutroomlaw16_awake.mono _)
      | (with_reducible exact cutroomref01_Position.mono _ _ _ _ _ _)
      | (with_reducible exact cutroomref01_Valid.mono _ _ _)
      | (with_reducible exact pes_Ticks.mono _ _ _ _)
      | (with_reducible exact pes_Unwrap.mono _ _ _)
      | (with_reducible exact LeO.refl _)
      | (with_reducible exact LeO.none _)
      | (with_reducible refine LeO.ite ?_ ?_)
      | (with_reducible refine LeO.bind ?_ (fun _ => ?_))
      | exact ih0 _ _ _ _ _
      | exact ih1 _ _ _ _ _ _ _
      | exact cutroomlaw16_awake.mono _
      | exact cutroomref01_Position.mono _ _ _ _ _ _
      | exact cutroomref01_Valid.mono _ _ _
      | exact pes_Ticks.mono _ _ _ _
      | exact pes_Unwrap.mono _ _ _
      | exact LeO.none _
      | refine LeO.ite ?_ ?_
      | refine LeO.bind ?_ (fun _ => ?_)
theorem cutroomlaw16_PesLong.mono : ∀ a0 a1 a2 a3 k, LeO (cutroomlaw16_PesLong.f k a0 a1 a2 a3) (cutroomlaw16_PesLong.f (k + 1) a0 a1 a2 a3) := by
  intro a0 a1 a2 a3 k
  obtain ⟨ih0, ih1⟩ := cutroomlaw16_PesLong.mono_l k
  unfold cutroomlaw16_PesLong.f
  repeat' first
      | (with_reducible exact ih0 _ _ _ _ _)
      | (with_reducible exact ih1 _ _ _ _ _ _ _)
      | (with_reducible exact cutroomlaw16_awake.mono _)
      | (with_reducible exact cutroomref01_Position.mono _ _ _ _ _ _)
      | (with_reducible exact cutroomref01_Valid.mono _ _ _)
      | (with_reducible exact pes_Ticks.mono _ _ _ _)
      | (with_reducible exact pes_Unwrap.mono _ _ _)
      | (with_reducible exact LeO.refl _)
      | (with_reducible exact LeO.none _)
      | (with_reducible refine LeO.ite ?_ ?_)
      | (with_reducible refine LeO.bind ?_ (fun _ => ?_))
      | exact ih0 _ _ _ _ _
      | exact ih1 _ _ _ _ _ _ _
      | exact cutroomlaw16_awake.mono _
      | exact cutroomref01_Position.mono _ _ _ _ _ _
      | exact cutroomref01_Valid.mono _ _ _
      | exact pes_Ticks.mono _ _ _ _
      | exact pes_Unwrap.mono _ _ _
      | exact LeO.none _
      | refine LeO.ite ?_ ?_
      | refine LeO.bind ?_ (fun _ => ?_)
set_option maxHeartbeats 8000000 in
set_option maxRecDepth 100000 in
theorem cutroomlaw16_PesLong.calls (k : Nat) (a0 : Int) (a1 : Int) (a2_0 : Int) (a2_1 : Int) (r : Bool) (w : World) (h : cutroomlaw16_PesLong.f k a0 a1 a2_0 a2_1 = some r) :
    Calls Try.prog 9 #[.int .i64 a0, .int .i64 a1, .agg #[.int .i64 a2_0, .int .i64 a2_1]] w fun e w' => e = .returned (.bool r) ∧ Below w.heap.size w w' := by
  have hu55 := Try.underlying55
  have HB := Aside0.mk (Below.refl w.heap.size w)
  have H : (if a0 < 0 then (cutroomlaw16_PesLong.j0 k a0 a1 true a2_0 a2_1) else (if a0 > 1073741824 then (cutroomlaw16_PesLong.j0 k a0 a1 true a2_0 a2_1) else (if a1 < 1 then (cutroomlaw16_PesLong.j0 k a0 a1 true a2_0 a2_1) else (if a1 > 1048576 then (cutroomlaw16_PesLong.j0 k a0 a1 true a2_0 a2_1) else ((cutroomref01_Valid.f k a2_0 a2_1).bind fun t222 => (if t222 = true then (if a2_0 < 1 then (cutroomlaw16_PesLong.j0 k a0 a1 true a2_0 a2_1) else (if a2_0 > 1048576 then (cutroomlaw16_PesLong.j0 k a0 a1 true a2_0 a2_1) else (cutroomlaw16_PesLong.j0 k a0 a1 (decide (a2_1 > 65536)) a2_0 a2_1))) else (cutroomlaw16_PesLong.j0 k a0 a1 true a2_0 a2_1))))))) = some r := h
  clear h
  have HC4 := Aside0.mk H
  clear H
  go_enter Try.func9, Try.ntmps9
  go_upto_region 1 with (first | ((with_reducible refine gate_dst (N := 5) rfl ?_); refine box_event ?hg (N := 5) ?hd (cs := #[.int .i64 a2_0, .int .i64 a2_1]) (t := 55) ?hr ?_; (case hd => rfl); (case hg => rfl); (case hr => first | (go_simp; done) | (go_simp; rfl)); intro gb221 hg w5 hbox hb; have n0_ := Aside0.mk (below_step (by repeat (first | (with_reducible first | exact HB.out | apply below_alloc | apply pw_below_drewN | apply below_drew1) | exact HB.out)) hb); have n1_ := Aside0.mk (hbox); have n2_ := Aside0.mk ((by rw [hg]; exact (below_size (by repeat (first | (with_reducible first | exact HB.out | apply below_alloc | apply pw_below_drewN | apply below_drew1) | exact HB.out))) : w.heap.size ≤ gb221)); have n3_ := Aside0.mk ((by rw [hg]; exact (below_size (by repeat (first | (with_reducible first | exact HB.out | apply below_alloc | apply pw_below_drewN | apply below_drew1) | exact HB.out))) : w.heap.size ≤ gb221)); clear HB; have HB := n0_; have BK221 := n1_; have GW221 := n2_; have GE221 := n3_; clear n0_ n1_ n2_ n3_; clear hb hbox hg))
  (try simp only [Act.put, List.setIfInBounds_toArray, List.set_cons_zero, List.set_cons_succ])
  go_cut [47] (fun v47 wc => ∃ (kq : Nat) (x47_3 : Bool), v47 = .bool x47_3 ∧ Aside0 (cutroomlaw16_PesLong.j0 kq a0 a1 x47_3 a2_0 a2_1 = some r) ∧ Aside0 (kq ≤ k) ∧ Aside0 (wc.heap[gb221]? = some (.cells #[.int .i64 a2_0, .int .i64 a2_1] 55 (0, 0))) ∧ Aside0 (Below w.heap.size w wc))
  case first =>
    have H := HC4.out
    clear HC4
    by_cases c6 : a0 < 0
    · rw [if_pos c6] at H
      have c6b0 : decide (a0 < 0) = true := decide_eq_true c6
      clear c6
      (first | rw [c6b0] | (simp only [i64_w, i32_w]; rw [c6b0]) | skip)
      have H' := Aside0.mk H
      clear H
      go_wp2
      go_meet
      case rel => exact ⟨_, (true), (by first | rfl | (simp; done) | (simp [*]; done)), H', ⟨by first | omega | exact Nat.le_refl _⟩, ⟨by (with_reducible repeat (first | refine blk_drewN ?_ _ | refine blk_drew ?_ | refine blk_alloc ?_ _)); exact BK221.out⟩, ⟨by repeat (first | (with_reducible first | exact HB.out | apply below_alloc | apply pw_below_drewN | apply below_drew1 | refine below_set ?_ GE221.out) | exact HB.out)⟩⟩
    · rw [if_neg c6] at H
      have c6b0 : decide (a0 < 0) = false := decide_eq_false c6
      clear c6
      (first | rw [c6b0] | (simp only [i64_w, i32_w]; rw [c6b0]) | skip)
      by_cases c7 : a0 > 1073741824
      · rw [if_pos c7] at H
        have c7b0 : decide (1073741824 < a0) = true := decide_eq_true c7
        clear c7
        have H' := Aside0.mk H
        clear H
        go_wp2
        go_meet
        case rel => exact ⟨_, (true), (by first | rfl | (simp; done) | (simp [*]; done)), H', ⟨by first | omega | exact Nat.le_refl _⟩, ⟨by (with_reducible repeat (first | refine blk_drewN ?_ _ | refine blk_drew ?_ | refine blk_alloc ?_ _)); exact BK221.out⟩, ⟨by repeat (first | (with_reducible first | exact HB.out | apply below_alloc | apply pw_below_drewN | apply below_drew1 | refine below_set ?_ GE221.out) | exact HB.out)⟩⟩
      · rw [if_neg c7] at H
        have c7b0 : decide (1073741824 < a0) = false := decide_eq_false c7
        clear c7
        by_cases c8 : a1 < 1
        · rw [if_pos c8] at H
          have c8b0 : decide (a1 < 1) = true := decide_eq_true c8
          clear c8
          have H' := Aside0.mk H
          clear H
          go_wp2
          go_meet
          case rel => exact ⟨_, (true), (by first | rfl | (simp; done) | (simp [*]; done)), H', ⟨by first | omega | exact Nat.le_refl _⟩, ⟨by (with_reducible repeat (first | refine blk_drewN ?_ _ | refine blk_drew ?_ | refine blk_alloc ?_ _)); exact BK221.out⟩, ⟨by repeat (first | (with_reducible first | exact HB.out | apply below_alloc | apply pw_below_drewN | apply below_drew1 | refine below_set ?_ GE221.out) | exact HB.out)⟩⟩
        · rw [if_neg c8] at H
          have c8b0 : decide (a1 < 1) = false := decide_eq_false c8
          clear c8
          by_cases c9 : a1 > 1048576
          · rw [if_pos c9] at H
            have c9b0 : decide (1048576 < a1) = true := decide_eq_true c9
            clear c9
            have H' := Aside0.mk H
            clear H
            go_wp2
            go_meet
            case rel => exact ⟨_, (true), (by first | rfl | (simp; done) | (simp [*]; done)), H', ⟨by first | omega | exact Nat.le_refl _⟩, ⟨by (with_reducible repeat (first | refine blk_drewN ?_ _ | refine blk_drew ?_ | refine blk_alloc ?_ _)); exact BK221.out⟩, ⟨by repeat (first | (with_reducible first | exact HB.out | apply below_alloc | apply pw_below_drewN | apply below_drew1 | refine below_set ?_ GE221.out) | exact HB.out)⟩⟩
          · rw [if_neg c9] at H
            have c9b0 : decide (1048576 < a1) = false := decide_eq_false c9
            clear c9
            replace H := Option.bind_eq_some_iff.mp H
            obtain ⟨t222, A100, H⟩ := H
            replace H : (if t222 = true then (if a2_0 < 1 then (cutroomlaw16_PesLong.j0 k a0 a1 true a2_0 a2_1) else (if a2_0 > 1048576 then (cutroomlaw16_PesLong.j0 k a0 a1 true a2_0 a2_1) else (cutroomlaw16_PesLong.j0 k a0 a1 (decide (a2_1 > 65536)) a2_0 a2_1))) else (cutroomlaw16_PesLong.j0 k a0 a1 true a2_0 a2_1)) = some r := H
            have A10 := Aside0.mk A100
            clear A100
            by_cases c11 : t222 = true
            · subst c11
              have H1 : (if a2_0 < 1 then (cutroomlaw16_PesLong.j0 k a0 a1 true a2_0 a2_1) else (if a2_0 > 1048576 then (cutroomlaw16_PesLong.j0 k a0 a1 true a2_0 a2_1) else (cutroomlaw16_PesLong.j0 k a0 a1 (decide (a2_1 > 65536)) a2_0 a2_1))) = some r := by rw [if_pos rfl] at H; exact H
              clear H
              have H := H1
              clear H1
              by_cases c12 : a2_0 < 1
              · rw [if_pos c12] at H
                have c12b0 : decide (a2_0 < 1) = true := decide_eq_true c12
                clear c12
                have H' := Aside0.mk H
                clear H
                have hcz13_0 : w5.cell? ⟨gb221, 0, none⟩ = some (.int .i64 a2_0) := (blk_cell BK221.out 0).trans rfl
                have hcz13_1 : w5.cell? ⟨gb221, 1, none⟩ = some (.int .i64 a2_1) := (blk_cell BK221.out 1).trans rfl
                have hfz13_0 := blk_frozen BK221.out 0
                have hfz13_1 := blk_frozen BK221.out 1
                go_wp2_with (first | (go_at_call 26; (with_reducible refine (cutroomref01_Valid.calls k a2_0 a2_1 true _ A10.out).mono ?_); rintro e w14 ⟨rfl, hb⟩; have n0_ := Aside0.mk (blk_below (g := gb221) (o := .cells #[.int .i64 a2_0, .int .i64 a2_1] 55 (0, 0)) (by (with_reducible repeat (first | refine blk_drewN ?_ _ | refine blk_drew ?_ | refine blk_alloc ?_ _)); exact BK221.out) hb); have n1_ := Aside0.mk (below_step (by repeat (first | (with_reducible first | exact HB.out | apply below_alloc | apply pw_below_drewN | apply below_drew1 | refine below_set ?_ GE221.out) | exact HB.out)) hb); clear BK221; clear HB; have BK221 := n0_; have HB := n1_; clear n0_ n1_; (try clear hb); (try clear hb2); (try clear hk); (try clear hi); have hcz15_0 : w14.cell? ⟨gb221, 0, none⟩ = some (.int .i64 a2_0) := (blk_cell BK221.out 0).trans rfl; have hcz15_1 : w14.cell? ⟨gb221, 1, none⟩ = some (.int .i64 a2_1) := (blk_cell BK221.out 1).trans rfl; have hfz15_0 := blk_frozen BK221.out 0; have hfz15_1 := blk_frozen BK221.out 1))
                go_meet
                case rel => exact ⟨_, (true), (by first | rfl | (simp; done) | (simp [*]; done)), H', ⟨by first | omega | exact Nat.le_refl _⟩, ⟨by (with_reducible repeat (first | refine blk_drewN ?_ _ | refine blk_drew ?_ | refine blk_alloc ?_ _)); exact BK221.out⟩, ⟨by repeat (first | (with_reducible first | exact HB.out | apply below_alloc | apply pw_below_drewN | apply below_drew1 | refine below_set ?_ GE221.out) | exact HB.out)⟩⟩
              · rw [if_neg c12] at H
                have c12b0 : decide (a2_0 < 1) = false := decide_eq_false c12
                clear c12
                by_cases c16 : a2_0 > 1048576
                · rw [if_pos c16] at H
                  have c16b0 : decide (1048576 < a2_0) = true := decide_eq_true c16
                  clear c16
                  have H' := Aside0.mk H
                  clear H
                  have hcz17_0 : w5.cell? ⟨gb221, 0, none⟩ = some (.int .i64 a2_0) := (blk_cell BK221.out 0).trans rfl
                  have hcz17_1 : w5.cell? ⟨gb221, 1, none⟩ = some (.int .i64 a2_1) := (blk_cell BK221.out 1).trans rfl
                  have hfz17_0 := blk_frozen BK221.out 0
                  have hfz17_1 := blk_frozen BK221.out 1
                  go_wp2_with (first | (go_at_call 26; (with_reducible refine (cutroomref01_Valid.calls k a2_0 a2_1 true _ A10.out).mono ?_); rintro e w18 ⟨rfl, hb⟩; have n0_ := Aside0.mk (blk_below (g := gb221) (o := .cells #[.int .i64 a2_0, .int .i64 a2_1] 55 (0, 0)) (by (with_reducible repeat (first | refine blk_drewN ?_ _ | refine blk_drew ?_ | refine blk_alloc ?_ _)); exact BK221.out) hb); have n1_ := Aside0.mk (below_step (by repeat (first | (with_reducible first | exact HB.out | apply below_alloc | apply pw_below_drewN | apply below_drew1 | refine below_set ?_ GE221.out) | exact HB.out)) hb); clear BK221; clear HB; have BK221 := n0_; have HB := n1_; clear n0_ n1_; (try clear hb); (try clear hb2); (try clear hk); (try clear hi); have hcz19_0 : w18.cell? ⟨gb221, 0, none⟩ = some (.int .i64 a2_0) := (blk_cell BK221.out 0).trans rfl; have hcz19_1 : w18.cell? ⟨gb221, 1, none⟩ = some (.int .i64 a2_1) := (blk_cell BK221.out 1).trans rfl; have hfz19_0 := blk_frozen BK221.out 0; have hfz19_1 := blk_frozen BK221.out 1))
                  go_meet
                  case rel => exact ⟨_, (true), (by first | rfl | (simp; done) | (simp [*]; done)), H', ⟨by first | omega | exact Nat.le_refl _⟩, ⟨by (with_reducible repeat (first | refine blk_drewN ?_ _ | refine blk_drew ?_ | refine blk_alloc ?_ _)); exact BK221.out⟩, ⟨by repeat (first | (with_reducible first | exact HB.out | apply below_alloc | apply pw_below_drewN | apply below_drew1 | refine below_set ?_ GE221.out) | exact HB.out)⟩⟩
                · rw [if_neg c16] at H
                  have c16b0 : decide (1048576 < a2_0) = false := decide_eq_false c16
                  clear c16
                  have H' := Aside0.mk H
                  clear H
                  have hcz20_0 : w5.cell? ⟨gb221, 0, none⟩ = some (.int .i64 a2_0) := (blk_cell BK221.out 0).trans rfl
                  have hcz20_1 : w5.cell? ⟨gb221, 1, none⟩ = some (.int .i64 a2_1) := (blk_cell BK221.out 1).trans rfl
                  have hfz20_0 := blk_frozen BK221.out 0
                  have hfz20_1 := blk_frozen BK221.out 1
                  go_wp2_with (first | (go_at_call 26; (with_reducible refine (cutroomref01_Valid.calls k a2_0 a2_1 true _ A10.out).mono ?_); rintro e w21 ⟨rfl, hb⟩; have n0_ := Aside0.mk (blk_below (g := gb221) (o := .cells #[.int .i64 a2_0, .int .i64 a2_1] 55 (0, 0)) (by (with_reducible repeat (first | refine blk_drewN ?_ _ | refine blk_drew ?_ | refine blk_alloc ?_ _)); exact BK221.out) hb); have n1_ := Aside0.mk (below_step (by repeat (first | (with_reducible first | exact HB.out | apply below_alloc | apply pw_below_drewN | apply below_drew1 | refine below_set ?_ GE221.out) | exact HB.out)) hb); clear BK221; clear HB; have BK221 := n0_; have HB := n1_; clear n0_ n1_; (try clear hb); (try clear hb2); (try clear hk); (try clear hi); have hcz22_0 : w21.cell? ⟨gb221, 0, none⟩ = some (.int .i64 a2_0) := (blk_cell BK221.out 0).trans rfl; have hcz22_1 : w21.cell? ⟨gb221, 1, none⟩ = some (.int .i64 a2_1) := (blk_cell BK221.out 1).trans rfl; have hfz22_0 := blk_frozen BK221.out 0; have hfz22_1 := blk_frozen BK221.out 1))
                  go_meet
                  case rel => exact ⟨_, (decide (a2_1 > 65536)), (by first | rfl | (simp; done) | (simp [*]; done)), H', ⟨by first | omega | exact Nat.le_refl _⟩, ⟨by (with_reducible repeat (first | refine blk_drewN ?_ _ | refine blk_drew ?_ | refine blk_alloc ?_ _)); exact BK221.out⟩, ⟨by repeat (first | (with_reducible first | exact HB.out | apply below_alloc | apply pw_below_drewN | apply below_drew1 | refine below_set ?_ GE221.out) | exact HB.out)⟩⟩
            · replace c11 := Bool.eq_false_iff.mpr c11
              subst c11
              have H1 : (cutroomlaw16_PesLong.j0 k a0 a1 true a2_0 a2_1) = some r := by rw [if_neg (show ¬ (false = true) by decide)] at H; exact H
              clear H
              have H := H1
              clear H1
              have H' := Aside0.mk H
              clear H
              have hcz23_0 : w5.cell? ⟨gb221, 0, none⟩ = some (.int .i64 a2_0) := (blk_cell BK221.out 0).trans rfl
              have hcz23_1 : w5.cell? ⟨gb221, 1, none⟩ = some (.int .i64 a2_1) := (blk_cell BK221.out 1).trans rfl
              have hfz23_0 := blk_frozen BK221.out 0
              have hfz23_1 := blk_frozen BK221.out 1
              go_wp2_with (first | (go_at_call 26; (with_reducible refine (cutroomref01_Valid.calls k a2_0 a2_1 false _ A10.out).mono ?_); rintro e w24 ⟨rfl, hb⟩; have n0_ := Aside0.mk (blk_below (g := gb221) (o := .cells #[.int .i64 a2_0, .int .i64 a2_1] 55 (0, 0)) (by (with_reducible repeat (first | refine blk_drewN ?_ _ | refine blk_drew ?_ | refine blk_alloc ?_ _)); exact BK221.out) hb); have n1_ := Aside0.mk (below_step (by repeat (first | (with_reducible first | exact HB.out | apply below_alloc | apply pw_below_drewN | apply below_drew1 | refine below_set ?_ GE221.out) | exact HB.out)) hb); clear BK221; clear HB; have BK221 := n0_; have HB := n1_; clear n0_ n1_; (try clear hb); (try clear hb2); (try clear hk); (try clear hi)))
              go_meet
              case rel => exact ⟨_, (true), (by first | rfl | (simp; done) | (simp [*]; done)), H', ⟨by first | omega | exact Nat.le_refl _⟩, ⟨by (with_reducible repeat (first | refine blk_drewN ?_ _ | refine blk_drew ?_ | refine blk_alloc ?_ _)); exact BK221.out⟩, ⟨by repeat (first | (with_reducible first | exact HB.out | apply below_alloc | apply pw_below_drewN | apply below_drew1 | refine below_set ?_ GE221.out) | exact HB.out)⟩⟩
  case rest =>
    clear HC4
    try clear c1
    try clear p2
    try clear c6
    try clear c6b0
    try clear c7
    try clear c7b0
    try clear c8
    try clear c8b0
    try clear c9
    try clear c9b0
    try clear c11
    try clear c12
    try clear c12b0
    try clear c16
    try clear c16b0
    try clear hcz13_0
    try clear hcz13_1
    try clear hcz15_0
    try clear hcz15_1
    try clear hcz17_0
    try clear hcz17_1
    try clear hcz19_0
    try clear hcz19_1
    try clear hcz20_0
    try clear hcz20_1
    try clear hcz22_0
    try clear hcz22_1
    try clear hcz23_0
    try clear hcz23_1
    try clear hfz13_0
    try clear hfz13_1
    try clear hfz15_0
    try clear hfz15_1
    try clear hfz17_0
    try clear hfz17_1
    try clear hfz19_0
    try clear hfz19_1
    try clear hfz20_0
    try clear hfz20_1
    try clear hfz22_0
    try clear hfz22_1
    try clear hfz23_0
    try clear hfz23_1
    obtain ⟨kq, x47_3, rfl, HA, HJ3, BK221, HB⟩ := hcut
    cases kq with
    | zero => exact absurd HA.out (by simp [cutroomlaw16_PesLong.j0])
    | succ kj3 =>
      have H := HA.out
      clear HA
      simp only [cutroomlaw16_PesLong.j0] at H
      by_cases c25 : x47_3 = true
      · subst c25
        have H1 : ((cutroomlaw16_awake.f kj3).bind fun t223 => (some t223)) = some r := by rw [if_pos rfl] at H; exact H
        clear H
        have H := H1
        clear H1
        replace H := Option.bind_eq_some_iff.mp H
        obtain ⟨t223, A260, H⟩ := H
        replace H : (some t223) = some r := H
        have A26 := Aside0.mk A260
        clear A260
        obtain rfl := Option.some.inj H
        go_wp2_with (first | ((with_reducible refine gate_callee (f := 10) rfl ?_); refine goesL_ (some 48) rfl rfl Try.func10 (by kernel_rfl) rfl #[] rfl (by (try simp only [List.map_toArray, List.map_cons, List.map_nil]); first | done | rfl | (simp only [List.length_drop, List.length_take]; rfl)) ?_; (with_reducible refine (cutroomlaw16_awake.calls kj3  t223 _ A26.out).mono ?_); rintro e w27 ⟨rfl, hb⟩; refine ⟨_, rfl, ?_⟩; have n0_ := Aside0.mk (blk_below (g := gb221) (o := .cells #[.int .i64 a2_0, .int .i64 a2_1] 55 (0, 0)) (by (with_reducible repeat (first | refine blk_drewN ?_ _ | refine blk_drew ?_ | refine blk_alloc ?_ _)); exact BK221.out) hb); have n1_ := Aside0.mk (below_step (by repeat (first | (with_reducible first | exact HB.out | apply below_alloc | apply pw_below_drewN | apply below_drew1 | refine below_set ?_ GE221.out) | exact HB.out)) hb); clear BK221; clear HB; have BK221 := n0_; have HB := n1_; clear n0_ n1_; (try clear hb); (try clear hb2); (try clear hk); (try clear hi)))
        go_ret
        exact ⟨by first | rfl | (simp [errW_none, errW_some] <;> rfl) | (simp [*, errW_none, errW_some] <;> rfl), by repeat (first | (with_reducible first | exact HB.out | apply below_alloc | apply pw_below_drewN | apply below_drew1 | refine below_set ?_ GE221.out) | exact HB.out)⟩
      · replace c25 := Bool.eq_false_iff.mpr c25
        subst c25
        have H1 : ((cutroomref01_Position.f kj3 a0 a2_0 a2_1 90000 1).bind fun bt225 => ((cutroomref01_Position.f kj3 (wrap64 (a0 + a1)) a2_0 a2_1 90000 1).bind fun bt227 => (if bt225.2 = 0 then (if bt227.2 = 0 then (if (wrap64 (bt227.1 - bt225.1)) ≥ 4294967296 then (cutroomlaw16_PesLong.j1 kj3 a0 a1 bt225.1 bt227.1 true a2_0 a2_1) else (cutroomlaw16_PesLong.j1 kj3 a0 a1 bt225.1 bt227.1 (decide (bt227.1 > 2305843009213693952)) a2_0 a2_1)) else (cutroomlaw16_PesLong.j1 kj3 a0 a1 bt225.1 bt227.1 true a2_0 a2_1)) else (cutroomlaw16_PesLong.j1 kj3 a0 a1 bt225.1 bt227.1 true a2_0 a2_1)))) = some r := by rw [if_neg (show ¬ (false = true) by decide)] at H; exact H
        clear H
        have H := H1
        clear H1
        replace H := Option.bind_eq_some_iff.mp H
        obtain ⟨⟨t225, t226⟩, A280, H⟩ := H
        replace H : ((cutroomref01_Position.f kj3 (wrap64 (a0 + a1)) a2_0 a2_1 90000 1).bind fun bt227 => (if t226 = 0 then (if bt227.2 = 0 then (if (wrap64 (bt227.1 - t225)) ≥ 4294967296 then (cutroomlaw16_PesLong.j1 kj3 a0 a1 t225 bt227.1 true a2_0 a2_1) else (cutroomlaw16_PesLong.j1 kj3 a0 a1 t225 bt227.1 (decide (bt227.1 > 2305843009213693952)) a2_0 a2_1)) else (cutroomlaw16_PesLong.j1 kj3 a0 a1 t225 bt227.1 true a2_0 a2_1)) else (cutroomlaw16_PesLong.j1 kj3 a0 a1 t225 bt227.1 true a2_0 a2_1))) = some r := H
        have A28 := Aside0.mk A280
        clear A280
        replace H := Option.bind_eq_some_iff.mp H
        obtain ⟨⟨t227, t228⟩, A290, H⟩ := H
        replace H : (if t226 = 0 then (if t228 = 0 then (if (wrap64 (t227 - t225)) ≥ 4294967296 then (cutroomlaw16_PesLong.j1 kj3 a0 a1 t225 t227 true a2_0 a2_1) else (cutroomlaw16_PesLong.j1 kj3 a0 a1 t225 t227 (decide (t227 > 2305843009213693952)) a2_0 a2_1)) else (cutroomlaw16_PesLong.j1 kj3 a0 a1 t225 t227 true a2_0 a2_1)) else (cutroomlaw16_PesLong.j1 kj3 a0 a1 t225 t227 true a2_0 a2_1)) = some r := H
        have A29 := Aside0.mk A290
        clear A290
        have HC30 := Aside0.mk H
        clear H
        go_upto_region 6 with (first | ((with_reducible refine gate_dst (N := 7) rfl ?_); refine box_event ?hg (N := 7) ?hd (cs := #[.int .i64 0, .int .i64 0]) (t := 55) ?hr ?_; (case hd => rfl); (case hg => rfl); (case hr => first | (go_simp; done) | (go_simp; rfl)); intro gb224 hg w31 hbox hb; have n0_ := Aside0.mk (blk_below (g := gb221) (o := .cells #[.int .i64 a2_0, .int .i64 a2_1] 55 (0, 0)) (by (with_reducible repeat (first | refine blk_drewN ?_ _ | refine blk_drew ?_ | refine blk_alloc ?_ _)); exact BK221.out) hb); have n1_ := Aside0.mk (below_step (by repeat (first | (with_reducible first | exact HB.out | apply below_alloc | apply pw_below_drewN | apply below_drew1 | refine below_set ?_ GE221.out) | exact HB.out)) hb); have n2_ := Aside0.mk (hbox); have n3_ := Aside0.mk ((by rw [hg]; exact (below_size (by repeat (first | (with_reducible first | exact HB.out | apply below_alloc | apply pw_below_drewN | apply below_drew1 | refine below_set ?_ GE221.out) | exact HB.out))) : w.heap.size ≤ gb224)); have n4_ := Aside0.mk ((by rw [hg]; exact (below_size (by repeat (first | (with_reducible first | exact HB.out | apply below_alloc | apply pw_below_drewN | apply below_drew1 | refine below_set ?_ GE221.out) | exact HB.out))) : w.heap.size ≤ gb224)); have n5_ := Aside0.mk ((by rw [hg]; exact Nat.ne_of_lt (blk_lt (g := gb221) (o := .cells #[.int .i64 a2_0, .int .i64 a2_1] 55 (0, 0)) (by (with_reducible repeat (first | refine blk_drewN ?_ _ | refine blk_drew ?_ | refine blk_alloc ?_ _)); exact BK221.out)) : gb221 ≠ gb224)); have n6_ := Aside0.mk ((by rw [hg]; exact Nat.ne_of_gt (blk_lt (g := gb221) (o := .cells #[.int .i64 a2_0, .int .i64 a2_1] 55 (0, 0)) (by (with_reducible repeat (first | refine blk_drewN ?_ _ | refine blk_drew ?_ | refine blk_alloc ?_ _)); exact BK221.out)) : gb224 ≠ gb221)); clear BK221; clear HB; have BK221 := n0_; have HB := n1_; have BK224 := n2_; have GW224 := n3_; have GE224 := n4_; have NB221_224 := n5_; have NB224_221 := n6_; clear n0_ n1_ n2_ n3_ n4_ n5_ n6_; clear hb hbox hg; have hnb32 := NB224_221.out; have hnc32 := NB221_224.out; have hcz33_0 : w31.cell? ⟨gb224, 0, none⟩ = some (.int .i64 0) := (blk_cell BK224.out 0).trans rfl; have hcz33_1 : w31.cell? ⟨gb224, 1, none⟩ = some (.int .i64 0) := (blk_cell BK224.out 1).trans rfl; have hfz33_0 := blk_frozen BK224.out 0; have hfz33_1 := blk_frozen BK224.out 1; have hcz34_0 : w31.cell? ⟨gb221, 0, none⟩ = some (.int .i64 a2_0) := (blk_cell BK221.out 0).trans rfl; have hcz34_1 : w31.cell? ⟨gb221, 1, none⟩ = some (.int .i64 a2_1) := (blk_cell BK221.out 1).trans rfl; have hfz34_0 := blk_frozen BK221.out 0; have hfz34_1 := blk_frozen BK221.out 1) | ((with_reducible refine gate_callee (f := 27) rfl ?_); refine goesL_ (some 54) rfl rfl Try.func27 (by kernel_rfl) rfl #[.int .i64 a0, .agg #[.int .i64 a2_0, .int .i64 a2_1], .agg #[.int .i64 90000, .int .i64 1]] rfl (by (try simp only [List.map_toArray, List.map_cons, List.map_nil]); first | done | rfl | (simp only [List.length_drop, List.length_take]; rfl)) ?_; (with_reducible refine (cutroomref01_Position.calls kj3 a0 a2_0 a2_1 90000 1 t225 t226 _ A28.out).mono ?_); rintro e w35 ⟨rfl, hb⟩; refine ⟨_, rfl, ?_⟩; have n0_ := Aside0.mk (blk_below (g := gb221) (o := .cells #[.int .i64 a2_0, .int .i64 a2_1] 55 (0, 0)) (by (with_reducible repeat (first | refine blk_drewN ?_ _ | refine blk_drew ?_ | refine blk_alloc ?_ _)); refine blk_far ?_ NB221_224.out _; (with_reducible repeat (first | refine blk_drewN ?_ _ | refine blk_drew ?_ | refine blk_alloc ?_ _)); refine blk_far ?_ NB221_224.out _; (with_reducible repeat (first | refine blk_drewN ?_ _ | refine blk_drew ?_ | refine blk_alloc ?_ _)); exact BK221.out) hb); have n1_ := Aside0.mk (blk_below (g := gb224) (o := .cells #[.int .i64 90000, .int .i64 1] 55 (0, 0)) (by (with_reducible repeat (first | refine blk_drewN ?_ _ | refine blk_drew ?_ | refine blk_alloc ?_ _)); refine blk_put (cs := #[.int .i64 90000, .int .i64 0]) ?_ 1 _ rfl; (with_reducible repeat (first | refine blk_drewN ?_ _ | refine blk_drew ?_ | refine blk_alloc ?_ _)); refine blk_put (cs := #[.int .i64 0, .int .i64 0]) ?_ 0 _ rfl; (with_reducible repeat (first | refine blk_drewN ?_ _ | refine blk_drew ?_ | refine blk_alloc ?_ _)); exact BK224.out) hb); have n2_ := Aside0.mk (below_step (by repeat (first | (with_reducible first | exact HB.out | apply below_alloc | apply pw_below_drewN | apply below_drew1 | refine below_set ?_ GE221.out | refine below_set ?_ GE224.out) | exact HB.out)) hb); clear BK221; clear BK224; clear HB; have BK221 := n0_; have BK224 := n1_; have HB := n2_; clear n0_ n1_ n2_; (try clear hb); (try clear hb2); (try clear hk); (try clear hi); have hcz36_0 : w35.cell? ⟨gb221, 0, none⟩ = some (.int .i64 a2_0) := (blk_cell BK221.out 0).trans rfl; have hcz36_1 : w35.cell? ⟨gb221, 1, none⟩ = some (.int .i64 a2_1) := (blk_cell BK221.out 1).trans rfl; have hfz36_0 := blk_frozen BK221.out 0; have hfz36_1 := blk_frozen BK221.out 1; have hcz37_0 : w35.cell? ⟨gb224, 0, none⟩ = some (.int .i64 90000) := (blk_cell BK224.out 0).trans rfl; have hcz37_1 : w35.cell? ⟨gb224, 1, none⟩ = some (.int .i64 1) := (blk_cell BK224.out 1).trans rfl; have hfz37_0 := blk_frozen BK224.out 0; have hfz37_1 := blk_frozen BK224.out 1) | ((with_reducible refine gate_callee (f := 27) rfl ?_); refine goesL_ (some 63) rfl rfl Try.func27 (by kernel_rfl) rfl #[.int .i64 (wrap64 (a0 + a1)), .agg #[.int .i64 a2_0, .int .i64 a2_1], .agg #[.int .i64 90000, .int .i64 1]] rfl (by (try simp only [List.map_toArray, List.map_cons, List.map_nil]); first | done | rfl | (simp only [List.length_drop, List.length_take]; rfl)) ?_; (with_reducible refine (cutroomref01_Position.calls kj3 (wrap64 (a0 + a1)) a2_0 a2_1 90000 1 t227 t228 _ A29.out).mono ?_); rintro e w38 ⟨rfl, hb⟩; refine ⟨_, rfl, ?_⟩; have n0_ := Aside0.mk (blk_below (g := gb221) (o := .cells #[.int .i64 a2_0, .int .i64 a2_1] 55 (0, 0)) (by (with_reducible repeat (first | refine blk_drewN ?_ _ | refine blk_drew ?_ | refine blk_alloc ?_ _)); exact BK221.out) hb); have n1_ := Aside0.mk (blk_below (g := gb224) (o := .cells #[.int .i64 90000, .int .i64 1] 55 (0, 0)) (by (with_reducible repeat (first | refine blk_drewN ?_ _ | refine blk_drew ?_ | refine blk_alloc ?_ _)); exact BK224.out) hb); have n2_ := Aside0.mk (below_step (by repeat (first | (with_reducible first | exact HB.out | apply below_alloc | apply pw_below_drewN | apply below_drew1 | refine below_set ?_ GE221.out | refine below_set ?_ GE224.out) | exact HB.out)) hb); clear BK221; clear BK224; clear HB; have BK221 := n0_; have BK224 := n1_; have HB := n2_; clear n0_ n1_ n2_; (try clear hb); (try clear hb2); (try clear hk); (try clear hi)))
        (try simp only [Act.put, List.setIfInBounds_toArray, List.set_cons_zero, List.set_cons_succ])
        go_cut [81] (fun v81 wc => ∃ (kq : Nat) (x81_29 : Bool), v81 = .bool x81_29 ∧ Aside0 (cutroomlaw16_PesLong.j1 kq a0 a1 t225 t227 x81_29 a2_0 a2_1 = some r) ∧ Aside0 (kq ≤ kj3) ∧ Aside0 (wc.heap[gb221]? = some (.cells #[.int .i64 a2_0, .int .i64 a2_1] 55 (0, 0))) ∧ Aside0 (wc.heap[gb224]? = some (.cells #[.int .i64 90000, .int .i64 1] 55 (0, 0))) ∧ Aside0 (Below w.heap.size w wc))
        case first =>
          have H := HC30.out
          clear HC30
          by_cases c39 : t226 = 0
          · rw [if_pos c39] at H
            have c39b0 : (t226 == 0) = true := beq_iff_eq.mpr c39
            have c39b1 : (t226 != 0) = false := bne_eq_false_iff_eq.mpr c39
            clear c39
            (first | rw [c39b0] | (simp only [i64_w, i32_w]; rw [c39b0]) | skip)
            by_cases c40 : t228 = 0
            · rw [if_pos c40] at H
              have c40b0 : (t228 == 0) = true := beq_iff_eq.mpr c40
              have c40b1 : (t228 != 0) = false := bne_eq_false_iff_eq.mpr c40
              clear c40
              by_cases c41 : (wrap64 (t227 - t225)) ≥ 4294967296
              · rw [if_pos c41] at H
                have c41b0 : decide (4294967296 ≤ (wrap64 (t227 - t225))) = true := decide_eq_true c41
                clear c41
                have H' := Aside0.mk H
                clear H
                go_wp2
                go_meet
                case rel => exact ⟨_, (true), (by first | rfl | (simp; done) | (simp [*]; done)), H', ⟨by have := HJ3.out; first | omega | exact Nat.le_refl _⟩, ⟨by (with_reducible repeat (first | refine blk_drewN ?_ _ | refine blk_drew ?_ | refine blk_alloc ?_ _)); exact BK221.out⟩, ⟨by (with_reducible repeat (first | refine blk_drewN ?_ _ | refine blk_drew ?_ | refine blk_alloc ?_ _)); exact BK224.out⟩, ⟨by repeat (first | (with_reducible first | exact HB.out | apply below_alloc | apply pw_below_drewN | apply below_drew1 | refine below_set ?_ GE221.out | refine below_set ?_ GE224.out) | exact HB.out)⟩⟩
              · rw [if_neg c41] at H
                have c41b0 : decide (4294967296 ≤ (wrap64 (t227 - t225))) = false := decide_eq_false c41
                clear c41
                have H' := Aside0.mk H
                clear H
                go_wp2
                go_meet
                case rel => exact ⟨_, (decide (t227 > 2305843009213693952)), (by first | rfl | (simp; done) | (simp [*]; done)), H', ⟨by have := HJ3.out; first | omega | exact Nat.le_refl _⟩, ⟨by (with_reducible repeat (first | refine blk_drewN ?_ _ | refine blk_drew ?_ | refine blk_alloc ?_ _)); exact BK221.out⟩, ⟨by (with_reducible repeat (first | refine blk_drewN ?_ _ | refine blk_drew ?_ | refine blk_alloc ?_ _)); exact BK224.out⟩, ⟨by repeat (first | (with_reducible first | exact HB.out | apply below_alloc | apply pw_below_drewN | apply below_drew1 | refine below_set ?_ GE221.out | refine below_set ?_ GE224.out) | exact HB.out)⟩⟩
            · rw [if_neg c40] at H
              have c40b0 : (t228 == 0) = false := beq_eq_false_iff_ne.mpr c40
              have c40b1 : (t228 != 0) = true := bne_iff_ne.mpr c40
              have H' := Aside0.mk H
              clear H
              go_wp2
              go_meet
              case rel => exact ⟨_, (true), (by first | rfl | (simp; done) | (simp [*]; done)), H', ⟨by have := HJ3.out; first | omega | exact Nat.le_refl _⟩, ⟨by (with_reducible repeat (first | refine blk_drewN ?_ _ | refine blk_drew ?_ | refine blk_alloc ?_ _)); exact BK221.out⟩, ⟨by (with_reducible repeat (first | refine blk_drewN ?_ _ | refine blk_drew ?_ | refine blk_alloc ?_ _)); exact BK224.out⟩, ⟨by repeat (first | (with_reducible first | exact HB.out | apply below_alloc | apply pw_below_drewN | apply below_drew1 | refine below_set ?_ GE221.out | refine below_set ?_ GE224.out) | exact HB.out)⟩⟩
          · rw [if_neg c39] at H
            have c39b0 : (t226 == 0) = false := beq_eq_false_iff_ne.mpr c39
            have c39b1 : (t226 != 0) = true := bne_iff_ne.mpr c39
            (first | rw [c39b0] | (simp only [i64_w, i32_w]; rw [c39b0]) | skip)
            have H' := Aside0.mk H
            clear H
            go_wp2
            go_meet
            case rel => exact ⟨_, (true), (by first | rfl | (simp; done) | (simp [*]; done)), H', ⟨by have := HJ3.out; first | omega | exact Nat.le_refl _⟩, ⟨by (with_reducible repeat (first | refine blk_drewN ?_ _ | refine blk_drew ?_ | refine blk_alloc ?_ _)); exact BK221.out⟩, ⟨by (with_reducible repeat (first | refine blk_drewN ?_ _ | refine blk_drew ?_ | refine blk_alloc ?_ _)); exact BK224.out⟩, ⟨by repeat (first | (with_reducible first | exact HB.out | apply below_alloc | apply pw_below_drewN | apply below_drew1 | refine below_set ?_ GE221.out | refine below_set ?_ GE224.out) | exact HB.out)⟩⟩
        case rest =>
          clear HC30
          try clear c1
          try clear c2
          try clear p2
          try clear c3
          try clear c4
          try clear c6
          try clear c6b0
          try clear p6
          try clear c7
          try clear c7b0
          try clear c8
          try clear c8b0
          try clear c9
          try clear c9b0
          try clear c10
          try clear c11
          try clear c12
          try clear c12b0
          try clear c16
          try clear c16b0
          try clear c25
          try clear c27
          try clear c32
          try clear c39
          try clear c39b0
          try clear c39b1
          try clear c40
          try clear c40b0
          try clear c40b1
          try clear c41
          try clear c41b0
          try clear hcz13_0
          try clear hcz13_1
          try clear hcz15_0
          try clear hcz15_1
          try clear hcz17_0
          try clear hcz17_1
          try clear hcz19_0
          try clear hcz19_1
          try clear hcz20_0
          try clear hcz20_1
          try clear hcz22_0
          try clear hcz22_1
          try clear hcz23_0
          try clear hcz23_1
          try clear hcz33_0
          try clear hcz33_1
          try clear hcz34_0
          try clear hcz34_1
          try clear hcz36_0
          try clear hcz36_1
          try clear hcz37_0
          try clear hcz37_1
          try clear hfz13_0
          try clear hfz13_1
          try clear hfz15_0
          try clear hfz15_1
          try clear hfz17_0
          try clear hfz17_1
          try clear hfz19_0
          try clear hfz19_1
          try clear hfz20_0
          try clear hfz20_1
          try clear hfz22_0
          try clear hfz22_1
          try clear hfz23_0
          try clear hfz23_1
          try clear hfz33_0
          try clear hfz33_1
          try clear hfz34_0
          try clear hfz34_1
          try clear hfz36_0
          try clear hfz36_1
          try clear hfz37_0
          try clear hfz37_1
          try clear p2
          obtain ⟨kq, x81_29, rfl, HA, HJ29, BK221, BK224, HB⟩ := hcut
          cases kq with
          | zero => exact absurd HA.out (by simp [cutroomlaw16_PesLong.j1])
          | succ kj29 =>
            have H := HA.out
            clear HA
            simp only [cutroomlaw16_PesLong.j1] at H
            by_cases c42 : x81_29 = true
            · subst c42
              have H1 : ((cutroomlaw16_awake.f kj29).bind fun t229 => (some t229)) = some r := by rw [if_pos rfl] at H; exact H
              clear H
              have H := H1
              clear H1
              replace H := Option.bind_eq_some_iff.mp H
              obtain ⟨t229, A430, H⟩ := H
              replace H : (some t229) = some r := H
              have A43 := Aside0.mk A430
              clear A430
              obtain rfl := Option.some.inj H
              go_wp2_with (first | ((with_reducible refine gate_callee (f := 10) rfl ?_); refine goesL_ (some 82) rfl rfl Try.func10 (by kernel_rfl) rfl #[] rfl (by (try simp only [List.map_toArray, List.map_cons, List.map_nil]); first | done | rfl | (simp only [List.length_drop, List.length_take]; rfl)) ?_; (with_reducible refine (cutroomlaw16_awake.calls kj29  t229 _ A43.out).mono ?_); rintro e w44 ⟨rfl, hb⟩; refine ⟨_, rfl, ?_⟩; have n0_ := Aside0.mk (blk_below (g := gb221) (o := .cells #[.int .i64 a2_0, .int .i64 a2_1] 55 (0, 0)) (by (with_reducible repeat (first | refine blk_drewN ?_ _ | refine blk_drew ?_ | refine blk_alloc ?_ _)); exact BK221.out) hb); have n1_ := Aside0.mk (blk_below (g := gb224) (o := .cells #[.int .i64 90000, .int .i64 1] 55 (0, 0)) (by (with_reducible repeat (first | refine blk_drewN ?_ _ | refine blk_drew ?_ | refine blk_alloc ?_ _)); exact BK224.out) hb); have n2_ := Aside0.mk (below_step (by repeat (first | (with_reducible first | exact HB.out | apply below_alloc | apply pw_below_drewN | apply below_drew1 | refine below_set ?_ GE221.out | refine below_set ?_ GE224.out) | exact HB.out)) hb); clear BK221; clear BK224; clear HB; have BK221 := n0_; have BK224 := n1_; have HB := n2_; clear n0_ n1_ n2_; (try clear hb); (try clear hb2); (try clear hk); (try clear hi)))
              go_ret
              exact ⟨by first | rfl | (simp [errW_none, errW_some] <;> rfl) | (simp [*, errW_none, errW_some] <;> rfl), by repeat (first | (with_reducible first | exact HB.out | apply below_alloc | apply pw_below_drewN | apply below_drew1 | refine below_set ?_ GE221.out | refine below_set ?_ GE224.out) | exact HB.out)⟩
            · replace c42 := Bool.eq_false_iff.mpr c42
              subst c42
              have H1 : ((pes_Ticks.f kj29 (wrap64 (a0 + a1)) a2_0 a2_1).bind fun bt230 => ((cutroomlaw16_awake.f kj29).bind fun t232 => (if t232 = true then (if bt230.2 = 0 then ((pes_Unwrap.f kj29 t225 bt230.1).bind fun t233 => (some (t233 == t227))) else (some false)) else (some false)))) = some r := by rw [if_neg (show ¬ (false = true) by decide)] at H; exact H
              clear H
              have H := H1
              clear H1
              replace H := Option.bind_eq_some_iff.mp H
              obtain ⟨⟨t230, t231⟩, A450, H⟩ := H
              replace H : ((cutroomlaw16_awake.f kj29).bind fun t232 => (if t232 = true then (if t231 = 0 then ((pes_Unwrap.f kj29 t225 t230).bind fun t233 => (some (t233 == t227))) else (some false)) else (some false))) = some r := H
              have A45 := Aside0.mk A450
              clear A450
              replace H := Option.bind_eq_some_iff.mp H
              obtain ⟨t232, A460, H⟩ := H
              replace H : (if t232 = true then (if t231 = 0 then ((pes_Unwrap.f kj29 t225 t230).bind fun t233 => (some (t233 == t227))) else (some false)) else (some false)) = some r := H
              have A46 := Aside0.mk A460
              clear A460
              by_cases c47 : t232 = true
              · subst c47
                have H1 : (if t231 = 0 then ((pes_Unwrap.f kj29 t225 t230).bind fun t233 => (some (t233 == t227))) else (some false)) = some r := by rw [if_pos rfl] at H; exact H
                clear H
                have H := H1
                clear H1
                by_cases c48 : t231 = 0
                · rw [if_pos c48] at H
                  have c48b0 : (t231 == 0) = true := beq_iff_eq.mpr c48
                  have c48b1 : (t231 != 0) = false := bne_eq_false_iff_eq.mpr c48
                  clear c48
                  replace H := Option.bind_eq_some_iff.mp H
                  obtain ⟨t233, A490, H⟩ := H
                  replace H : (some (t233 == t227)) = some r := H
                  have A49 := Aside0.mk A490
                  clear A490
                  obtain rfl := Option.some.inj H
                  have hnb50 := NB221_224.out
                  have hnc50 := NB224_221.out
                  have hcz51_0 : wc.cell? ⟨gb221, 0, none⟩ = some (.int .i64 a2_0) := (blk_cell BK221.out 0).trans rfl
                  have hcz51_1 : wc.cell? ⟨gb221, 1, none⟩ = some (.int .i64 a2_1) := (blk_cell BK221.out 1).trans rfl
                  have hfz51_0 := blk_frozen BK221.out 0
                  have hfz51_1 := blk_frozen BK221.out 1
                  go_wp2_with (first | ((with_reducible refine gate_callee (f := 24) rfl ?_); refine goesL_ (some 88) rfl rfl Try.func24 (by kernel_rfl) rfl #[.int .i64 (wrap64 (a0 + a1)), .agg #[.int .i64 a2_0, .int .i64 a2_1]] rfl (by (try simp only [List.map_toArray, List.map_cons, List.map_nil]); first | done | rfl | (simp only [List.length_drop, List.length_take]; rfl)) ?_; (with_reducible refine (pes_Ticks.calls kj29 (wrap64 (a0 + a1)) a2_0 a2_1 t230 t231 _ A45.out).mono ?_); rintro e w52 ⟨rfl, hb⟩; refine ⟨_, rfl, ?_⟩; have n0_ := Aside0.mk (blk_below (g := gb221) (o := .cells #[.int .i64 a2_0, .int .i64 a2_1] 55 (0, 0)) (by (with_reducible repeat (first | refine blk_drewN ?_ _ | refine blk_drew ?_ | refine blk_alloc ?_ _)); exact BK221.out) hb); have n1_ := Aside0.mk (blk_below (g := gb224) (o := .cells #[.int .i64 90000, .int .i64 1] 55 (0, 0)) (by (with_reducible repeat (first | refine blk_drewN ?_ _ | refine blk_drew ?_ | refine blk_alloc ?_ _)); exact BK224.out) hb); have n2_ := Aside0.mk (below_step (by repeat (first | (with_reducible first | exact HB.out | apply below_alloc | apply pw_below_drewN | apply below_drew1 | refine below_set ?_ GE221.out | refine below_set ?_ GE224.out) | exact HB.out)) hb); clear BK221; clear BK224; clear HB; have BK221 := n0_; have BK224 := n1_; have HB := n2_; clear n0_ n1_ n2_; (try clear hb); (try clear hb2); (try clear hk); (try clear hi)) | ((with_reducible refine gate_callee (f := 10) rfl ?_); refine goesL_ (some 91) rfl rfl Try.func10 (by kernel_rfl) rfl #[] rfl (by (try simp only [List.map_toArray, List.map_cons, List.map_nil]); first | done | rfl | (simp only [List.length_drop, List.length_take]; rfl)) ?_; (with_reducible refine (cutroomlaw16_awake.calls kj29  true _ A46.out).mono ?_); rintro e w53 ⟨rfl, hb⟩; refine ⟨_, rfl, ?_⟩; have n0_ := Aside0.mk (blk_below (g := gb221) (o := .cells #[.int .i64 a2_0, .int .i64 a2_1] 55 (0, 0)) (by (with_reducible repeat (first | refine blk_drewN ?_ _ | refine blk_drew ?_ | refine blk_alloc ?_ _)); exact BK221.out) hb); have n1_ := Aside0.mk (blk_below (g := gb224) (o := .cells #[.int .i64 90000, .int .i64 1] 55 (0, 0)) (by (with_reducible repeat (first | refine blk_drewN ?_ _ | refine blk_drew ?_ | refine blk_alloc ?_ _)); exact BK224.out) hb); have n2_ := Aside0.mk (below_step (by repeat (first | (with_reducible first | exact HB.out | apply below_alloc | apply pw_below_drewN | apply below_drew1 | refine below_set ?_ GE221.out | refine below_set ?_ GE224.out) | exact HB.out)) hb); clear BK221; clear BK224; clear HB; have BK221 := n0_; have BK224 := n1_; have HB := n2_; clear n0_ n1_ n2_; (try clear hb); (try clear hb2); (try clear hk); (try clear hi)) | (go_at_call 11; (with_reducible refine (pes_Unwrap.calls kj29 t225 t230 t233 _ A49.out).mono ?_); rintro e w' ⟨rfl, ⟨nd, rfl⟩⟩))
                  go_ret
                  exact ⟨by first | rfl | (simp [errW_none, errW_some] <;> rfl) | (simp [*, errW_none, errW_some] <;> rfl), by repeat (first | (with_reducible first | exact HB.out | apply below_alloc | apply pw_below_drewN | apply below_drew1 | refine below_set ?_ GE221.out | refine below_set ?_ GE224.out) | exact HB.out)⟩
                · rw [if_neg c48] at H
                  have c48b0 : (t231 == 0) = false := beq_eq_false_iff_ne.mpr c48
                  have c48b1 : (t231 != 0) = true := bne_iff_ne.mpr c48
                  obtain rfl := Option.some.inj H
                  have hnb54 := NB221_224.out
                  have hnc54 := NB224_221.out
                  have hcz55_0 : wc.cell? ⟨gb221, 0, none⟩ = some (.int .i64 a2_0) := (blk_cell BK221.out 0).trans rfl
                  have hcz55_1 : wc.cell? ⟨gb221, 1, none⟩ = some (.int .i64 a2_1) := (blk_cell BK221.out 1).trans rfl
                  have hfz55_0 := blk_frozen BK221.out 0
                  have hfz55_1 := blk_frozen BK221.out 1
                  go_wp2_with (first | ((with_reducible refine gate_callee (f := 24) rfl ?_); refine goesL_ (some 88) rfl rfl Try.func24 (by kernel_rfl) rfl #[.int .i64 (wrap64 (a0 + a1)), .agg #[.int .i64 a2_0, .int .i64 a2_1]] rfl (by (try simp only [List.map_toArray, List.map_cons, List.map_nil]); first | done | rfl | (simp only [List.length_drop, List.length_take]; rfl)) ?_; (with_reducible refine (pes_Ticks.calls kj29 (wrap64 (a0 + a1)) a2_0 a2_1 t230 t231 _ A45.out).mono ?_); rintro e w56 ⟨rfl, hb⟩; refine ⟨_, rfl, ?_⟩; have n0_ := Aside0.mk (blk_below (g := gb221) (o := .cells #[.int .i64 a2_0, .int .i64 a2_1] 55 (0, 0)) (by (with_reducible repeat (first | refine blk_drewN ?_ _ | refine blk_drew ?_ | refine blk_alloc ?_ _)); exact BK221.out) hb); have n1_ := Aside0.mk (blk_below (g := gb224) (o := .cells #[.int .i64 90000, .int .i64 1] 55 (0, 0)) (by (with_reducible repeat (first | refine blk_drewN ?_ _ | refine blk_drew ?_ | refine blk_alloc ?_ _)); exact BK224.out) hb); have n2_ := Aside0.mk (below_step (by repeat (first | (with_reducible first | exact HB.out | apply below_alloc | apply pw_below_drewN | apply below_drew1 | refine below_set ?_ GE221.out | refine below_set ?_ GE224.out) | exact HB.out)) hb); clear BK221; clear BK224; clear HB; have BK221 := n0_; have BK224 := n1_; have HB := n2_; clear n0_ n1_ n2_; (try clear hb); (try clear hb2); (try clear hk); (try clear hi)) | ((with_reducible refine gate_callee (f := 10) rfl ?_); refine goesL_ (some 91) rfl rfl Try.func10 (by kernel_rfl) rfl #[] rfl (by (try simp only [List.map_toArray, List.map_cons, List.map_nil]); first | done | rfl | (simp only [List.length_drop, List.length_take]; rfl)) ?_; (with_reducible refine (cutroomlaw16_awake.calls kj29  true _ A46.out).mono ?_); rintro e w57 ⟨rfl, hb⟩; refine ⟨_, rfl, ?_⟩; have n0_ := Aside0.mk (blk_below (g := gb221) (o := .cells #[.int .i64 a2_0, .int .i64 a2_1] 55 (0, 0)) (by (with_reducible repeat (first | refine blk_drewN ?_ _ | refine blk_drew ?_ | refine blk_alloc ?_ _)); exact BK221.out) hb); have n1_ := Aside0.mk (blk_below (g := gb224) (o := .cells #[.int .i64 90000, .int .i64 1] 55 (0, 0)) (by (with_reducible repeat (first | refine blk_drewN ?_ _ | refine blk_drew ?_ | refine blk_alloc ?_ _)); exact BK224.out) hb); have n2_ := Aside0.mk (below_step (by repeat (first | (with_reducible first | exact HB.out | apply below_alloc | apply pw_below_drewN | apply below_drew1 | refine below_set ?_ GE221.out | refine below_set ?_ GE224.out) | exact HB.out)) hb); clear BK221; clear BK224; clear HB; have BK221 := n0_; have BK224 := n1_; have HB := n2_; clear n0_ n1_ n2_; (try clear hb); (try clear hb2); (try clear hk); (try clear hi)))
                  go_ret
                  exact ⟨by first | rfl | (simp [errW_none, errW_some] <;> rfl) | (simp [*, errW_none, errW_some] <;> rfl), by repeat (first | (with_reducible first | exact HB.out | apply below_alloc | apply pw_below_drewN | apply below_drew1 | refine below_set ?_ GE221.out | refine below_set ?_ GE224.out) | exact HB.out)⟩
              · replace c47 := Bool.eq_false_iff.mpr c47
                subst c47
                have H1 : (some false) = some r := by rw [if_neg (show ¬ (false = true) by decide)] at H; exact H
                clear H
                have H := H1
                clear H1
                obtain rfl := Option.some.inj H
                have hnb58 := NB221_224.out
                have hnc58 := NB224_221.out
                have hcz59_0 : wc.cell? ⟨gb221, 0, none⟩ = some (.int .i64 a2_0) := (blk_cell BK221.out 0).trans rfl
                have hcz59_1 : wc.cell? ⟨gb221, 1, none⟩ = some (.int .i64 a2_1) := (blk_cell BK221.out 1).trans rfl
                have hfz59_0 := blk_frozen BK221.out 0
                have hfz59_1 := blk_frozen BK221.out 1
                go_wp2_with (first | ((with_reducible refine gate_callee (f := 24) rfl ?_); refine goesL_ (some 88) rfl rfl Try.func24 (by kernel_rfl) rfl #[.int .i64 (wrap64 (a0 + a1)), .agg #[.int .i64 a2_0, .int .i64 a2_1]] rfl (by (try simp only [List.map_toArray, List.map_cons, List.map_nil]); first | done | rfl | (simp only [List.length_drop, List.length_take]; rfl)) ?_; (with_reducible refine (pes_Ticks.calls kj29 (wrap64 (a0 + a1)) a2_0 a2_1 t230 t231 _ A45.out).mono ?_); rintro e w60 ⟨rfl, hb⟩; refine ⟨_, rfl, ?_⟩; have n0_ := Aside0.mk (blk_below (g := gb221) (o := .cells #[.int .i64 a2_0, .int .i64 a2_1] 55 (0, 0)) (by (with_reducible repeat (first | refine blk_drewN ?_ _ | refine blk_drew ?_ | refine blk_alloc ?_ _)); exact BK221.out) hb); have n1_ := Aside0.mk (blk_below (g := gb224) (o := .cells #[.int .i64 90000, .int .i64 1] 55 (0, 0)) (by (with_reducible repeat (first | refine blk_drewN ?_ _ | refine blk_drew ?_ | refine blk_alloc ?_ _)); exact BK224.out) hb); have n2_ := Aside0.mk (below_step (by repeat (first | (with_reducible first | exact HB.out | apply below_alloc | apply pw_below_drewN | apply below_drew1 | refine below_set ?_ GE221.out | refine below_set ?_ GE224.out) | exact HB.out)) hb); clear BK221; clear BK224; clear HB; have BK221 := n0_; have BK224 := n1_; have HB := n2_; clear n0_ n1_ n2_; (try clear hb); (try clear hb2); (try clear hk); (try clear hi)) | ((with_reducible refine gate_callee (f := 10) rfl ?_); refine goesL_ (some 91) rfl rfl Try.func10 (by kernel_rfl) rfl #[] rfl (by (try simp only [List.map_toArray, List.map_cons, List.map_nil]); first | done | rfl | (simp only [List.length_drop, List.length_take]; rfl)) ?_; (with_reducible refine (cutroomlaw16_awake.calls kj29  false _ A46.out).mono ?_); rintro e w61 ⟨rfl, hb⟩; refine ⟨_, rfl, ?_⟩; have n0_ := Aside0.mk (blk_below (g := gb221) (o := .cells #[.int .i64 a2_0, .int .i64 a2_1] 55 (0, 0)) (by (with_reducible repeat (first | refine blk_drewN ?_ _ | refine blk_drew ?_ | refine blk_alloc ?_ _)); exact BK221.out) hb); have n1_ := Aside0.mk (blk_below (g := gb224) (o := .cells #[.int .i64 90000, .int .i64 1] 55 (0, 0)) (by (with_reducible repeat (first | refine blk_drewN ?_ _ | refine blk_drew ?_ | refine blk_alloc ?_ _)); exact BK224.out) hb); have n2_ := Aside0.mk (below_step (by repeat (first | (with_reducible first | exact HB.out | apply below_alloc | apply pw_below_drewN | apply below_drew1 | refine below_set ?_ GE221.out | refine below_set ?_ GE224.out) | exact HB.out)) hb); clear BK221; clear BK224; clear HB; have BK221 := n0_; have BK224 := n1_; have HB := n2_; clear n0_ n1_ n2_; (try clear hb); (try clear hb2); (try clear hk); (try clear hi)))
                go_ret
                exact ⟨by first | rfl | (simp [errW_none, errW_some] <;> rfl) | (simp [*, errW_none, errW_some] <;> rfl), by repeat (first | (with_reducible first | exact HB.out | apply below_alloc | apply pw_below_drewN | apply below_drew1 | refine below_set ?_ GE221.out | refine below_set ?_ GE224.out) | exact HB.out)⟩

end Go.Proofs.Ytdkibpdgnocgaaa.PPesLong
