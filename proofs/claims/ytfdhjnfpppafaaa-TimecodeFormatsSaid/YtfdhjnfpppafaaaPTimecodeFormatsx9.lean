-- Written for this claim by a turned copy of the kit's print (wip/printx/mk.py). By an AI agent.
import Derived.Test.YtfdhjnfpppafaaaPTimecodeFormatsx0
import Derived.Test.YtfdhjnfpppafaaaPTimecodeFormatsx2
import Derived.Test.YtfdhjnfpppafaaaPTimecodeFormatsx5
import Derived.Test.YtfdhjnfpppafaaaPTimecodeFormatsx6
import Derived.Test.YtfdhjnfpppafaaaPTimecodeFormatsx8
namespace Go.Proofs.Ytfdhjnfpppafaaa.PTimecodeFormats
open Go.RowKit Go.Proofs.YtfdhjnfpppafaaaW.PrintWords Go.Proofs.YtfdhjnfpppafaaaW.PrintLast Go.Proofs.YtfdhjnfpppafaaaW.PrintMore
attribute [local go_sem] max2_int min2_int max_two min_two max_three min_three max_four min_four   -- for this text's walks alone
set_option linter.unusedVariables false
set_option linter.unusedSimpArgs false

attribute [local go_sem high] eqA34
/-! ### cutroomlaw19_TimecodeFormats: function 13 -/
def cutroomlaw19_TimecodeFormats.j0 : Nat → ByteArray → Int → Bool → Int → Int → Int → Int → Int → Bool → Option (Bool)
  | 0, _, _, _, _, _, _, _, _, _ => none
  | k + 1, x3, x4, x26, x188000, x188001, x188002, x188003, x188004, x188005 => if x26 = true then (some false) else (if x4 = 0 then ((timecode_Parse.f k x3 x188004).bind fun bt192 => (if bt192.2.2.2.2.2.2 = 0 then (if (bt192.1 == x188000 && (bt192.2.1 == x188001 && (bt192.2.2.1 == x188002 && (bt192.2.2.2.1 == x188003 && (bt192.2.2.2.2.1 == x188004 && (bt192.2.2.2.2.2.1 == x188005)))))) = true then (if (x3.size : Int) = 11 then ((cutroomlaw19_awake.f k).bind fun t200 => (some t200)) else (some false)) else (some false)) else (some false))) else ((cutroomlaw19_awake.f k).bind fun t201 => (some t201)))
def cutroomlaw19_TimecodeFormats.f (k : Nat) (a0_0 : Int) (a0_1 : Int) (a0_2 : Int) (a0_3 : Int) (a0_4 : Int) (a0_5 : Bool) : Option (Bool) := (timecode_Format.f k a0_0 a0_1 a0_2 a0_3 a0_4 a0_5).bind fun bt188 => ((cutroomref19_Format.f k a0_0 a0_1 a0_2 a0_3 a0_4 a0_5).bind fun bt190 => (if bt188.1.toList = bt190.1.toList then (cutroomlaw19_TimecodeFormats.j0 k bt188.1 bt188.2 (bt188.2 != bt190.2) a0_0 a0_1 a0_2 a0_3 a0_4 a0_5) else (cutroomlaw19_TimecodeFormats.j0 k bt188.1 bt188.2 true a0_0 a0_1 a0_2 a0_3 a0_4 a0_5)))
theorem cutroomlaw19_TimecodeFormats.mono_l : ∀ k, (∀ y0 y1 y2 y3 y4 y5 y6 y7 y8, LeO (cutroomlaw19_TimecodeFormats.j0 k y0 y1 y2 y3 y4 y5 y6 y7 y8) (cutroomlaw19_TimecodeFormats.j0 (k + 1) y0 y1 y2 y3 y4 y5 y6 y7 y8))
  | 0 => fun _ _ _ _ _ _ _ _ _ r h => by simp [cutroomlaw19_TimecodeFormats.j0] at h
  | k + 1 => by
    have ih0 := cutroomlaw19_TimecodeFormats.mono_l k
    · intro y0 y1 y2 y3 y4 y5 y6 y7 y8
      unfold cutroomlaw19_TimecodeFormats.j0
      repeat' first
      | (with_reducible exact ih0 _ _ _ _ _ _ _ _ _)
      | (with_reducible exact cutroomlaw19_awake.mono _)
      | (with_reducible exact cutroomref19_Format.mono _ _ _ _ _ _ _)
      | (with_reducible exact timecode_Format.mono _ _ _ _ _ _ _)
      | (with_reducible exact timecode_Parse.mono _ _ _)
      | (with_reducible exact LeO.refl _)
      | (with_reducible exact LeO.none _)
      | (with_reducible refine LeO.ite ?_ ?_)
      | (with_reducible refine LeO.bind ?_ (fun _ => ?_))
      | exact ih0 _ _ _ _ _ _ _ _ _
      | exact cutroomlaw19_awake.mono _
      | exact cutroomref19_Format.mono _ _ _ _ _ _ _
      | exact timecode_Format.mono _ _ _ _ _ _ _
      | exact timecode_Parse.mono _ _ _
      | exact LeO.none _
      | refine LeO.ite ?_ ?_
      | refine LeO.bind ?_ (fun _ => ?_)
theorem cutroomlaw19_TimecodeFormats.mono : ∀ a0 a1 a2 a3 a4 a5 k, LeO (cutroomlaw19_TimecodeFormats.f k a0 a1 a2 a3 a4 a5) (cutroomlaw19_TimecodeFormats.f (k + 1) a0 a1 a2 a3 a4 a5) := by
  intro a0 a1 a2 a3 a4 a5 k
  have ih0 := cutroomlaw19_TimecodeFormats.mono_l k
  unfold cutroomlaw19_TimecodeFormats.f
  repeat' first
      | (with_reducible exact ih0 _ _ _ _ _ _ _ _ _)
      | (with_reducible exact cutroomlaw19_awake.mono _)
      | (with_reducible exact cutroomref19_Format.mono _ _ _ _ _ _ _)
      | (with_reducible exact timecode_Format.mono _ _ _ _ _ _ _)
      | (with_reducible exact timecode_Parse.mono _ _ _)
      | (with_reducible exact LeO.refl _)
      | (with_reducible exact LeO.none _)
      | (with_reducible refine LeO.ite ?_ ?_)
      | (with_reducible refine LeO.bind ?_ (fun _ => ?_))
      | exact ih0 _ _ _ _ _ _ _ _ _
      | exact cutroomlaw19_awake.mono _
      | exact cutroomref19_Format.mono _ _ _ _ _ _ _
      | exact timecode_Format.mono _ _ _ _ _ _ _
      | exact timecode_Parse.mono _ _ _
      | exact LeO.none _
      | refine LeO.ite ?_ ?_
      | refine LeO.bind ?_ (fun _ => ?_)
set_option maxHeartbeats 8000000 in
set_option maxRecDepth 100000 in
theorem cutroomlaw19_TimecodeFormats.calls (k : Nat) (a0_0 : Int) (a0_1 : Int) (a0_2 : Int) (a0_3 : Int) (a0_4 : Int) (a0_5 : Bool) (r : Bool) (w : World) (h : cutroomlaw19_TimecodeFormats.f k a0_0 a0_1 a0_2 a0_3 a0_4 a0_5 = some r) :
    Calls Try.prog 13 #[.agg #[.int .i64 a0_0, .int .i64 a0_1, .int .i64 a0_2, .int .i64 a0_3, .int .i64 a0_4, .bool a0_5]] w fun e w' => e = .returned (.bool r) ∧ Below w.heap.size w w' := by
  have hu34 := Try.underlying34
  have HB := Aside0.mk (Below.refl w.heap.size w)
  have H : ((timecode_Format.f k a0_0 a0_1 a0_2 a0_3 a0_4 a0_5).bind fun bt188 => ((cutroomref19_Format.f k a0_0 a0_1 a0_2 a0_3 a0_4 a0_5).bind fun bt190 => (if bt188.1.toList = bt190.1.toList then (cutroomlaw19_TimecodeFormats.j0 k bt188.1 bt188.2 (bt188.2 != bt190.2) a0_0 a0_1 a0_2 a0_3 a0_4 a0_5) else (cutroomlaw19_TimecodeFormats.j0 k bt188.1 bt188.2 true a0_0 a0_1 a0_2 a0_3 a0_4 a0_5)))) = some r := h
  clear h
  replace H := Option.bind_eq_some_iff.mp H
  obtain ⟨⟨t188, t189⟩, A20, H⟩ := H
  replace H : ((cutroomref19_Format.f k a0_0 a0_1 a0_2 a0_3 a0_4 a0_5).bind fun bt190 => (if t188.toList = bt190.1.toList then (cutroomlaw19_TimecodeFormats.j0 k t188 t189 (t189 != bt190.2) a0_0 a0_1 a0_2 a0_3 a0_4 a0_5) else (cutroomlaw19_TimecodeFormats.j0 k t188 t189 true a0_0 a0_1 a0_2 a0_3 a0_4 a0_5))) = some r := H
  have A2 := Aside0.mk A20
  clear A20
  replace H := Option.bind_eq_some_iff.mp H
  obtain ⟨⟨t190, t191⟩, A30, H⟩ := H
  replace H : (if t188.toList = t190.toList then (cutroomlaw19_TimecodeFormats.j0 k t188 t189 (t189 != t191) a0_0 a0_1 a0_2 a0_3 a0_4 a0_5) else (cutroomlaw19_TimecodeFormats.j0 k t188 t189 true a0_0 a0_1 a0_2 a0_3 a0_4 a0_5)) = some r := H
  have A3 := Aside0.mk A30
  clear A30
  have HC4 := Aside0.mk H
  clear H
  go_enter Try.func13, Try.ntmps13
  go_upto_region 3 with (first | ((with_reducible refine gate_dst (N := 1) rfl ?_); (try (refine gate_guard (by rfl) ?_; dsimp only)); refine box_event ?hg (N := 1) ?hd (cs := #[.int .i64 a0_0, .int .i64 a0_1, .int .i64 a0_2, .int .i64 a0_3, .int .i64 a0_4, .bool a0_5]) (t := 34) ?hr ?_; (case hd => rfl); (case hg => rfl); (case hr => first | (go_simp; done) | (go_simp; rfl)); intro gb187 hg w5 hbox hb; have n0_ := Aside0.mk (below_step (by repeat (first | (with_reducible first | exact HB.out | apply below_alloc | apply pw_below_drewN | apply below_drew1) | exact HB.out)) hb); have n1_ := Aside0.mk (hbox); have n2_ := Aside0.mk ((by rw [hg]; exact (below_size (by repeat (first | (with_reducible first | exact HB.out | apply below_alloc | apply pw_below_drewN | apply below_drew1) | exact HB.out))) : w.heap.size ≤ gb187)); have n3_ := Aside0.mk ((by rw [hg]; exact (below_size (by repeat (first | (with_reducible first | exact HB.out | apply below_alloc | apply pw_below_drewN | apply below_drew1) | exact HB.out))) : w.heap.size ≤ gb187)); clear HB; have HB := n0_; have BK187 := n1_; have GW187 := n2_; have GE187 := n3_; clear n0_ n1_ n2_ n3_; clear hb hbox hg; have hcz6_0 : w5.cell? ⟨gb187, 0, none⟩ = some (.int .i64 a0_0) := (blk_cell BK187.out 0).trans rfl; have hcz6_1 : w5.cell? ⟨gb187, 1, none⟩ = some (.int .i64 a0_1) := (blk_cell BK187.out 1).trans rfl; have hcz6_2 : w5.cell? ⟨gb187, 2, none⟩ = some (.int .i64 a0_2) := (blk_cell BK187.out 2).trans rfl; have hcz6_3 : w5.cell? ⟨gb187, 3, none⟩ = some (.int .i64 a0_3) := (blk_cell BK187.out 3).trans rfl; have hcz6_4 : w5.cell? ⟨gb187, 4, none⟩ = some (.int .i64 a0_4) := (blk_cell BK187.out 4).trans rfl; have hcz6_5 : w5.cell? ⟨gb187, 5, none⟩ = some (.bool a0_5) := (blk_cell BK187.out 5).trans rfl; have hfz6_0 := blk_frozen BK187.out 0; have hfz6_1 := blk_frozen BK187.out 1; have hfz6_2 := blk_frozen BK187.out 2; have hfz6_3 := blk_frozen BK187.out 3; have hfz6_4 := blk_frozen BK187.out 4; have hfz6_5 := blk_frozen BK187.out 5) | ((with_reducible refine gate_callee (f := 30) rfl ?_); refine goesL_ (some 11) rfl rfl Try.func30 (by kernel_rfl) rfl #[.agg #[.int .i64 a0_0, .int .i64 a0_1, .int .i64 a0_2, .int .i64 a0_3, .int .i64 a0_4, .bool a0_5]] rfl (by (try simp only [List.map_toArray, List.map_cons, List.map_nil]); first | done | rfl | (simp only [List.length_drop, List.length_take]; rfl)) ?_; (with_reducible refine (timecode_Format.calls k a0_0 a0_1 a0_2 a0_3 a0_4 a0_5 t188 t189 _ A2.out).mono ?_); rintro e w7 ⟨rfl, hb⟩; refine ⟨_, rfl, ?_⟩; have n0_ := Aside0.mk (blk_below (g := gb187) (o := .cells #[.int .i64 a0_0, .int .i64 a0_1, .int .i64 a0_2, .int .i64 a0_3, .int .i64 a0_4, .bool a0_5] 34 (0, 0)) (by (with_reducible repeat (first | refine blk_drewN ?_ _ | refine blk_drew ?_ | refine blk_alloc ?_ _)); exact BK187.out) hb); have n1_ := Aside0.mk (below_step (by repeat (first | (with_reducible first | exact HB.out | apply below_alloc | apply pw_below_drewN | apply below_drew1 | refine below_set ?_ GE187.out) | exact HB.out)) hb); clear BK187; clear HB; have BK187 := n0_; have HB := n1_; clear n0_ n1_; (try clear hb); (try clear hb2); (try clear hk); (try clear hi); have hcz8_0 : w7.cell? ⟨gb187, 0, none⟩ = some (.int .i64 a0_0) := (blk_cell BK187.out 0).trans rfl; have hcz8_1 : w7.cell? ⟨gb187, 1, none⟩ = some (.int .i64 a0_1) := (blk_cell BK187.out 1).trans rfl; have hcz8_2 : w7.cell? ⟨gb187, 2, none⟩ = some (.int .i64 a0_2) := (blk_cell BK187.out 2).trans rfl; have hcz8_3 : w7.cell? ⟨gb187, 3, none⟩ = some (.int .i64 a0_3) := (blk_cell BK187.out 3).trans rfl; have hcz8_4 : w7.cell? ⟨gb187, 4, none⟩ = some (.int .i64 a0_4) := (blk_cell BK187.out 4).trans rfl; have hcz8_5 : w7.cell? ⟨gb187, 5, none⟩ = some (.bool a0_5) := (blk_cell BK187.out 5).trans rfl; have hfz8_0 := blk_frozen BK187.out 0; have hfz8_1 := blk_frozen BK187.out 1; have hfz8_2 := blk_frozen BK187.out 2; have hfz8_3 := blk_frozen BK187.out 3; have hfz8_4 := blk_frozen BK187.out 4; have hfz8_5 := blk_frozen BK187.out 5) | ((with_reducible refine gate_callee (f := 31) rfl ?_); refine goesL_ (some 16) rfl rfl Try.func31 (by kernel_rfl) rfl #[.agg #[.int .i64 a0_0, .int .i64 a0_1, .int .i64 a0_2, .int .i64 a0_3, .int .i64 a0_4, .bool a0_5]] rfl (by (try simp only [List.map_toArray, List.map_cons, List.map_nil]); first | done | rfl | (simp only [List.length_drop, List.length_take]; rfl)) ?_; (with_reducible refine (cutroomref19_Format.calls k a0_0 a0_1 a0_2 a0_3 a0_4 a0_5 t190 t191 _ A3.out).mono ?_); rintro e w9 ⟨rfl, hb⟩; refine ⟨_, rfl, ?_⟩; have n0_ := Aside0.mk (blk_below (g := gb187) (o := .cells #[.int .i64 a0_0, .int .i64 a0_1, .int .i64 a0_2, .int .i64 a0_3, .int .i64 a0_4, .bool a0_5] 34 (0, 0)) (by (with_reducible repeat (first | refine blk_drewN ?_ _ | refine blk_drew ?_ | refine blk_alloc ?_ _)); exact BK187.out) hb); have n1_ := Aside0.mk (below_step (by repeat (first | (with_reducible first | exact HB.out | apply below_alloc | apply pw_below_drewN | apply below_drew1 | refine below_set ?_ GE187.out) | exact HB.out)) hb); clear BK187; clear HB; have BK187 := n0_; have HB := n1_; clear n0_ n1_; (try clear hb); (try clear hb2); (try clear hk); (try clear hi)))
  (try simp only [Act.put, List.setIfInBounds_toArray, List.set_cons_zero, List.set_cons_succ])
  go_cut [26] (fun v26 wc => ∃ (kq : Nat) (x26_3 : Bool), v26 = .bool x26_3 ∧ Aside0 (cutroomlaw19_TimecodeFormats.j0 kq t188 t189 x26_3 a0_0 a0_1 a0_2 a0_3 a0_4 a0_5 = some r) ∧ Aside0 (kq ≤ k) ∧ Aside0 (wc.heap[gb187]? = some (.cells #[.int .i64 a0_0, .int .i64 a0_1, .int .i64 a0_2, .int .i64 a0_3, .int .i64 a0_4, .bool a0_5] 34 (0, 0))) ∧ Aside0 (Below w.heap.size w wc))
  case first =>
    have H := HC4.out
    clear HC4
    by_cases c10 : t188.toList = t190.toList
    · rw [if_pos c10] at H
      have c10b0 : (t188.toList == t190.toList) = true := beq_iff_eq.mpr c10
      have c10b1 : (t188.toList != t190.toList) = false := bne_eq_false_iff_eq.mpr c10
      clear c10
      (first | rw [c10b0] | (simp only [i64_w, i32_w]; rw [c10b0]) | skip)
      have H' := Aside0.mk H
      clear H
      go_wp2
      go_meet
      case rel => exact ⟨_, ((t189 != t191)), (by first | rfl | (simp; done) | (simp [*]; done)), H', ⟨by first | omega | exact Nat.le_refl _⟩, ⟨by (with_reducible repeat (first | refine blk_drewN ?_ _ | refine blk_drew ?_ | refine blk_alloc ?_ _)); exact BK187.out⟩, ⟨by repeat (first | (with_reducible first | exact HB.out | apply below_alloc | apply pw_below_drewN | apply below_drew1 | refine below_set ?_ GE187.out) | exact HB.out)⟩⟩
    · rw [if_neg c10] at H
      have c10b0 : (t188.toList == t190.toList) = false := beq_eq_false_iff_ne.mpr c10
      have c10b1 : (t188.toList != t190.toList) = true := bne_iff_ne.mpr c10
      (first | rw [c10b0] | (simp only [i64_w, i32_w]; rw [c10b0]) | skip)
      have H' := Aside0.mk H
      clear H
      go_wp2
      go_meet
      case rel => exact ⟨_, (true), (by first | rfl | (simp; done) | (simp [*]; done)), H', ⟨by first | omega | exact Nat.le_refl _⟩, ⟨by (with_reducible repeat (first | refine blk_drewN ?_ _ | refine blk_drew ?_ | refine blk_alloc ?_ _)); exact BK187.out⟩, ⟨by repeat (first | (with_reducible first | exact HB.out | apply below_alloc | apply pw_below_drewN | apply below_drew1 | refine below_set ?_ GE187.out) | exact HB.out)⟩⟩
  case rest =>
    clear HC4
    try clear c1
    try clear p2
    try clear c3
    try clear c10
    try clear c10b0
    try clear c10b1
    try clear hcz6_0
    try clear hcz6_1
    try clear hcz6_2
    try clear hcz6_3
    try clear hcz6_4
    try clear hcz6_5
    try clear hcz8_0
    try clear hcz8_1
    try clear hcz8_2
    try clear hcz8_3
    try clear hcz8_4
    try clear hcz8_5
    try clear hfz6_0
    try clear hfz6_1
    try clear hfz6_2
    try clear hfz6_3
    try clear hfz6_4
    try clear hfz6_5
    try clear hfz8_0
    try clear hfz8_1
    try clear hfz8_2
    try clear hfz8_3
    try clear hfz8_4
    try clear hfz8_5
    obtain ⟨kq, x26_3, rfl, HA, HJ3, BK187, HB⟩ := hcut
    cases kq with
    | zero => exact absurd HA.out (by simp [cutroomlaw19_TimecodeFormats.j0])
    | succ kj3 =>
      have H := HA.out
      clear HA
      simp only [cutroomlaw19_TimecodeFormats.j0] at H
      by_cases c11 : x26_3 = true
      · subst c11
        have H1 : (some false) = some r := by rw [if_pos rfl] at H; exact H
        clear H
        have H := H1
        clear H1
        obtain rfl := Option.some.inj H
        go_wp2
        go_ret
        exact ⟨by first | rfl | (simp [errW_none, errW_some] <;> rfl) | (simp [*, errW_none, errW_some] <;> rfl), by repeat (first | (with_reducible first | exact HB.out | apply below_alloc | apply pw_below_drewN | apply below_drew1 | refine below_set ?_ GE187.out) | exact HB.out)⟩
      · replace c11 := Bool.eq_false_iff.mpr c11
        subst c11
        have H1 : (if t189 = 0 then ((timecode_Parse.f kj3 t188 a0_4).bind fun bt192 => (if bt192.2.2.2.2.2.2 = 0 then (if (bt192.1 == a0_0 && (bt192.2.1 == a0_1 && (bt192.2.2.1 == a0_2 && (bt192.2.2.2.1 == a0_3 && (bt192.2.2.2.2.1 == a0_4 && (bt192.2.2.2.2.2.1 == a0_5)))))) = true then (if (t188.size : Int) = 11 then ((cutroomlaw19_awake.f kj3).bind fun t200 => (some t200)) else (some false)) else (some false)) else (some false))) else ((cutroomlaw19_awake.f kj3).bind fun t201 => (some t201))) = some r := by rw [if_neg (show ¬ (false = true) by decide)] at H; exact H
        clear H
        have H := H1
        clear H1
        by_cases c12 : t189 = 0
        · rw [if_pos c12] at H
          have c12b0 : (t189 == 0) = true := beq_iff_eq.mpr c12
          have c12b1 : (t189 != 0) = false := bne_eq_false_iff_eq.mpr c12
          clear c12
          replace H := Option.bind_eq_some_iff.mp H
          obtain ⟨⟨t192, t193, t194, t195, t196, t197, t198⟩, A130, H⟩ := H
          replace H : (if t198 = 0 then (if (t192 == a0_0 && (t193 == a0_1 && (t194 == a0_2 && (t195 == a0_3 && (t196 == a0_4 && (t197 == a0_5)))))) = true then (if (t188.size : Int) = 11 then ((cutroomlaw19_awake.f kj3).bind fun t200 => (some t200)) else (some false)) else (some false)) else (some false)) = some r := H
          have A13 := Aside0.mk A130
          clear A130
          by_cases c14 : t198 = 0
          · rw [if_pos c14] at H
            have c14b0 : (t198 == 0) = true := beq_iff_eq.mpr c14
            have c14b1 : (t198 != 0) = false := bne_eq_false_iff_eq.mpr c14
            clear c14
            by_cases c15 : (t192 == a0_0 && (t193 == a0_1 && (t194 == a0_2 && (t195 == a0_3 && (t196 == a0_4 && (t197 == a0_5)))))) = true
            · rw [if_pos c15] at H
              have c15b0 : (t192 == a0_0 && (t193 == a0_1 && (t194 == a0_2 && (t195 == a0_3 && (t196 == a0_4 && (t197 == a0_5)))))) = true := c15
              (try (have c15b1 : decide (t192 = a0_0 && (t193 == a0_1 && (t194 == a0_2 && (t195 == a0_3 && (t196 == a0_4 && (t197 == a0_5)))))) = true := by simpa using c15))
              (try (have c15b2 : (t192 == a0_0 && (t193 == a0_1 && (t194 == a0_2 && (t195 == a0_3 && (t196 == a0_4 && (t197 == a0_5)))))) = true := by simpa using c15))
              clear c15
              by_cases c16 : (t188.size : Int) = 11
              · rw [if_pos c16] at H
                have c16b0 : ((t188.size : Int) == 11) = true := beq_iff_eq.mpr c16
                have c16b1 : ((t188.size : Int) != 11) = false := bne_eq_false_iff_eq.mpr c16
                clear c16
                replace H := Option.bind_eq_some_iff.mp H
                obtain ⟨t200, A170, H⟩ := H
                replace H : (some t200) = some r := H
                have A17 := Aside0.mk A170
                clear A170
                obtain rfl := Option.some.inj H
                have hcz18_0 : wc.cell? ⟨gb187, 0, none⟩ = some (.int .i64 a0_0) := (blk_cell BK187.out 0).trans rfl
                have hcz18_1 : wc.cell? ⟨gb187, 1, none⟩ = some (.int .i64 a0_1) := (blk_cell BK187.out 1).trans rfl
                have hcz18_2 : wc.cell? ⟨gb187, 2, none⟩ = some (.int .i64 a0_2) := (blk_cell BK187.out 2).trans rfl
                have hcz18_3 : wc.cell? ⟨gb187, 3, none⟩ = some (.int .i64 a0_3) := (blk_cell BK187.out 3).trans rfl
                have hcz18_4 : wc.cell? ⟨gb187, 4, none⟩ = some (.int .i64 a0_4) := (blk_cell BK187.out 4).trans rfl
                have hcz18_5 : wc.cell? ⟨gb187, 5, none⟩ = some (.bool a0_5) := (blk_cell BK187.out 5).trans rfl
                have hfz18_0 := blk_frozen BK187.out 0
                have hfz18_1 := blk_frozen BK187.out 1
                have hfz18_2 := blk_frozen BK187.out 2
                have hfz18_3 := blk_frozen BK187.out 3
                have hfz18_4 := blk_frozen BK187.out 4
                have hfz18_5 := blk_frozen BK187.out 5
                go_wp2_with (first | ((with_reducible refine gate_callee (f := 32) rfl ?_); refine goesL_ (some 34) rfl rfl Try.func32 (by kernel_rfl) rfl #[.string t188, .int .i64 a0_4] rfl (by (try simp only [List.map_toArray, List.map_cons, List.map_nil]); first | done | rfl | (simp only [List.length_drop, List.length_take]; rfl)) ?_; (with_reducible refine (timecode_Parse.calls kj3 t188 a0_4 t192 t193 t194 t195 t196 t197 t198 _ A13.out).mono ?_); rintro e w19 ⟨rfl, hb⟩; refine ⟨_, rfl, ?_⟩; have n0_ := Aside0.mk (blk_below (g := gb187) (o := .cells #[.int .i64 a0_0, .int .i64 a0_1, .int .i64 a0_2, .int .i64 a0_3, .int .i64 a0_4, .bool a0_5] 34 (0, 0)) (by (with_reducible repeat (first | refine blk_drewN ?_ _ | refine blk_drew ?_ | refine blk_alloc ?_ _)); exact BK187.out) hb); have n1_ := Aside0.mk (below_step (by repeat (first | (with_reducible first | exact HB.out | apply below_alloc | apply pw_below_drewN | apply below_drew1 | refine below_set ?_ GE187.out) | exact HB.out)) hb); clear BK187; clear HB; have BK187 := n0_; have HB := n1_; clear n0_ n1_; (try clear hb); (try clear hb2); (try clear hk); (try clear hi)) | ((with_reducible refine gate_dst (N := 7) rfl ?_); (try (refine gate_guard (by rfl) ?_; dsimp only)); refine box_event ?hg (N := 7) ?hd (cs := #[.int .i64 0, .int .i64 0, .int .i64 0, .int .i64 0, .int .i64 0, .bool false]) (t := 34) ?hr ?_; (case hd => rfl); (case hg => rfl); (case hr => first | (go_simp; done) | (go_simp; rfl)); intro gb199 hg w20 hbox hb; have n0_ := Aside0.mk (blk_below (g := gb187) (o := .cells #[.int .i64 a0_0, .int .i64 a0_1, .int .i64 a0_2, .int .i64 a0_3, .int .i64 a0_4, .bool a0_5] 34 (0, 0)) (by (with_reducible repeat (first | refine blk_drewN ?_ _ | refine blk_drew ?_ | refine blk_alloc ?_ _)); exact BK187.out) hb); have n1_ := Aside0.mk (below_step (by repeat (first | (with_reducible first | exact HB.out | apply below_alloc | apply pw_below_drewN | apply below_drew1 | refine below_set ?_ GE187.out) | exact HB.out)) hb); have n2_ := Aside0.mk (hbox); have n3_ := Aside0.mk ((by rw [hg]; exact (below_size (by repeat (first | (with_reducible first | exact HB.out | apply below_alloc | apply pw_below_drewN | apply below_drew1 | refine below_set ?_ GE187.out) | exact HB.out))) : w.heap.size ≤ gb199)); have n4_ := Aside0.mk ((by rw [hg]; exact (below_size (by repeat (first | (with_reducible first | exact HB.out | apply below_alloc | apply pw_below_drewN | apply below_drew1 | refine below_set ?_ GE187.out) | exact HB.out))) : w.heap.size ≤ gb199)); have n5_ := Aside0.mk ((by rw [hg]; exact Nat.ne_of_lt (blk_lt (g := gb187) (o := .cells #[.int .i64 a0_0, .int .i64 a0_1, .int .i64 a0_2, .int .i64 a0_3, .int .i64 a0_4, .bool a0_5] 34 (0, 0)) (by (with_reducible repeat (first | refine blk_drewN ?_ _ | refine blk_drew ?_ | refine blk_alloc ?_ _)); exact BK187.out)) : gb187 ≠ gb199)); have n6_ := Aside0.mk ((by rw [hg]; exact Nat.ne_of_gt (blk_lt (g := gb187) (o := .cells #[.int .i64 a0_0, .int .i64 a0_1, .int .i64 a0_2, .int .i64 a0_3, .int .i64 a0_4, .bool a0_5] 34 (0, 0)) (by (with_reducible repeat (first | refine blk_drewN ?_ _ | refine blk_drew ?_ | refine blk_alloc ?_ _)); exact BK187.out)) : gb199 ≠ gb187)); clear BK187; clear HB; have BK187 := n0_; have HB := n1_; have BK199 := n2_; have GW199 := n3_; have GE199 := n4_; have NB187_199 := n5_; have NB199_187 := n6_; clear n0_ n1_ n2_ n3_ n4_ n5_ n6_; clear hb hbox hg; have hnb21 := NB199_187.out; have hnc21 := NB187_199.out; have hcz22_0 : w20.cell? ⟨gb199, 0, none⟩ = some (.int .i64 0) := (blk_cell BK199.out 0).trans rfl; have hcz22_1 : w20.cell? ⟨gb199, 1, none⟩ = some (.int .i64 0) := (blk_cell BK199.out 1).trans rfl; have hcz22_2 : w20.cell? ⟨gb199, 2, none⟩ = some (.int .i64 0) := (blk_cell BK199.out 2).trans rfl; have hcz22_3 : w20.cell? ⟨gb199, 3, none⟩ = some (.int .i64 0) := (blk_cell BK199.out 3).trans rfl; have hcz22_4 : w20.cell? ⟨gb199, 4, none⟩ = some (.int .i64 0) := (blk_cell BK199.out 4).trans rfl; have hcz22_5 : w20.cell? ⟨gb199, 5, none⟩ = some (.bool false) := (blk_cell BK199.out 5).trans rfl; have hfz22_0 := blk_frozen BK199.out 0; have hfz22_1 := blk_frozen BK199.out 1; have hfz22_2 := blk_frozen BK199.out 2; have hfz22_3 := blk_frozen BK199.out 3; have hfz22_4 := blk_frozen BK199.out 4; have hfz22_5 := blk_frozen BK199.out 5; have hcz23_0 : w20.cell? ⟨gb187, 0, none⟩ = some (.int .i64 a0_0) := (blk_cell BK187.out 0).trans rfl; have hcz23_1 : w20.cell? ⟨gb187, 1, none⟩ = some (.int .i64 a0_1) := (blk_cell BK187.out 1).trans rfl; have hcz23_2 : w20.cell? ⟨gb187, 2, none⟩ = some (.int .i64 a0_2) := (blk_cell BK187.out 2).trans rfl; have hcz23_3 : w20.cell? ⟨gb187, 3, none⟩ = some (.int .i64 a0_3) := (blk_cell BK187.out 3).trans rfl; have hcz23_4 : w20.cell? ⟨gb187, 4, none⟩ = some (.int .i64 a0_4) := (blk_cell BK187.out 4).trans rfl; have hcz23_5 : w20.cell? ⟨gb187, 5, none⟩ = some (.bool a0_5) := (blk_cell BK187.out 5).trans rfl; have hfz23_0 := blk_frozen BK187.out 0; have hfz23_1 := blk_frozen BK187.out 1; have hfz23_2 := blk_frozen BK187.out 2; have hfz23_3 := blk_frozen BK187.out 3; have hfz23_4 := blk_frozen BK187.out 4; have hfz23_5 := blk_frozen BK187.out 5) | (go_at_call 20; (with_reducible refine (cutroomlaw19_awake.calls kj3  t200 _ A17.out).mono ?_); rintro e w24 ⟨rfl, hb⟩; have n0_ := Aside0.mk (blk_below (g := gb187) (o := .cells #[.int .i64 a0_0, .int .i64 a0_1, .int .i64 a0_2, .int .i64 a0_3, .int .i64 a0_4, .bool a0_5] 34 (0, 0)) (by (with_reducible repeat (first | refine blk_drewN ?_ _ | refine blk_drew ?_ | refine blk_alloc ?_ _)); refine blk_far ?_ NB187_199.out _; (with_reducible repeat (first | refine blk_drewN ?_ _ | refine blk_drew ?_ | refine blk_alloc ?_ _)); refine blk_far ?_ NB187_199.out _; (with_reducible repeat (first | refine blk_drewN ?_ _ | refine blk_drew ?_ | refine blk_alloc ?_ _)); refine blk_far ?_ NB187_199.out _; (with_reducible repeat (first | refine blk_drewN ?_ _ | refine blk_drew ?_ | refine blk_alloc ?_ _)); refine blk_far ?_ NB187_199.out _; (with_reducible repeat (first | refine blk_drewN ?_ _ | refine blk_drew ?_ | refine blk_alloc ?_ _)); refine blk_far ?_ NB187_199.out _; (with_reducible repeat (first | refine blk_drewN ?_ _ | refine blk_drew ?_ | refine blk_alloc ?_ _)); refine blk_far ?_ NB187_199.out _; (with_reducible repeat (first | refine blk_drewN ?_ _ | refine blk_drew ?_ | refine blk_alloc ?_ _)); exact BK187.out) hb); have n1_ := Aside0.mk (blk_below (g := gb199) (o := .cells #[.int .i64 t192, .int .i64 t193, .int .i64 t194, .int .i64 t195, .int .i64 t196, .bool t197] 34 (0, 0)) (by (with_reducible repeat (first | refine blk_drewN ?_ _ | refine blk_drew ?_ | refine blk_alloc ?_ _)); refine blk_put (cs := #[.int .i64 t192, .int .i64 t193, .int .i64 t194, .int .i64 t195, .int .i64 t196, .bool false]) ?_ 5 _ rfl; (with_reducible repeat (first | refine blk_drewN ?_ _ | refine blk_drew ?_ | refine blk_alloc ?_ _)); refine blk_put (cs := #[.int .i64 t192, .int .i64 t193, .int .i64 t194, .int .i64 t195, .int .i64 0, .bool false]) ?_ 4 _ rfl; (with_reducible repeat (first | refine blk_drewN ?_ _ | refine blk_drew ?_ | refine blk_alloc ?_ _)); refine blk_put (cs := #[.int .i64 t192, .int .i64 t193, .int .i64 t194, .int .i64 0, .int .i64 0, .bool false]) ?_ 3 _ rfl; (with_reducible repeat (first | refine blk_drewN ?_ _ | refine blk_drew ?_ | refine blk_alloc ?_ _)); refine blk_put (cs := #[.int .i64 t192, .int .i64 t193, .int .i64 0, .int .i64 0, .int .i64 0, .bool false]) ?_ 2 _ rfl; (with_reducible repeat (first | refine blk_drewN ?_ _ | refine blk_drew ?_ | refine blk_alloc ?_ _)); refine blk_put (cs := #[.int .i64 t192, .int .i64 0, .int .i64 0, .int .i64 0, .int .i64 0, .bool false]) ?_ 1 _ rfl; (with_reducible repeat (first | refine blk_drewN ?_ _ | refine blk_drew ?_ | refine blk_alloc ?_ _)); refine blk_put (cs := #[.int .i64 0, .int .i64 0, .int .i64 0, .int .i64 0, .int .i64 0, .bool false]) ?_ 0 _ rfl; (with_reducible repeat (first | refine blk_drewN ?_ _ | refine blk_drew ?_ | refine blk_alloc ?_ _)); exact BK199.out) hb); have n2_ := Aside0.mk (below_step (by repeat (first | (with_reducible first | exact HB.out | apply below_alloc | apply pw_below_drewN | apply below_drew1 | refine below_set ?_ GE187.out | refine below_set ?_ GE199.out) | exact HB.out)) hb); clear BK187; clear BK199; clear HB; have BK187 := n0_; have BK199 := n1_; have HB := n2_; clear n0_ n1_ n2_; (try clear hb); (try clear hb2); (try clear hk); (try clear hi)))
                go_ret
                exact ⟨by first | rfl | (simp [errW_none, errW_some] <;> rfl) | (simp [*, errW_none, errW_some] <;> rfl), by repeat (first | (with_reducible first | exact HB.out | apply below_alloc | apply pw_below_drewN | apply below_drew1 | refine below_set ?_ GE187.out | refine below_set ?_ GE199.out) | exact HB.out)⟩
              · rw [if_neg c16] at H
                have c16b0 : ((t188.size : Int) == 11) = false := beq_eq_false_iff_ne.mpr c16
                have c16b1 : ((t188.size : Int) != 11) = true := bne_iff_ne.mpr c16
                obtain rfl := Option.some.inj H
                have hcz25_0 : wc.cell? ⟨gb187, 0, none⟩ = some (.int .i64 a0_0) := (blk_cell BK187.out 0).trans rfl
                have hcz25_1 : wc.cell? ⟨gb187, 1, none⟩ = some (.int .i64 a0_1) := (blk_cell BK187.out 1).trans rfl
                have hcz25_2 : wc.cell? ⟨gb187, 2, none⟩ = some (.int .i64 a0_2) := (blk_cell BK187.out 2).trans rfl
                have hcz25_3 : wc.cell? ⟨gb187, 3, none⟩ = some (.int .i64 a0_3) := (blk_cell BK187.out 3).trans rfl
                have hcz25_4 : wc.cell? ⟨gb187, 4, none⟩ = some (.int .i64 a0_4) := (blk_cell BK187.out 4).trans rfl
                have hcz25_5 : wc.cell? ⟨gb187, 5, none⟩ = some (.bool a0_5) := (blk_cell BK187.out 5).trans rfl
                have hfz25_0 := blk_frozen BK187.out 0
                have hfz25_1 := blk_frozen BK187.out 1
                have hfz25_2 := blk_frozen BK187.out 2
                have hfz25_3 := blk_frozen BK187.out 3
                have hfz25_4 := blk_frozen BK187.out 4
                have hfz25_5 := blk_frozen BK187.out 5
                go_wp2_with (first | ((with_reducible refine gate_callee (f := 32) rfl ?_); refine goesL_ (some 34) rfl rfl Try.func32 (by kernel_rfl) rfl #[.string t188, .int .i64 a0_4] rfl (by (try simp only [List.map_toArray, List.map_cons, List.map_nil]); first | done | rfl | (simp only [List.length_drop, List.length_take]; rfl)) ?_; (with_reducible refine (timecode_Parse.calls kj3 t188 a0_4 t192 t193 t194 t195 t196 t197 t198 _ A13.out).mono ?_); rintro e w26 ⟨rfl, hb⟩; refine ⟨_, rfl, ?_⟩; have n0_ := Aside0.mk (blk_below (g := gb187) (o := .cells #[.int .i64 a0_0, .int .i64 a0_1, .int .i64 a0_2, .int .i64 a0_3, .int .i64 a0_4, .bool a0_5] 34 (0, 0)) (by (with_reducible repeat (first | refine blk_drewN ?_ _ | refine blk_drew ?_ | refine blk_alloc ?_ _)); exact BK187.out) hb); have n1_ := Aside0.mk (below_step (by repeat (first | (with_reducible first | exact HB.out | apply below_alloc | apply pw_below_drewN | apply below_drew1 | refine below_set ?_ GE187.out) | exact HB.out)) hb); clear BK187; clear HB; have BK187 := n0_; have HB := n1_; clear n0_ n1_; (try clear hb); (try clear hb2); (try clear hk); (try clear hi)) | ((with_reducible refine gate_dst (N := 7) rfl ?_); (try (refine gate_guard (by rfl) ?_; dsimp only)); refine box_event ?hg (N := 7) ?hd (cs := #[.int .i64 0, .int .i64 0, .int .i64 0, .int .i64 0, .int .i64 0, .bool false]) (t := 34) ?hr ?_; (case hd => rfl); (case hg => rfl); (case hr => first | (go_simp; done) | (go_simp; rfl)); intro gb199 hg w27 hbox hb; have n0_ := Aside0.mk (blk_below (g := gb187) (o := .cells #[.int .i64 a0_0, .int .i64 a0_1, .int .i64 a0_2, .int .i64 a0_3, .int .i64 a0_4, .bool a0_5] 34 (0, 0)) (by (with_reducible repeat (first | refine blk_drewN ?_ _ | refine blk_drew ?_ | refine blk_alloc ?_ _)); exact BK187.out) hb); have n1_ := Aside0.mk (below_step (by repeat (first | (with_reducible first | exact HB.out | apply below_alloc | apply pw_below_drewN | apply below_drew1 | refine below_set ?_ GE187.out) | exact HB.out)) hb); have n2_ := Aside0.mk (hbox); have n3_ := Aside0.mk ((by rw [hg]; exact (below_size (by repeat (first | (with_reducible first | exact HB.out | apply below_alloc | apply pw_below_drewN | apply below_drew1 | refine below_set ?_ GE187.out) | exact HB.out))) : w.heap.size ≤ gb199)); have n4_ := Aside0.mk ((by rw [hg]; exact (below_size (by repeat (first | (with_reducible first | exact HB.out | apply below_alloc | apply pw_below_drewN | apply below_drew1 | refine below_set ?_ GE187.out) | exact HB.out))) : w.heap.size ≤ gb199)); have n5_ := Aside0.mk ((by rw [hg]; exact Nat.ne_of_lt (blk_lt (g := gb187) (o := .cells #[.int .i64 a0_0, .int .i64 a0_1, .int .i64 a0_2, .int .i64 a0_3, .int .i64 a0_4, .bool a0_5] 34 (0, 0)) (by (with_reducible repeat (first | refine blk_drewN ?_ _ | refine blk_drew ?_ | refine blk_alloc ?_ _)); exact BK187.out)) : gb187 ≠ gb199)); have n6_ := Aside0.mk ((by rw [hg]; exact Nat.ne_of_gt (blk_lt (g := gb187) (o := .cells #[.int .i64 a0_0, .int .i64 a0_1, .int .i64 a0_2, .int .i64 a0_3, .int .i64 a0_4, .bool a0_5] 34 (0, 0)) (by (with_reducible repeat (first | refine blk_drewN ?_ _ | refine blk_drew ?_ | refine blk_alloc ?_ _)); exact BK187.out)) : gb199 ≠ gb187)); clear BK187; clear HB; have BK187 := n0_; have HB := n1_; have BK199 := n2_; have GW199 := n3_; have GE199 := n4_; have NB187_199 := n5_; have NB199_187 := n6_; clear n0_ n1_ n2_ n3_ n4_ n5_ n6_; clear hb hbox hg; have hnb28 := NB199_187.out; have hnc28 := NB187_199.out; have hcz29_0 : w27.cell? ⟨gb199, 0, none⟩ = some (.int .i64 0) := (blk_cell BK199.out 0).trans rfl; have hcz29_1 : w27.cell? ⟨gb199, 1, none⟩ = some (.int .i64 0) := (blk_cell BK199.out 1).trans rfl; have hcz29_2 : w27.cell? ⟨gb199, 2, none⟩ = some (.int .i64 0) := (blk_cell BK199.out 2).trans rfl; have hcz29_3 : w27.cell? ⟨gb199, 3, none⟩ = some (.int .i64 0) := (blk_cell BK199.out 3).trans rfl; have hcz29_4 : w27.cell? ⟨gb199, 4, none⟩ = some (.int .i64 0) := (blk_cell BK199.out 4).trans rfl; have hcz29_5 : w27.cell? ⟨gb199, 5, none⟩ = some (.bool false) := (blk_cell BK199.out 5).trans rfl; have hfz29_0 := blk_frozen BK199.out 0; have hfz29_1 := blk_frozen BK199.out 1; have hfz29_2 := blk_frozen BK199.out 2; have hfz29_3 := blk_frozen BK199.out 3; have hfz29_4 := blk_frozen BK199.out 4; have hfz29_5 := blk_frozen BK199.out 5; have hcz30_0 : w27.cell? ⟨gb187, 0, none⟩ = some (.int .i64 a0_0) := (blk_cell BK187.out 0).trans rfl; have hcz30_1 : w27.cell? ⟨gb187, 1, none⟩ = some (.int .i64 a0_1) := (blk_cell BK187.out 1).trans rfl; have hcz30_2 : w27.cell? ⟨gb187, 2, none⟩ = some (.int .i64 a0_2) := (blk_cell BK187.out 2).trans rfl; have hcz30_3 : w27.cell? ⟨gb187, 3, none⟩ = some (.int .i64 a0_3) := (blk_cell BK187.out 3).trans rfl; have hcz30_4 : w27.cell? ⟨gb187, 4, none⟩ = some (.int .i64 a0_4) := (blk_cell BK187.out 4).trans rfl; have hcz30_5 : w27.cell? ⟨gb187, 5, none⟩ = some (.bool a0_5) := (blk_cell BK187.out 5).trans rfl; have hfz30_0 := blk_frozen BK187.out 0; have hfz30_1 := blk_frozen BK187.out 1; have hfz30_2 := blk_frozen BK187.out 2; have hfz30_3 := blk_frozen BK187.out 3; have hfz30_4 := blk_frozen BK187.out 4; have hfz30_5 := blk_frozen BK187.out 5))
                go_ret
                exact ⟨by first | rfl | (simp [errW_none, errW_some] <;> rfl) | (simp [*, errW_none, errW_some] <;> rfl), by repeat (first | (with_reducible first | exact HB.out | apply below_alloc | apply pw_below_drewN | apply below_drew1 | refine below_set ?_ GE187.out | refine below_set ?_ GE199.out) | exact HB.out)⟩
            · rw [if_neg c15] at H
              have c15b0 : (t192 == a0_0 && (t193 == a0_1 && (t194 == a0_2 && (t195 == a0_3 && (t196 == a0_4 && (t197 == a0_5)))))) = false := by simpa using c15
              (try (have c15b1 : decide (t192 = a0_0 && (t193 == a0_1 && (t194 == a0_2 && (t195 == a0_3 && (t196 == a0_4 && (t197 == a0_5)))))) = false := by simpa using c15))
              (try (have c15b2 : (t192 == a0_0 && (t193 == a0_1 && (t194 == a0_2 && (t195 == a0_3 && (t196 == a0_4 && (t197 == a0_5)))))) = false := by simpa using c15))
              (try (have c15b3 : ¬ (t192 = a0_0 && (t193 == a0_1 && (t194 == a0_2 && (t195 == a0_3 && (t196 == a0_4 && (t197 == a0_5)))))) := by simpa using c15))
              clear c15
              obtain rfl := Option.some.inj H
              have hcz31_0 : wc.cell? ⟨gb187, 0, none⟩ = some (.int .i64 a0_0) := (blk_cell BK187.out 0).trans rfl
              have hcz31_1 : wc.cell? ⟨gb187, 1, none⟩ = some (.int .i64 a0_1) := (blk_cell BK187.out 1).trans rfl
              have hcz31_2 : wc.cell? ⟨gb187, 2, none⟩ = some (.int .i64 a0_2) := (blk_cell BK187.out 2).trans rfl
              have hcz31_3 : wc.cell? ⟨gb187, 3, none⟩ = some (.int .i64 a0_3) := (blk_cell BK187.out 3).trans rfl
              have hcz31_4 : wc.cell? ⟨gb187, 4, none⟩ = some (.int .i64 a0_4) := (blk_cell BK187.out 4).trans rfl
              have hcz31_5 : wc.cell? ⟨gb187, 5, none⟩ = some (.bool a0_5) := (blk_cell BK187.out 5).trans rfl
              have hfz31_0 := blk_frozen BK187.out 0
              have hfz31_1 := blk_frozen BK187.out 1
              have hfz31_2 := blk_frozen BK187.out 2
              have hfz31_3 := blk_frozen BK187.out 3
              have hfz31_4 := blk_frozen BK187.out 4
              have hfz31_5 := blk_frozen BK187.out 5
              go_wp2_with (first | ((with_reducible refine gate_callee (f := 32) rfl ?_); refine goesL_ (some 34) rfl rfl Try.func32 (by kernel_rfl) rfl #[.string t188, .int .i64 a0_4] rfl (by (try simp only [List.map_toArray, List.map_cons, List.map_nil]); first | done | rfl | (simp only [List.length_drop, List.length_take]; rfl)) ?_; (with_reducible refine (timecode_Parse.calls kj3 t188 a0_4 t192 t193 t194 t195 t196 t197 t198 _ A13.out).mono ?_); rintro e w32 ⟨rfl, hb⟩; refine ⟨_, rfl, ?_⟩; have n0_ := Aside0.mk (blk_below (g := gb187) (o := .cells #[.int .i64 a0_0, .int .i64 a0_1, .int .i64 a0_2, .int .i64 a0_3, .int .i64 a0_4, .bool a0_5] 34 (0, 0)) (by (with_reducible repeat (first | refine blk_drewN ?_ _ | refine blk_drew ?_ | refine blk_alloc ?_ _)); exact BK187.out) hb); have n1_ := Aside0.mk (below_step (by repeat (first | (with_reducible first | exact HB.out | apply below_alloc | apply pw_below_drewN | apply below_drew1 | refine below_set ?_ GE187.out) | exact HB.out)) hb); clear BK187; clear HB; have BK187 := n0_; have HB := n1_; clear n0_ n1_; (try clear hb); (try clear hb2); (try clear hk); (try clear hi)) | ((with_reducible refine gate_dst (N := 7) rfl ?_); (try (refine gate_guard (by rfl) ?_; dsimp only)); refine box_event ?hg (N := 7) ?hd (cs := #[.int .i64 0, .int .i64 0, .int .i64 0, .int .i64 0, .int .i64 0, .bool false]) (t := 34) ?hr ?_; (case hd => rfl); (case hg => rfl); (case hr => first | (go_simp; done) | (go_simp; rfl)); intro gb199 hg w33 hbox hb; have n0_ := Aside0.mk (blk_below (g := gb187) (o := .cells #[.int .i64 a0_0, .int .i64 a0_1, .int .i64 a0_2, .int .i64 a0_3, .int .i64 a0_4, .bool a0_5] 34 (0, 0)) (by (with_reducible repeat (first | refine blk_drewN ?_ _ | refine blk_drew ?_ | refine blk_alloc ?_ _)); exact BK187.out) hb); have n1_ := Aside0.mk (below_step (by repeat (first | (with_reducible first | exact HB.out | apply below_alloc | apply pw_below_drewN | apply below_drew1 | refine below_set ?_ GE187.out) | exact HB.out)) hb); have n2_ := Aside0.mk (hbox); have n3_ := Aside0.mk ((by rw [hg]; exact (below_size (by repeat (first | (with_reducible first | exact HB.out | apply below_alloc | apply pw_below_drewN | apply below_drew1 | refine below_set ?_ GE187.out) | exact HB.out))) : w.heap.size ≤ gb199)); have n4_ := Aside0.mk ((by rw [hg]; exact (below_size (by repeat (first | (with_reducible first | exact HB.out | apply below_alloc | apply pw_below_drewN | apply below_drew1 | refine below_set ?_ GE187.out) | exact HB.out))) : w.heap.size ≤ gb199)); have n5_ := Aside0.mk ((by rw [hg]; exact Nat.ne_of_lt (blk_lt (g := gb187) (o := .cells #[.int .i64 a0_0, .int .i64 a0_1, .int .i64 a0_2, .int .i64 a0_3, .int .i64 a0_4, .bool a0_5] 34 (0, 0)) (by (with_reducible repeat (first | refine blk_drewN ?_ _ | refine blk_drew ?_ | refine blk_alloc ?_ _)); exact BK187.out)) : gb187 ≠ gb199)); have n6_ := Aside0.mk ((by rw [hg]; exact Nat.ne_of_gt (blk_lt (g := gb187) (o := .cells #[.int .i64 a0_0, .int .i64 a0_1, .int .i64 a0_2, .int .i64 a0_3, .int .i64 a0_4, .bool a0_5] 34 (0, 0)) (by (with_reducible repeat (first | refine blk_drewN ?_ _ | refine blk_drew ?_ | refine blk_alloc ?_ _)); exact BK187.out)) : gb199 ≠ gb187)); clear BK187; clear HB; have BK187 := n0_; have HB := n1_; have BK199 := n2_; have GW199 := n3_; have GE199 := n4_; have NB187_199 := n5_; have NB199_187 := n6_; clear n0_ n1_ n2_ n3_ n4_ n5_ n6_; clear hb hbox hg; have hnb34 := NB199_187.out; have hnc34 := NB187_199.out; have hcz35_0 : w33.cell? ⟨gb199, 0, none⟩ = some (.int .i64 0) := (blk_cell BK199.out 0).trans rfl; have hcz35_1 : w33.cell? ⟨gb199, 1, none⟩ = some (.int .i64 0) := (blk_cell BK199.out 1).trans rfl; have hcz35_2 : w33.cell? ⟨gb199, 2, none⟩ = some (.int .i64 0) := (blk_cell BK199.out 2).trans rfl; have hcz35_3 : w33.cell? ⟨gb199, 3, none⟩ = some (.int .i64 0) := (blk_cell BK199.out 3).trans rfl; have hcz35_4 : w33.cell? ⟨gb199, 4, none⟩ = some (.int .i64 0) := (blk_cell BK199.out 4).trans rfl; have hcz35_5 : w33.cell? ⟨gb199, 5, none⟩ = some (.bool false) := (blk_cell BK199.out 5).trans rfl; have hfz35_0 := blk_frozen BK199.out 0; have hfz35_1 := blk_frozen BK199.out 1; have hfz35_2 := blk_frozen BK199.out 2; have hfz35_3 := blk_frozen BK199.out 3; have hfz35_4 := blk_frozen BK199.out 4; have hfz35_5 := blk_frozen BK199.out 5; have hcz36_0 : w33.cell? ⟨gb187, 0, none⟩ = some (.int .i64 a0_0) := (blk_cell BK187.out 0).trans rfl; have hcz36_1 : w33.cell? ⟨gb187, 1, none⟩ = some (.int .i64 a0_1) := (blk_cell BK187.out 1).trans rfl; have hcz36_2 : w33.cell? ⟨gb187, 2, none⟩ = some (.int .i64 a0_2) := (blk_cell BK187.out 2).trans rfl; have hcz36_3 : w33.cell? ⟨gb187, 3, none⟩ = some (.int .i64 a0_3) := (blk_cell BK187.out 3).trans rfl; have hcz36_4 : w33.cell? ⟨gb187, 4, none⟩ = some (.int .i64 a0_4) := (blk_cell BK187.out 4).trans rfl; have hcz36_5 : w33.cell? ⟨gb187, 5, none⟩ = some (.bool a0_5) := (blk_cell BK187.out 5).trans rfl; have hfz36_0 := blk_frozen BK187.out 0; have hfz36_1 := blk_frozen BK187.out 1; have hfz36_2 := blk_frozen BK187.out 2; have hfz36_3 := blk_frozen BK187.out 3; have hfz36_4 := blk_frozen BK187.out 4; have hfz36_5 := blk_frozen BK187.out 5))
              go_ret
              exact ⟨by first | rfl | (simp [errW_none, errW_some] <;> rfl) | (simp [*, errW_none, errW_some] <;> rfl), by repeat (first | (with_reducible first | exact HB.out | apply below_alloc | apply pw_below_drewN | apply below_drew1 | refine below_set ?_ GE187.out | refine below_set ?_ GE199.out) | exact HB.out)⟩
          · rw [if_neg c14] at H
            have c14b0 : (t198 == 0) = false := beq_eq_false_iff_ne.mpr c14
            have c14b1 : (t198 != 0) = true := bne_iff_ne.mpr c14
            obtain rfl := Option.some.inj H
            have hcz37_0 : wc.cell? ⟨gb187, 0, none⟩ = some (.int .i64 a0_0) := (blk_cell BK187.out 0).trans rfl
            have hcz37_1 : wc.cell? ⟨gb187, 1, none⟩ = some (.int .i64 a0_1) := (blk_cell BK187.out 1).trans rfl
            have hcz37_2 : wc.cell? ⟨gb187, 2, none⟩ = some (.int .i64 a0_2) := (blk_cell BK187.out 2).trans rfl
            have hcz37_3 : wc.cell? ⟨gb187, 3, none⟩ = some (.int .i64 a0_3) := (blk_cell BK187.out 3).trans rfl
            have hcz37_4 : wc.cell? ⟨gb187, 4, none⟩ = some (.int .i64 a0_4) := (blk_cell BK187.out 4).trans rfl
            have hcz37_5 : wc.cell? ⟨gb187, 5, none⟩ = some (.bool a0_5) := (blk_cell BK187.out 5).trans rfl
            have hfz37_0 := blk_frozen BK187.out 0
            have hfz37_1 := blk_frozen BK187.out 1
            have hfz37_2 := blk_frozen BK187.out 2
            have hfz37_3 := blk_frozen BK187.out 3
            have hfz37_4 := blk_frozen BK187.out 4
            have hfz37_5 := blk_frozen BK187.out 5
            go_wp2_with (first | ((with_reducible refine gate_callee (f := 32) rfl ?_); refine goesL_ (some 34) rfl rfl Try.func32 (by kernel_rfl) rfl #[.string t188, .int .i64 a0_4] rfl (by (try simp only [List.map_toArray, List.map_cons, List.map_nil]); first | done | rfl | (simp only [List.length_drop, List.length_take]; rfl)) ?_; (with_reducible refine (timecode_Parse.calls kj3 t188 a0_4 t192 t193 t194 t195 t196 t197 t198 _ A13.out).mono ?_); rintro e w38 ⟨rfl, hb⟩; refine ⟨_, rfl, ?_⟩; have n0_ := Aside0.mk (blk_below (g := gb187) (o := .cells #[.int .i64 a0_0, .int .i64 a0_1, .int .i64 a0_2, .int .i64 a0_3, .int .i64 a0_4, .bool a0_5] 34 (0, 0)) (by (with_reducible repeat (first | refine blk_drewN ?_ _ | refine blk_drew ?_ | refine blk_alloc ?_ _)); exact BK187.out) hb); have n1_ := Aside0.mk (below_step (by repeat (first | (with_reducible first | exact HB.out | apply below_alloc | apply pw_below_drewN | apply below_drew1 | refine below_set ?_ GE187.out) | exact HB.out)) hb); clear BK187; clear HB; have BK187 := n0_; have HB := n1_; clear n0_ n1_; (try clear hb); (try clear hb2); (try clear hk); (try clear hi)) | ((with_reducible refine gate_dst (N := 7) rfl ?_); (try (refine gate_guard (by rfl) ?_; dsimp only)); refine box_event ?hg (N := 7) ?hd (cs := #[.int .i64 0, .int .i64 0, .int .i64 0, .int .i64 0, .int .i64 0, .bool false]) (t := 34) ?hr ?_; (case hd => rfl); (case hg => rfl); (case hr => first | (go_simp; done) | (go_simp; rfl)); intro gb199 hg w39 hbox hb; have n0_ := Aside0.mk (blk_below (g := gb187) (o := .cells #[.int .i64 a0_0, .int .i64 a0_1, .int .i64 a0_2, .int .i64 a0_3, .int .i64 a0_4, .bool a0_5] 34 (0, 0)) (by (with_reducible repeat (first | refine blk_drewN ?_ _ | refine blk_drew ?_ | refine blk_alloc ?_ _)); exact BK187.out) hb); have n1_ := Aside0.mk (below_step (by repeat (first | (with_reducible first | exact HB.out | apply below_alloc | apply pw_below_drewN | apply below_drew1 | refine below_set ?_ GE187.out) | exact HB.out)) hb); have n2_ := Aside0.mk (hbox); have n3_ := Aside0.mk ((by rw [hg]; exact (below_size (by repeat (first | (with_reducible first | exact HB.out | apply below_alloc | apply pw_below_drewN | apply below_drew1 | refine below_set ?_ GE187.out) | exact HB.out))) : w.heap.size ≤ gb199)); have n4_ := Aside0.mk ((by rw [hg]; exact (below_size (by repeat (first | (with_reducible first | exact HB.out | apply below_alloc | apply pw_below_drewN | apply below_drew1 | refine below_set ?_ GE187.out) | exact HB.out))) : w.heap.size ≤ gb199)); have n5_ := Aside0.mk ((by rw [hg]; exact Nat.ne_of_lt (blk_lt (g := gb187) (o := .cells #[.int .i64 a0_0, .int .i64 a0_1, .int .i64 a0_2, .int .i64 a0_3, .int .i64 a0_4, .bool a0_5] 34 (0, 0)) (by (with_reducible repeat (first | refine blk_drewN ?_ _ | refine blk_drew ?_ | refine blk_alloc ?_ _)); exact BK187.out)) : gb187 ≠ gb199)); have n6_ := Aside0.mk ((by rw [hg]; exact Nat.ne_of_gt (blk_lt (g := gb187) (o := .cells #[.int .i64 a0_0, .int .i64 a0_1, .int .i64 a0_2, .int .i64 a0_3, .int .i64 a0_4, .bool a0_5] 34 (0, 0)) (by (with_reducible repeat (first | refine blk_drewN ?_ _ | refine blk_drew ?_ | refine blk_alloc ?_ _)); exact BK187.out)) : gb199 ≠ gb187)); clear BK187; clear HB; have BK187 := n0_; have HB := n1_; have BK199 := n2_; have GW199 := n3_; have GE199 := n4_; have NB187_199 := n5_; have NB199_187 := n6_; clear n0_ n1_ n2_ n3_ n4_ n5_ n6_; clear hb hbox hg; have hnb40 := NB199_187.out; have hnc40 := NB187_199.out; have hcz41_0 : w39.cell? ⟨gb199, 0, none⟩ = some (.int .i64 0) := (blk_cell BK199.out 0).trans rfl; have hcz41_1 : w39.cell? ⟨gb199, 1, none⟩ = some (.int .i64 0) := (blk_cell BK199.out 1).trans rfl; have hcz41_2 : w39.cell? ⟨gb199, 2, none⟩ = some (.int .i64 0) := (blk_cell BK199.out 2).trans rfl; have hcz41_3 : w39.cell? ⟨gb199, 3, none⟩ = some (.int .i64 0) := (blk_cell BK199.out 3).trans rfl; have hcz41_4 : w39.cell? ⟨gb199, 4, none⟩ = some (.int .i64 0) := (blk_cell BK199.out 4).trans rfl; have hcz41_5 : w39.cell? ⟨gb199, 5, none⟩ = some (.bool false) := (blk_cell BK199.out 5).trans rfl; have hfz41_0 := blk_frozen BK199.out 0; have hfz41_1 := blk_frozen BK199.out 1; have hfz41_2 := blk_frozen BK199.out 2; have hfz41_3 := blk_frozen BK199.out 3; have hfz41_4 := blk_frozen BK199.out 4; have hfz41_5 := blk_frozen BK199.out 5))
            go_ret
            exact ⟨by first | rfl | (simp [errW_none, errW_some] <;> rfl) | (simp [*, errW_none, errW_some] <;> rfl), by repeat (first | (with_reducible first | exact HB.out | apply below_alloc | apply pw_below_drewN | apply below_drew1 | refine below_set ?_ GE187.out | refine below_set ?_ GE199.out) | exact HB.out)⟩
        · rw [if_neg c12] at H
          have c12b0 : (t189 == 0) = false := beq_eq_false_iff_ne.mpr c12
          have c12b1 : (t189 != 0) = true := bne_iff_ne.mpr c12
          replace H := Option.bind_eq_some_iff.mp H
          obtain ⟨t201, A420, H⟩ := H
          replace H : (some t201) = some r := H
          have A42 := Aside0.mk A420
          clear A420
          obtain rfl := Option.some.inj H
          go_wp2_with (first | ((with_reducible refine gate_callee (f := 20) rfl ?_); refine goesL_ (some 29) rfl rfl Try.func20 (by kernel_rfl) rfl #[] rfl (by (try simp only [List.map_toArray, List.map_cons, List.map_nil]); first | done | rfl | (simp only [List.length_drop, List.length_take]; rfl)) ?_; (with_reducible refine (cutroomlaw19_awake.calls kj3  t201 _ A42.out).mono ?_); rintro e w43 ⟨rfl, hb⟩; refine ⟨_, rfl, ?_⟩; have n0_ := Aside0.mk (blk_below (g := gb187) (o := .cells #[.int .i64 a0_0, .int .i64 a0_1, .int .i64 a0_2, .int .i64 a0_3, .int .i64 a0_4, .bool a0_5] 34 (0, 0)) (by (with_reducible repeat (first | refine blk_drewN ?_ _ | refine blk_drew ?_ | refine blk_alloc ?_ _)); exact BK187.out) hb); have n1_ := Aside0.mk (below_step (by repeat (first | (with_reducible first | exact HB.out | apply below_alloc | apply pw_below_drewN | apply below_drew1 | refine below_set ?_ GE187.out) | exact HB.out)) hb); clear BK187; clear HB; have BK187 := n0_; have HB := n1_; clear n0_ n1_; (try clear hb); (try clear hb2); (try clear hk); (try clear hi)))
          go_ret
          exact ⟨by first | rfl | (simp [errW_none, errW_some] <;> rfl) | (simp [*, errW_none, errW_some] <;> rfl), by repeat (first | (with_reducible first | exact HB.out | apply below_alloc | apply pw_below_drewN | apply below_drew1 | refine below_set ?_ GE187.out) | exact HB.out)⟩

end Go.Proofs.Ytfdhjnfpppafaaa.PTimecodeFormats
