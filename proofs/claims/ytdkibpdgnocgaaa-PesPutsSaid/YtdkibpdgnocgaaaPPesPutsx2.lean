-- Written for this claim by a turned copy of the kit's print (wip/printx/mk.py). By an AI agent.
import Derived.Test.YtdkibpdgnocgaaaPPesPutsx0
import Derived.Test.YtdkibpdgnocgaaaPPesPutsx1
namespace Go.Proofs.Ytdkibpdgnocgaaa.PPesPuts
open Go.RowKit Go.Proofs.YtdkibpdgnocgaaaW.PrintWords Go.Proofs.YtdkibpdgnocgaaaW.PrintLast Go.Proofs.YtdkibpdgnocgaaaW.PrintMore
attribute [local go_sem] max2_int min2_int max_two min_two max_three min_three max_four min_four   -- for this text's walks alone
set_option linter.unusedVariables false
set_option linter.unusedSimpArgs false

/-! ### cutroomref16_Valid: function 32 -/
def cutroomref16_Valid.f (a0_0 : Int) (a0_1 : Int) (a0_2 : Int) (l0_3 : List Int) : Option (Bool) := if a0_0 ≥ 192 then (if a0_0 ≤ 239 then ((cutroomref16_stamp.f a0_1).bind fun t160 => (if t160 = true then ((cutroomref16_stamp.f a0_2).bind fun t161 => (if t161 = true then (if a0_1 ≥ 0 then (some true) else (some (decide (a0_2 < 0)))) else (some false))) else (some false))) else (some false)) else (some false)
set_option maxHeartbeats 8000000 in
set_option maxRecDepth 100000 in
theorem cutroomref16_Valid.calls (a0_0 : Int) (a0_1 : Int) (a0_2 : Int) (A0_3 : Option Addr) (c0_3 : Nat) (l0_3 : List Int) (r : Bool) (w : World) (hr0_3 : Kd.C (Kd.int .u8) w A0_3 l0_3.length l0_3) (hc0_3 : l0_3.length ≤ c0_3) (h : cutroomref16_Valid.f a0_0 a0_1 a0_2 l0_3 = some r) :
    Calls Try.prog 32 #[.agg #[.int .i64 a0_0, .int .i64 a0_1, .int .i64 a0_2, .slice A0_3 l0_3.length c0_3]] w fun e w' => e = .returned (.bool r) ∧ Below w.heap.size w w' := by
  have hu29 := Try.underlying29
  have HR0_3 := Aside0.mk hr0_3
  have HC0_3 := Aside0.mk hc0_3
  clear hr0_3 hc0_3
  have HB := Aside0.mk (Below.refl w.heap.size w)
  have H : (if a0_0 ≥ 192 then (if a0_0 ≤ 239 then ((cutroomref16_stamp.f a0_1).bind fun t160 => (if t160 = true then ((cutroomref16_stamp.f a0_2).bind fun t161 => (if t161 = true then (if a0_1 ≥ 0 then (some true) else (some (decide (a0_2 < 0)))) else (some false))) else (some false))) else (some false)) else (some false)) = some r := h
  clear h
  by_cases c2 : a0_0 ≥ 192
  · rw [if_pos c2] at H
    have c2b0 : decide (192 ≤ a0_0) = true := decide_eq_true c2
    clear c2
    by_cases c3 : a0_0 ≤ 239
    · rw [if_pos c3] at H
      have c3b0 : decide (a0_0 ≤ 239) = true := decide_eq_true c3
      clear c3
      replace H := Option.bind_eq_some_iff.mp H
      obtain ⟨t160, A40, H⟩ := H
      replace H : (if t160 = true then ((cutroomref16_stamp.f a0_2).bind fun t161 => (if t161 = true then (if a0_1 ≥ 0 then (some true) else (some (decide (a0_2 < 0)))) else (some false))) else (some false)) = some r := H
      have A4 := Aside0.mk A40
      clear A40
      by_cases c5 : t160 = true
      · subst c5
        have H1 : ((cutroomref16_stamp.f a0_2).bind fun t161 => (if t161 = true then (if a0_1 ≥ 0 then (some true) else (some (decide (a0_2 < 0)))) else (some false))) = some r := by rw [if_pos rfl] at H; exact H
        clear H
        have H := H1
        clear H1
        replace H := Option.bind_eq_some_iff.mp H
        obtain ⟨t161, A60, H⟩ := H
        replace H : (if t161 = true then (if a0_1 ≥ 0 then (some true) else (some (decide (a0_2 < 0)))) else (some false)) = some r := H
        have A6 := Aside0.mk A60
        clear A60
        by_cases c7 : t161 = true
        · subst c7
          have H1 : (if a0_1 ≥ 0 then (some true) else (some (decide (a0_2 < 0)))) = some r := by rw [if_pos rfl] at H; exact H
          clear H
          have H := H1
          clear H1
          by_cases c8 : a0_1 ≥ 0
          · rw [if_pos c8] at H
            have c8b0 : decide (0 ≤ a0_1) = true := decide_eq_true c8
            clear c8
            obtain rfl := Option.some.inj H
            go_enter Try.func32, Try.ntmps32
            go_wp2_with (first | ((with_reducible refine gate_dst (N := 1) rfl ?_); refine box_event ?hg (N := 1) ?hd (cs := #[.int .i64 a0_0, .int .i64 a0_1, .int .i64 a0_2, .slice A0_3 l0_3.length c0_3]) (t := 29) ?hr ?_; (case hd => rfl); (case hg => rfl); (case hr => first | (go_simp; done) | (go_simp; rfl)); intro gb159 hg w9 hbox hb; have n0_ := Aside0.mk (below_step (by repeat (first | (with_reducible first | exact HB.out | apply below_alloc | apply pw_below_drewN | apply below_drew1) | exact HB.out)) hb); have n1_ := Aside0.mk (hbox); have n2_ := Aside0.mk ((by rw [hg]; exact (below_size (by repeat (first | (with_reducible first | exact HB.out | apply below_alloc | apply pw_below_drewN | apply below_drew1) | exact HB.out))) : w.heap.size ≤ gb159)); have n3_ := Aside0.mk ((by rw [hg]; exact (below_size (by repeat (first | (with_reducible first | exact HB.out | apply below_alloc | apply pw_below_drewN | apply below_drew1) | exact HB.out))) : w.heap.size ≤ gb159)); clear HB; have HB := n0_; have BK159 := n1_; have GW159 := n2_; have GE159 := n3_; clear n0_ n1_ n2_ n3_; clear hb hbox hg; have hcz10_0 : w9.cell? ⟨gb159, 0, none⟩ = some (.int .i64 a0_0) := (blk_cell BK159.out 0).trans rfl; have hcz10_1 : w9.cell? ⟨gb159, 1, none⟩ = some (.int .i64 a0_1) := (blk_cell BK159.out 1).trans rfl; have hcz10_2 : w9.cell? ⟨gb159, 2, none⟩ = some (.int .i64 a0_2) := (blk_cell BK159.out 2).trans rfl; have hcz10_3 : w9.cell? ⟨gb159, 3, none⟩ = some (.slice A0_3 l0_3.length c0_3) := (blk_cell BK159.out 3).trans rfl; have hfz10_0 := blk_frozen BK159.out 0; have hfz10_1 := blk_frozen BK159.out 1; have hfz10_2 := blk_frozen BK159.out 2; have hfz10_3 := blk_frozen BK159.out 3) | (go_at_call 51; (with_reducible refine (cutroomref16_stamp.calls a0_1 true _ A4.out).mono ?_); rintro e w' ⟨rfl, ⟨nd, rfl⟩⟩) | (go_at_call 51; (with_reducible refine (cutroomref16_stamp.calls a0_2 true _ A6.out).mono ?_); rintro e w' ⟨rfl, ⟨nd, rfl⟩⟩))
            go_ret
            exact ⟨by first | rfl | (simp [errW_none, errW_some] <;> rfl) | (simp [*, errW_none, errW_some] <;> rfl), by repeat (first | (with_reducible first | exact HB.out | apply below_alloc | apply pw_below_drewN | apply below_drew1 | refine below_set ?_ GE159.out) | exact HB.out)⟩
          · rw [if_neg c8] at H
            have c8b0 : decide (0 ≤ a0_1) = false := decide_eq_false c8
            clear c8
            obtain rfl := Option.some.inj H
            go_enter Try.func32, Try.ntmps32
            go_wp2_with (first | ((with_reducible refine gate_dst (N := 1) rfl ?_); refine box_event ?hg (N := 1) ?hd (cs := #[.int .i64 a0_0, .int .i64 a0_1, .int .i64 a0_2, .slice A0_3 l0_3.length c0_3]) (t := 29) ?hr ?_; (case hd => rfl); (case hg => rfl); (case hr => first | (go_simp; done) | (go_simp; rfl)); intro gb159 hg w11 hbox hb; have n0_ := Aside0.mk (below_step (by repeat (first | (with_reducible first | exact HB.out | apply below_alloc | apply pw_below_drewN | apply below_drew1) | exact HB.out)) hb); have n1_ := Aside0.mk (hbox); have n2_ := Aside0.mk ((by rw [hg]; exact (below_size (by repeat (first | (with_reducible first | exact HB.out | apply below_alloc | apply pw_below_drewN | apply below_drew1) | exact HB.out))) : w.heap.size ≤ gb159)); have n3_ := Aside0.mk ((by rw [hg]; exact (below_size (by repeat (first | (with_reducible first | exact HB.out | apply below_alloc | apply pw_below_drewN | apply below_drew1) | exact HB.out))) : w.heap.size ≤ gb159)); clear HB; have HB := n0_; have BK159 := n1_; have GW159 := n2_; have GE159 := n3_; clear n0_ n1_ n2_ n3_; clear hb hbox hg; have hcz12_0 : w11.cell? ⟨gb159, 0, none⟩ = some (.int .i64 a0_0) := (blk_cell BK159.out 0).trans rfl; have hcz12_1 : w11.cell? ⟨gb159, 1, none⟩ = some (.int .i64 a0_1) := (blk_cell BK159.out 1).trans rfl; have hcz12_2 : w11.cell? ⟨gb159, 2, none⟩ = some (.int .i64 a0_2) := (blk_cell BK159.out 2).trans rfl; have hcz12_3 : w11.cell? ⟨gb159, 3, none⟩ = some (.slice A0_3 l0_3.length c0_3) := (blk_cell BK159.out 3).trans rfl; have hfz12_0 := blk_frozen BK159.out 0; have hfz12_1 := blk_frozen BK159.out 1; have hfz12_2 := blk_frozen BK159.out 2; have hfz12_3 := blk_frozen BK159.out 3) | (go_at_call 51; (with_reducible refine (cutroomref16_stamp.calls a0_1 true _ A4.out).mono ?_); rintro e w' ⟨rfl, ⟨nd, rfl⟩⟩) | (go_at_call 51; (with_reducible refine (cutroomref16_stamp.calls a0_2 true _ A6.out).mono ?_); rintro e w' ⟨rfl, ⟨nd, rfl⟩⟩))
            go_ret
            exact ⟨by first | rfl | (simp [errW_none, errW_some] <;> rfl) | (simp [*, errW_none, errW_some] <;> rfl), by repeat (first | (with_reducible first | exact HB.out | apply below_alloc | apply pw_below_drewN | apply below_drew1 | refine below_set ?_ GE159.out) | exact HB.out)⟩
        · replace c7 := Bool.eq_false_iff.mpr c7
          subst c7
          have H1 : (some false) = some r := by rw [if_neg (show ¬ (false = true) by decide)] at H; exact H
          clear H
          have H := H1
          clear H1
          obtain rfl := Option.some.inj H
          go_enter Try.func32, Try.ntmps32
          go_wp2_with (first | ((with_reducible refine gate_dst (N := 1) rfl ?_); refine box_event ?hg (N := 1) ?hd (cs := #[.int .i64 a0_0, .int .i64 a0_1, .int .i64 a0_2, .slice A0_3 l0_3.length c0_3]) (t := 29) ?hr ?_; (case hd => rfl); (case hg => rfl); (case hr => first | (go_simp; done) | (go_simp; rfl)); intro gb159 hg w13 hbox hb; have n0_ := Aside0.mk (below_step (by repeat (first | (with_reducible first | exact HB.out | apply below_alloc | apply pw_below_drewN | apply below_drew1) | exact HB.out)) hb); have n1_ := Aside0.mk (hbox); have n2_ := Aside0.mk ((by rw [hg]; exact (below_size (by repeat (first | (with_reducible first | exact HB.out | apply below_alloc | apply pw_below_drewN | apply below_drew1) | exact HB.out))) : w.heap.size ≤ gb159)); have n3_ := Aside0.mk ((by rw [hg]; exact (below_size (by repeat (first | (with_reducible first | exact HB.out | apply below_alloc | apply pw_below_drewN | apply below_drew1) | exact HB.out))) : w.heap.size ≤ gb159)); clear HB; have HB := n0_; have BK159 := n1_; have GW159 := n2_; have GE159 := n3_; clear n0_ n1_ n2_ n3_; clear hb hbox hg; have hcz14_0 : w13.cell? ⟨gb159, 0, none⟩ = some (.int .i64 a0_0) := (blk_cell BK159.out 0).trans rfl; have hcz14_1 : w13.cell? ⟨gb159, 1, none⟩ = some (.int .i64 a0_1) := (blk_cell BK159.out 1).trans rfl; have hcz14_2 : w13.cell? ⟨gb159, 2, none⟩ = some (.int .i64 a0_2) := (blk_cell BK159.out 2).trans rfl; have hcz14_3 : w13.cell? ⟨gb159, 3, none⟩ = some (.slice A0_3 l0_3.length c0_3) := (blk_cell BK159.out 3).trans rfl; have hfz14_0 := blk_frozen BK159.out 0; have hfz14_1 := blk_frozen BK159.out 1; have hfz14_2 := blk_frozen BK159.out 2; have hfz14_3 := blk_frozen BK159.out 3) | (go_at_call 51; (with_reducible refine (cutroomref16_stamp.calls a0_1 true _ A4.out).mono ?_); rintro e w' ⟨rfl, ⟨nd, rfl⟩⟩) | (go_at_call 51; (with_reducible refine (cutroomref16_stamp.calls a0_2 false _ A6.out).mono ?_); rintro e w' ⟨rfl, ⟨nd, rfl⟩⟩))
          go_ret
          exact ⟨by first | rfl | (simp [errW_none, errW_some] <;> rfl) | (simp [*, errW_none, errW_some] <;> rfl), by repeat (first | (with_reducible first | exact HB.out | apply below_alloc | apply pw_below_drewN | apply below_drew1 | refine below_set ?_ GE159.out) | exact HB.out)⟩
      · replace c5 := Bool.eq_false_iff.mpr c5
        subst c5
        have H1 : (some false) = some r := by rw [if_neg (show ¬ (false = true) by decide)] at H; exact H
        clear H
        have H := H1
        clear H1
        obtain rfl := Option.some.inj H
        go_enter Try.func32, Try.ntmps32
        go_wp2_with (first | ((with_reducible refine gate_dst (N := 1) rfl ?_); refine box_event ?hg (N := 1) ?hd (cs := #[.int .i64 a0_0, .int .i64 a0_1, .int .i64 a0_2, .slice A0_3 l0_3.length c0_3]) (t := 29) ?hr ?_; (case hd => rfl); (case hg => rfl); (case hr => first | (go_simp; done) | (go_simp; rfl)); intro gb159 hg w15 hbox hb; have n0_ := Aside0.mk (below_step (by repeat (first | (with_reducible first | exact HB.out | apply below_alloc | apply pw_below_drewN | apply below_drew1) | exact HB.out)) hb); have n1_ := Aside0.mk (hbox); have n2_ := Aside0.mk ((by rw [hg]; exact (below_size (by repeat (first | (with_reducible first | exact HB.out | apply below_alloc | apply pw_below_drewN | apply below_drew1) | exact HB.out))) : w.heap.size ≤ gb159)); have n3_ := Aside0.mk ((by rw [hg]; exact (below_size (by repeat (first | (with_reducible first | exact HB.out | apply below_alloc | apply pw_below_drewN | apply below_drew1) | exact HB.out))) : w.heap.size ≤ gb159)); clear HB; have HB := n0_; have BK159 := n1_; have GW159 := n2_; have GE159 := n3_; clear n0_ n1_ n2_ n3_; clear hb hbox hg; have hcz16_0 : w15.cell? ⟨gb159, 0, none⟩ = some (.int .i64 a0_0) := (blk_cell BK159.out 0).trans rfl; have hcz16_1 : w15.cell? ⟨gb159, 1, none⟩ = some (.int .i64 a0_1) := (blk_cell BK159.out 1).trans rfl; have hcz16_2 : w15.cell? ⟨gb159, 2, none⟩ = some (.int .i64 a0_2) := (blk_cell BK159.out 2).trans rfl; have hcz16_3 : w15.cell? ⟨gb159, 3, none⟩ = some (.slice A0_3 l0_3.length c0_3) := (blk_cell BK159.out 3).trans rfl; have hfz16_0 := blk_frozen BK159.out 0; have hfz16_1 := blk_frozen BK159.out 1; have hfz16_2 := blk_frozen BK159.out 2; have hfz16_3 := blk_frozen BK159.out 3) | (go_at_call 51; (with_reducible refine (cutroomref16_stamp.calls a0_1 false _ A4.out).mono ?_); rintro e w' ⟨rfl, ⟨nd, rfl⟩⟩))
        go_ret
        exact ⟨by first | rfl | (simp [errW_none, errW_some] <;> rfl) | (simp [*, errW_none, errW_some] <;> rfl), by repeat (first | (with_reducible first | exact HB.out | apply below_alloc | apply pw_below_drewN | apply below_drew1 | refine below_set ?_ GE159.out) | exact HB.out)⟩
    · rw [if_neg c3] at H
      have c3b0 : decide (a0_0 ≤ 239) = false := decide_eq_false c3
      clear c3
      obtain rfl := Option.some.inj H
      go_enter Try.func32, Try.ntmps32
      go_wp2_with (first | ((with_reducible refine gate_dst (N := 1) rfl ?_); refine box_event ?hg (N := 1) ?hd (cs := #[.int .i64 a0_0, .int .i64 a0_1, .int .i64 a0_2, .slice A0_3 l0_3.length c0_3]) (t := 29) ?hr ?_; (case hd => rfl); (case hg => rfl); (case hr => first | (go_simp; done) | (go_simp; rfl)); intro gb159 hg w17 hbox hb; have n0_ := Aside0.mk (below_step (by repeat (first | (with_reducible first | exact HB.out | apply below_alloc | apply pw_below_drewN | apply below_drew1) | exact HB.out)) hb); have n1_ := Aside0.mk (hbox); have n2_ := Aside0.mk ((by rw [hg]; exact (below_size (by repeat (first | (with_reducible first | exact HB.out | apply below_alloc | apply pw_below_drewN | apply below_drew1) | exact HB.out))) : w.heap.size ≤ gb159)); have n3_ := Aside0.mk ((by rw [hg]; exact (below_size (by repeat (first | (with_reducible first | exact HB.out | apply below_alloc | apply pw_below_drewN | apply below_drew1) | exact HB.out))) : w.heap.size ≤ gb159)); clear HB; have HB := n0_; have BK159 := n1_; have GW159 := n2_; have GE159 := n3_; clear n0_ n1_ n2_ n3_; clear hb hbox hg; have hcz18_0 : w17.cell? ⟨gb159, 0, none⟩ = some (.int .i64 a0_0) := (blk_cell BK159.out 0).trans rfl; have hcz18_1 : w17.cell? ⟨gb159, 1, none⟩ = some (.int .i64 a0_1) := (blk_cell BK159.out 1).trans rfl; have hcz18_2 : w17.cell? ⟨gb159, 2, none⟩ = some (.int .i64 a0_2) := (blk_cell BK159.out 2).trans rfl; have hcz18_3 : w17.cell? ⟨gb159, 3, none⟩ = some (.slice A0_3 l0_3.length c0_3) := (blk_cell BK159.out 3).trans rfl; have hfz18_0 := blk_frozen BK159.out 0; have hfz18_1 := blk_frozen BK159.out 1; have hfz18_2 := blk_frozen BK159.out 2; have hfz18_3 := blk_frozen BK159.out 3))
      go_ret
      exact ⟨by first | rfl | (simp [errW_none, errW_some] <;> rfl) | (simp [*, errW_none, errW_some] <;> rfl), by repeat (first | (with_reducible first | exact HB.out | apply below_alloc | apply pw_below_drewN | apply below_drew1 | refine below_set ?_ GE159.out) | exact HB.out)⟩
  · rw [if_neg c2] at H
    have c2b0 : decide (192 ≤ a0_0) = false := decide_eq_false c2
    clear c2
    obtain rfl := Option.some.inj H
    go_enter Try.func32, Try.ntmps32
    go_wp2_with (first | ((with_reducible refine gate_dst (N := 1) rfl ?_); refine box_event ?hg (N := 1) ?hd (cs := #[.int .i64 a0_0, .int .i64 a0_1, .int .i64 a0_2, .slice A0_3 l0_3.length c0_3]) (t := 29) ?hr ?_; (case hd => rfl); (case hg => rfl); (case hr => first | (go_simp; done) | (go_simp; rfl)); intro gb159 hg w19 hbox hb; have n0_ := Aside0.mk (below_step (by repeat (first | (with_reducible first | exact HB.out | apply below_alloc | apply pw_below_drewN | apply below_drew1) | exact HB.out)) hb); have n1_ := Aside0.mk (hbox); have n2_ := Aside0.mk ((by rw [hg]; exact (below_size (by repeat (first | (with_reducible first | exact HB.out | apply below_alloc | apply pw_below_drewN | apply below_drew1) | exact HB.out))) : w.heap.size ≤ gb159)); have n3_ := Aside0.mk ((by rw [hg]; exact (below_size (by repeat (first | (with_reducible first | exact HB.out | apply below_alloc | apply pw_below_drewN | apply below_drew1) | exact HB.out))) : w.heap.size ≤ gb159)); clear HB; have HB := n0_; have BK159 := n1_; have GW159 := n2_; have GE159 := n3_; clear n0_ n1_ n2_ n3_; clear hb hbox hg; have hcz20_0 : w19.cell? ⟨gb159, 0, none⟩ = some (.int .i64 a0_0) := (blk_cell BK159.out 0).trans rfl; have hcz20_1 : w19.cell? ⟨gb159, 1, none⟩ = some (.int .i64 a0_1) := (blk_cell BK159.out 1).trans rfl; have hcz20_2 : w19.cell? ⟨gb159, 2, none⟩ = some (.int .i64 a0_2) := (blk_cell BK159.out 2).trans rfl; have hcz20_3 : w19.cell? ⟨gb159, 3, none⟩ = some (.slice A0_3 l0_3.length c0_3) := (blk_cell BK159.out 3).trans rfl; have hfz20_0 := blk_frozen BK159.out 0; have hfz20_1 := blk_frozen BK159.out 1; have hfz20_2 := blk_frozen BK159.out 2; have hfz20_3 := blk_frozen BK159.out 3))
    go_ret
    exact ⟨by first | rfl | (simp [errW_none, errW_some] <;> rfl) | (simp [*, errW_none, errW_some] <;> rfl), by repeat (first | (with_reducible first | exact HB.out | apply below_alloc | apply pw_below_drewN | apply below_drew1 | refine below_set ?_ GE159.out) | exact HB.out)⟩

/-! ### cutroomref02_Bits: function 63 -/
def cutroomref02_Bits.l0 : Nat → Int → List Int → Int → Option (List Int)
  | 0, _, _, _ => none
  | k + 1, x0, x5, x6 => if x6 ≥ 0 then (if 0 ≤ (IntKind.u64.wrap (x6)) then (if x5.length < 140737488355328 then (cutroomref02_Bits.l0 k x0 (x5 ++ [(Go.bits .and .u32 (shr .u32 x0 (IntKind.u64.wrap (x6))) 1) % 256]) (wrap64 (x6 - 1))) else (none)) else (none)) else (some x5)
def cutroomref02_Bits.f (k : Nat) (a0 : Int) (a1 : Int) : Option (List Int) := cutroomref02_Bits.l0 k a0 ([] : List Int) (wrap64 (a1 - 1))
theorem cutroomref02_Bits.mono_l : ∀ k, (∀ y0 y1 y2, LeO (cutroomref02_Bits.l0 k y0 y1 y2) (cutroomref02_Bits.l0 (k + 1) y0 y1 y2))
  | 0 => fun _ _ _ r h => by simp [cutroomref02_Bits.l0] at h
  | k + 1 => by
    have ih0 := cutroomref02_Bits.mono_l k
    · intro y0 y1 y2
      unfold cutroomref02_Bits.l0
      repeat' first
      | (with_reducible exact ih0 _ _ _)
      | (with_reducible exact LeO.refl _)
      | (with_reducible exact LeO.none _)
      | (with_reducible refine LeO.ite ?_ ?_)
      | (with_reducible refine LeO.bind ?_ (fun _ => ?_))
      | exact ih0 _ _ _
      | exact LeO.none _
      | refine LeO.ite ?_ ?_
      | refine LeO.bind ?_ (fun _ => ?_)
theorem cutroomref02_Bits.mono : ∀ a0 a1 k, LeO (cutroomref02_Bits.f k a0 a1) (cutroomref02_Bits.f (k + 1) a0 a1) := by
  intro a0 a1 k
  have ih0 := cutroomref02_Bits.mono_l k
  unfold cutroomref02_Bits.f
  repeat' first
      | (with_reducible exact ih0 _ _ _)
      | (with_reducible exact LeO.refl _)
      | (with_reducible exact LeO.none _)
      | (with_reducible refine LeO.ite ?_ ?_)
      | (with_reducible refine LeO.bind ?_ (fun _ => ?_))
      | exact ih0 _ _ _
      | exact LeO.none _
      | refine LeO.ite ?_ ?_
      | refine LeO.bind ?_ (fun _ => ?_)
set_option maxHeartbeats 8000000 in
set_option maxRecDepth 100000 in
theorem cutroomref02_Bits.calls (k : Nat) (a0 : Int) (a1 : Int) (r : List Int) (w : World) (h : cutroomref02_Bits.f k a0 a1 = some r) :
    Calls Try.prog 63 #[.int .u32 a0, .int .i64 a1] w fun e w' => ∃ v0_ : Value, e = .returned (v0_) ∧ Kd.R (Kd.int .u8) 5 w' w.heap.size (fun _ => True) v0_ r ∧ Below w.heap.size w w' := by
  have HB := Aside0.mk (Below.refl w.heap.size w)
  have H : (cutroomref02_Bits.l0 k a0 ([] : List Int) (wrap64 (a1 - 1))) = some r := h
  clear h
  have H' := Aside0.mk H
  clear H
  go_enter Try.func63, Try.ntmps63
  go_wp2
  go_loopg [5, 6] k (fun kq v5 v6 w' => ∃ (x5_1 : List Int) (x6_1 : Int), v6 = .int .i64 x6_1 ∧ Aside0 (cutroomref02_Bits.l0 kq a0 x5_1 x6_1 = some r) ∧ Aside0 (kq ≤ k) ∧ Aside0 (Kd.R (Kd.int .u8) 5 w' w.heap.size (fun _ => True) v5 x5_1) ∧ Aside0 (Below w.heap.size w w'))
  case atStart => exact ⟨(([] : List Int)), (wrap64 (a1 - 1)), (by first | rfl | (simp; done) | (simp [*]; done)), H', ⟨Nat.le_refl _⟩, ⟨by first | exact Kd.R_nil _ _ _ _ _ | exact Kd.N_nil _ _ _ _ _ | exact Kd.V_nil _ _ _ _ _ | exact Kd.Q_nil _ _ _ _ _ | exact Kd.S_nil _ _ _ _ _⟩, ⟨by repeat (first | (with_reducible first | exact HB.out | apply below_alloc | apply pw_below_drewN | apply below_drew1) | exact HB.out)⟩⟩
  case round =>
    clear H'
    try clear p2
    obtain ⟨x5_1, x6_1, rfl, HA, HK1, HO_5, HB⟩ := hrel
    cases gk with
    | zero => exact absurd HA.out (by simp [cutroomref02_Bits.l0])
    | succ k1 =>
      have H := HA.out
      clear HA
      simp only [cutroomref02_Bits.l0] at H
      by_cases c3 : x6_1 ≥ 0
      · rw [if_pos c3] at H
        have c3b0 : decide (0 ≤ x6_1) = true := decide_eq_true c3
        clear c3
        obtain ⟨ji4, hji4⟩ : ∃ j_ : Int, (IntKind.u64.wrap (x6_1)) = j_ := ⟨_, rfl⟩
        replace H : (if 0 ≤ (ji4) then (if x5_1.length < 140737488355328 then (cutroomref02_Bits.l0 k1 a0 (x5_1 ++ [(Go.bits .and .u32 (shr .u32 a0 (ji4)) 1) % 256]) (wrap64 (x6_1 - 1))) else (none)) else (none)) = some r := by first | (rw [hji4] at H; exact H) | (simp only [hji4] at H ⊢; exact H)
        by_cases c5 : 0 ≤ (ji4)
        · rw [if_pos c5] at H
          have c5b0 := eq_true c5
          have c5b1 : decide (0 ≤ (ji4)) = true := decide_eq_true c5
          clear c5
          obtain ⟨ji6, hji6⟩ : ∃ j_ : Int, (shr .u32 a0 (ji4)) = j_ := ⟨_, rfl⟩
          replace H : (if x5_1.length < 140737488355328 then (cutroomref02_Bits.l0 k1 a0 (x5_1 ++ [(Go.bits .and .u32 (ji6) 1) % 256]) (wrap64 (x6_1 - 1))) else (none)) = some r := by first | (rw [hji6] at H; exact H) | (simp only [hji6] at H ⊢; exact H)
          have hji6_ : (a0 / 2 ^ min (ji4).toNat 32) = ji6 := hji6
          have hji6z : (ji4) ≤ 32 → (a0 / 2 ^ (ji4).toNat) = ji6 := shr_small hji6
          by_cases c7 : x5_1.length < 140737488355328
          · rw [if_pos c7] at H
            have LMc7 := Aside0.mk c7
            clear c7
            obtain ⟨y162, hy162⟩ : ∃ y_ : List Int, y_ = (x5_1 ++ [(Go.bits .and .u32 (ji6) 1) % 256]) := ⟨_, rfl⟩
            replace H : (cutroomref02_Bits.l0 k1 a0 y162 (wrap64 (x6_1 - 1))) = some r := by first | (rw [hy162]; with_reducible exact H) | (have H2_ := (Option.bind_some _ _).symm.trans H; rw [hy162]; with_reducible exact H2_) | (have H2_ := (Option.bind_some _ _).symm.trans H; with_reducible exact H2_) | with_reducible exact H | (rw [hy162]; exact H) | exact H
            have Ny162 := Aside0.mk hy162
            clear hy162
            have H' := Aside0.mk H
            clear H
            go_wp2_with (first | ((with_reducible refine gate_builtin (b := .append) (xs := #[.tmp 13, .tmp 20]) rfl ?_); at_builtin; refine Kd.R_append (Kd.int .u8) (w0 := w) w.heap.size rfl (.tmp 13) (.tmp 20) 27 5 (.int .u8 0) 1 rfl Try.underlying27 info5 rfl (by decide) (by omega) u5 x5_1 ((Go.bits .and .u32 (ji6) 1) % 256) [.int .u8 ((Go.bits .and .u32 (ji6) 1) % 256)] (fun _ => True) (fun _ => False) rfl rfl ?aP (fun _ hk => hk.elim) ?aF ?aO ?aB ?aS ?aL ?_; (case aP => exact rfl); (case aB => exact (by repeat (first | (with_reducible first | exact HB.out | apply below_alloc | apply pw_below_drewN | apply below_drew1) | exact HB.out))); (case aF => exact (fun _ _ => trivial)); (case aO => exact (by (with_reducible repeat (first | apply Kd.R_alloc | apply Kd.R_drewN | apply Kd.R_drew)); exact HO_5.out)); (case aS => exact (below_size (by repeat (first | (with_reducible first | exact HB.out | apply below_alloc | apply pw_below_drewN | apply below_drew1) | exact HB.out)))); (case aL => have := LMc7.out; omega); intro v163 w8 ho hb hg hat; rw [← Ny162.out] at ho; have n0_ := Aside0.mk (hb); have n1_ := Aside0.mk (ho); clear HB; clear HO_5; have HB := n0_; have HO164 := n1_; clear n0_ n1_; clear ho hb hg hat))
            go_roundg k1
            case measure => have := HK1.out; omega
            case rel => exact ⟨(y162), (wrap64 (x6_1 - 1)), (by first | rfl | (simp; done) | (simp [*]; done)), H', ⟨by have := HK1.out; omega⟩, ⟨by (with_reducible repeat (first | apply Kd.R_alloc | apply Kd.R_drewN | apply Kd.R_drew)); exact HO164.out⟩, ⟨by repeat (first | (with_reducible first | exact HB.out | apply below_alloc | apply pw_below_drewN | apply below_drew1) | exact HB.out)⟩⟩
          · rw [if_neg c7] at H
            exact absurd H (by simp)
        · rw [if_neg c5] at H
          exact absurd H (by simp)
      · rw [if_neg c3] at H
        have c3b0 : decide (0 ≤ x6_1) = false := decide_eq_false c3
        clear c3
        obtain rfl := Option.some.inj H
        go_wp2
        go_ret
        exact ⟨_, by first | rfl | (simp [errW_none, errW_some] <;> rfl) | (simp [*, errW_none, errW_some] <;> rfl), by (with_reducible repeat (first | apply Kd.R_alloc | apply Kd.R_drewN | apply Kd.R_drew)); exact HO_5.out, by repeat (first | (with_reducible first | exact HB.out | apply below_alloc | apply pw_below_drewN | apply below_drew1) | exact HB.out)⟩

/-! ### cutroomref02_Payload: function 64 -/
def cutroomref02_Payload.l0 : Nat → List Int → List Int → Int → Option (List Int)
  | 0, _, _, _ => none
  | k + 1, x0, x3, x4 => if x4 ≤ (x0.length : Int) then (if x4 = (x0.length : Int) then (if 0 ≤ (wrap64 (Int.tdiv x4 8)) then (if (wrap64 (Int.tdiv x4 8)) < (x3.length : Int) then (if 0 ≤ (IntKind.u64.wrap (Int.tmod x4 8)) then (cutroomref02_Payload.l0 k x0 (x3.set ((wrap64 (Int.tdiv x4 8)) : Int).toNat (Go.bits .or .u8 (rd x3 (wrap64 (Int.tdiv x4 8))) (shr .u8 128 (IntKind.u64.wrap (Int.tmod x4 8))))) (wrap64 (x4 + 1))) else (none)) else (none)) else (none)) else (if 0 ≤ x4 then (if x4 < (x0.length : Int) then (if (rd x0 x4) = 1 then (if 0 ≤ (wrap64 (Int.tdiv x4 8)) then (if (wrap64 (Int.tdiv x4 8)) < (x3.length : Int) then (if 0 ≤ (IntKind.u64.wrap (Int.tmod x4 8)) then (cutroomref02_Payload.l0 k x0 (x3.set ((wrap64 (Int.tdiv x4 8)) : Int).toNat (Go.bits .or .u8 (rd x3 (wrap64 (Int.tdiv x4 8))) (shr .u8 128 (IntKind.u64.wrap (Int.tmod x4 8))))) (wrap64 (x4 + 1))) else (none)) else (none)) else (none)) else (cutroomref02_Payload.l0 k x0 x3 (wrap64 (x4 + 1)))) else (none)) else (none))) else (some x3)
def cutroomref02_Payload.f (k : Nat) (l0 : List Int) : Option (List Int) := if 0 ≤ (wrap64 ((wrap64 ((l0.length : Int) / 8)) + 1)) then (if (wrap64 ((wrap64 ((l0.length : Int) / 8)) + 1) : Int).toNat ≤ 281474976710656 then (cutroomref02_Payload.l0 k l0 (List.replicate (wrap64 ((wrap64 ((l0.length : Int) / 8)) + 1) : Int).toNat 0) 0) else (none)) else (none)
theorem cutroomref02_Payload.mono_l : ∀ k, (∀ y0 y1 y2, LeO (cutroomref02_Payload.l0 k y0 y1 y2) (cutroomref02_Payload.l0 (k + 1) y0 y1 y2))
  | 0 => fun _ _ _ r h => by simp [cutroomref02_Payload.l0] at h
  | k + 1 => by
    have ih0 := cutroomref02_Payload.mono_l k
    · intro y0 y1 y2
      unfold cutroomref02_Payload.l0
      repeat' first
      | (with_reducible exact ih0 _ _ _)
      | (with_reducible exact LeO.refl _)
      | (with_reducible exact LeO.none _)
      | (with_reducible refine LeO.ite ?_ ?_)
      | (with_reducible refine LeO.bind ?_ (fun _ => ?_))
      | exact ih0 _ _ _
      | exact LeO.none _
      | refine LeO.ite ?_ ?_
      | refine LeO.bind ?_ (fun _ => ?_)
theorem cutroomref02_Payload.mono : ∀ a0 k, LeO (cutroomref02_Payload.f k a0) (cutroomref02_Payload.f (k + 1) a0) := by
  intro a0 k
  have ih0 := cutroomref02_Payload.mono_l k
  unfold cutroomref02_Payload.f
  repeat' first
      | (with_reducible exact ih0 _ _ _)
      | (with_reducible exact LeO.refl _)
      | (with_reducible exact LeO.none _)
      | (with_reducible refine LeO.ite ?_ ?_)
      | (with_reducible refine LeO.bind ?_ (fun _ => ?_))
      | exact ih0 _ _ _
      | exact LeO.none _
      | refine LeO.ite ?_ ?_
      | refine LeO.bind ?_ (fun _ => ?_)
set_option maxHeartbeats 8000000 in
set_option maxRecDepth 100000 in
theorem cutroomref02_Payload.calls (k : Nat) (A0 : Option Addr) (c0 : Nat) (l0 : List Int) (r : List Int) (w : World) (hr0 : Kd.C (Kd.int .u8) w A0 l0.length l0) (hc0 : l0.length ≤ c0) (h : cutroomref02_Payload.f k l0 = some r) :
    Calls Try.prog 64 #[.slice A0 l0.length c0] w fun e w' => ∃ v0_ : Value, e = .returned (v0_) ∧ Kd.R (Kd.int .u8) 5 w' w.heap.size (fun _ => True) v0_ r ∧ Below w.heap.size w w' := by
  have HR0 := Aside0.mk hr0
  have HC0 := Aside0.mk hc0
  clear hr0 hc0
  have HB := Aside0.mk (Below.refl w.heap.size w)
  have H : (if 0 ≤ (wrap64 ((wrap64 ((l0.length : Int) / 8)) + 1)) then (if (wrap64 ((wrap64 ((l0.length : Int) / 8)) + 1) : Int).toNat ≤ 281474976710656 then (cutroomref02_Payload.l0 k l0 (List.replicate (wrap64 ((wrap64 ((l0.length : Int) / 8)) + 1) : Int).toNat 0) 0) else (none)) else (none)) = some r := h
  clear h
  obtain ⟨ji2, hji2⟩ : ∃ j_ : Int, (wrap64 ((wrap64 ((l0.length : Int) / 8)) + 1)) = j_ := ⟨_, rfl⟩
  replace H : (if 0 ≤ (ji2) then (if (ji2 : Int).toNat ≤ 281474976710656 then (cutroomref02_Payload.l0 k l0 (List.replicate (ji2 : Int).toNat 0) 0) else (none)) else (none)) = some r := by first | (rw [hji2] at H; exact H) | (simp only [hji2] at H ⊢; exact H)
  have hji2w : (IntKind.i64.wrap ((wrap64 ((l0.length : Int) / 8)) + 1)) = ji2 := (i64_w _).trans hji2
  by_cases c3 : 0 ≤ (ji2)
  · rw [if_pos c3] at H
    have c3b0 := eq_true c3
    have c3b1 : decide (0 ≤ (ji2)) = true := decide_eq_true c3
    clear c3
    by_cases c4 : (ji2 : Int).toNat ≤ 281474976710656
    · rw [if_pos c4] at H
      have c4b0 := eq_true c4
      have c4b1 : decide ((ji2 : Int).toNat ≤ 281474976710656) = true := decide_eq_true c4
      clear c4
      obtain ⟨y165, hy165⟩ : ∃ y_ : List Int, y_ = (List.replicate (ji2 : Int).toNat 0) := ⟨_, rfl⟩
      replace H : (cutroomref02_Payload.l0 k l0 y165 0) = some r := by first | (rw [hy165]; with_reducible exact H) | (have H2_ := (Option.bind_some _ _).symm.trans H; rw [hy165]; with_reducible exact H2_) | (have H2_ := (Option.bind_some _ _).symm.trans H; with_reducible exact H2_) | with_reducible exact H | (rw [hy165]; exact H) | exact H
      have Ny165 := Aside0.mk hy165
      clear hy165
      have H' := Aside0.mk H
      clear H
      go_enter Try.func64, Try.ntmps64
      go_wp2_with (first | ((with_reducible refine gate_dst (N := 9) rfl ?_); refine Kd.R_make (Kd.int .u8) _ 5 rfl (N := 9) rfl 27 _ _ rfl ji2 rfl rfl Try.underlying27 (.int .u8 0) 1 info5 rfl (by decide) (by omega) 0 (ok := fun _ => True) (okp := fun _ => True) rfl (fun _ hk => hk) trivial (of_decide_eq_true (by first | (with_reducible assumption) | assumption)) (Nat.le_trans (Nat.mul_le_mul_right _ (of_decide_eq_true (by first | (with_reducible assumption) | assumption) : ji2.toNat ≤ 281474976710656)) (by omega)) (Below.refl _ _) (Nat.le_refl _) ?_; intro v166 w5 ho6 hb hg_ hnew_; clear hg_ hnew_; (first | rw [← Ny165.out] at ho6 | (simp only [Int.reduceToNat] at ho6; rw [← Ny165.out] at ho6)); have n0_ := Aside0.mk (Kd.R_lower ho6 (below_size (by repeat (first | (with_reducible first | exact HB.out | apply below_alloc | apply pw_below_drewN | apply below_drew1) | exact HB.out)))); have n1_ := Aside0.mk (below_step (by repeat (first | (with_reducible first | exact HB.out | apply below_alloc | apply pw_below_drewN | apply below_drew1) | exact HB.out)) hb); clear HB; have HO167 := n0_; have HB := n1_; clear n0_ n1_; clear hb ho6))
      go_loopg [4] k (fun kq v4 w' => ∃ (x3_1 : List Int) (x4_1 : Int), v4 = .int .i64 x4_1 ∧ Aside0 (cutroomref02_Payload.l0 kq l0 x3_1 x4_1 = some r) ∧ Aside0 (kq ≤ k) ∧ Aside0 (Kd.R (Kd.int .u8) 5 w' w.heap.size (fun _ => True) v166 x3_1) ∧ Aside0 (Below w.heap.size w w'))
      case atStart => exact ⟨(y165), (0), (by first | rfl | (simp; done) | (simp [*]; done)), H', ⟨Nat.le_refl _⟩, ⟨by (with_reducible repeat (first | apply Kd.R_alloc | apply Kd.R_drewN | apply Kd.R_drew)); exact HO167.out⟩, ⟨by repeat (first | (with_reducible first | exact HB.out | apply below_alloc | apply pw_below_drewN | apply below_drew1) | exact HB.out)⟩⟩
      case round =>
        clear H'
        try clear p2
        try clear c3
        try clear c3b0
        try clear c3b1
        try clear c4
        try clear c4b0
        try clear c4b1
        try clear c6
        try clear p6
        obtain ⟨x3_1, x4_1, rfl, HA, HK1, HO_3, HB⟩ := hrel
        cases gk with
        | zero => exact absurd HA.out (by simp [cutroomref02_Payload.l0])
        | succ k1 =>
          have H := HA.out
          clear HA
          simp only [cutroomref02_Payload.l0] at H
          by_cases c7 : x4_1 ≤ (l0.length : Int)
          · rw [if_pos c7] at H
            have c7b0 : decide (x4_1 ≤ (l0.length : Int)) = true := decide_eq_true c7
            clear c7
            by_cases c8 : x4_1 = (l0.length : Int)
            · rw [if_pos c8] at H
              have c8b0 : (x4_1 == (l0.length : Int)) = true := beq_iff_eq.mpr c8
              have c8b1 : (x4_1 != (l0.length : Int)) = false := bne_eq_false_iff_eq.mpr c8
              clear c8
              obtain ⟨ji9, hji9⟩ : ∃ j_ : Int, (wrap64 (Int.tdiv x4_1 8)) = j_ := ⟨_, rfl⟩
              replace H : (if 0 ≤ (ji9) then (if (ji9) < (x3_1.length : Int) then (if 0 ≤ (IntKind.u64.wrap (Int.tmod x4_1 8)) then (cutroomref02_Payload.l0 k1 l0 (x3_1.set ((ji9) : Int).toNat (Go.bits .or .u8 (rd x3_1 (ji9)) (shr .u8 128 (IntKind.u64.wrap (Int.tmod x4_1 8))))) (wrap64 (x4_1 + 1))) else (none)) else (none)) else (none)) = some r := by first | (rw [hji9] at H; exact H) | (simp only [hji9] at H ⊢; exact H)
              have hji9w : (IntKind.i64.wrap (Int.tdiv x4_1 8)) = ji9 := (i64_w _).trans hji9
              by_cases c10 : 0 ≤ (ji9)
              · rw [if_pos c10] at H
                have c10b0 : decide (0 ≤ (ji9)) = true := decide_eq_true c10
                clear c10
                by_cases c11 : (ji9) < (x3_1.length : Int)
                · rw [if_pos c11] at H
                  have c11b0 : decide ((ji9) < (x3_1.length : Int)) = true := decide_eq_true c11
                  clear c11
                  obtain ⟨ji12, hji12⟩ : ∃ j_ : Int, (IntKind.u64.wrap (Int.tmod x4_1 8)) = j_ := ⟨_, rfl⟩
                  replace H : (if 0 ≤ (ji12) then (cutroomref02_Payload.l0 k1 l0 (x3_1.set ((ji9) : Int).toNat (Go.bits .or .u8 (rd x3_1 (ji9)) (shr .u8 128 (ji12)))) (wrap64 (x4_1 + 1))) else (none)) = some r := by first | (rw [hji12] at H; exact H) | (simp only [hji12] at H ⊢; exact H)
                  by_cases c13 : 0 ≤ (ji12)
                  · rw [if_pos c13] at H
                    have c13b0 := eq_true c13
                    have c13b1 : decide (0 ≤ (ji12)) = true := decide_eq_true c13
                    clear c13
                    obtain ⟨ji14, hji14⟩ : ∃ j_ : Int, (shr .u8 128 (ji12)) = j_ := ⟨_, rfl⟩
                    replace H : (cutroomref02_Payload.l0 k1 l0 (x3_1.set ((ji9) : Int).toNat (Go.bits .or .u8 (rd x3_1 (ji9)) (ji14))) (wrap64 (x4_1 + 1))) = some r := by first | (rw [hji14] at H; exact H) | (simp only [hji14] at H ⊢; exact H)
                    have hji14_ : (128 / 2 ^ min (ji12).toNat 8) = ji14 := hji14
                    have hji14z : (ji12) ≤ 8 → (128 / 2 ^ (ji12).toNat) = ji14 := shr_small hji14
                    obtain ⟨y170, hy170⟩ : ∃ y_ : List Int, y_ = (x3_1.set ((ji9) : Int).toNat (Go.bits .or .u8 (rd x3_1 (ji9)) (ji14))) := ⟨_, rfl⟩
                    replace H : (cutroomref02_Payload.l0 k1 l0 y170 (wrap64 (x4_1 + 1))) = some r := by first | (rw [hy170]; with_reducible exact H) | (have H2_ := (Option.bind_some _ _).symm.trans H; rw [hy170]; with_reducible exact H2_) | (have H2_ := (Option.bind_some _ _).symm.trans H; with_reducible exact H2_) | with_reducible exact H | (rw [hy170]; exact H) | exact H
                    have Ny170 := Aside0.mk hy170
                    clear hy170
                    have H' := Aside0.mk H
                    clear H
                    obtain ⟨Ao16, co16, eo16⟩ := Kd.R_slice HO_3.out
                    subst eo16
                    have p169 : 0 ≤ ((ji9) : Int) := of_decide_eq_true (by first | (with_reducible assumption) | assumption)
                    have q169 : (ji9) < (x3_1.length : Int) := of_decide_eq_true (by first | (with_reducible assumption) | assumption)
                    obtain ⟨ad169, e169, hx169_0⟩ := Kd.at_int (Kd.R_reads' HO_3.out).2.2 (ji9) p169 q169
                    cases e169
                    replace p169 := eq_true p169
                    replace q169 := eq_true q169
                    have p15 : 0 ≤ ((ji9) : Int) := of_decide_eq_true (by first | (with_reducible assumption) | assumption)
                    have q15 : ((ji9) : Int) < ((x3_1.length : Int) : Int) := of_decide_eq_true (by first | (with_reducible assumption) | assumption)
                    obtain ⟨go15, co15, eo15, gb15, gl15, cl15, HG15⟩ := Kd.R_form HO_3.out (by omega)
                    (first | cases eo15 | (injection eo15 with ea_ en_ ec_; (first | subst ea_ | (injection ea_ with ea_; subst ea_)); subst ec_; clear en_))
                    have GB15 := Aside0.mk gb15
                    have GG15 := Aside0.mk HG15
                    clear gb15 gl15 HG15
                    (first | simp only [add_plain] at hx169_0 | skip)
                    obtain ⟨hx15_0, hf15_0⟩ := Kd.R_celln 0 HO_3.out ((ji9) : Int) p15 q15
                    replace p15 := eq_true p15
                    replace q15 := eq_true q15
                    have HP17 := Kd.R_putg HO_3.out ((ji9) : Int) (Go.bits .or .u8 (rd x3_1 (ji9)) (ji14))
                    go_wp2_with (first | ((with_reducible refine gate_store (t := 5) (p := 37) rfl ?_); refine store_event (t := 5) (p := 37) (v := ?vo_w18) (w1 := (wr.setCell ⟨go15, ((ji9) : Int).toNat, none⟩ (.int .u8 (Go.bits .or .u8 (rd x3_1 (ji9)) (ji14))))) ?hg ?ho ?hn ?hr ?_; (case ho => rfl); (case hg => rfl); (case hn => rfl); (case hr => first | (go_simp; done) | (go_simp; rfl)); intro w18 hw; have hg : wr.grownBy w18 (some go15) := (by rw [hw]; exact HP17.2); have hp_ : Kd.R (Kd.int .u8) 5 w18 w.heap.size (fun _ => True) (.slice (some ⟨go15, 0, none⟩) x3_1.length co16) y170 := (by rw [hw, Ny170.out]; exact HP17.1); clear HP17; have n0_ := Aside0.mk (hp_); have n1_ := Aside0.mk ((by rw [hw]; exact below_set (HB.out) GB15.out : Below w.heap.size w w18)); clear HO_3; clear HB; have HO_3 := n0_; have HB := n1_; clear n0_ n1_; clear hg hw hp_))
                    go_roundg k1
                    case measure => have := HK1.out; omega
                    case rel => exact ⟨(y170), (wrap64 (x4_1 + 1)), (by first | rfl | (simp; done) | (simp [*]; done)), H', ⟨by have := HK1.out; omega⟩, ⟨by (with_reducible repeat (first | apply Kd.R_alloc | apply Kd.R_drewN | apply Kd.R_drew)); exact HO_3.out⟩, ⟨by repeat (first | (with_reducible first | exact HB.out | apply below_alloc | apply pw_below_drewN | apply below_drew1) | exact HB.out)⟩⟩
                  · rw [if_neg c13] at H
                    exact absurd H (by simp)
                · rw [if_neg c11] at H
                  exact absurd H (by simp)
              · rw [if_neg c10] at H
                exact absurd H (by simp)
            · rw [if_neg c8] at H
              have c8b0 : (x4_1 == (l0.length : Int)) = false := beq_eq_false_iff_ne.mpr c8
              have c8b1 : (x4_1 != (l0.length : Int)) = true := bne_iff_ne.mpr c8
              by_cases c19 : 0 ≤ x4_1
              · rw [if_pos c19] at H
                have c19b0 : decide (0 ≤ x4_1) = true := decide_eq_true c19
                clear c19
                by_cases c20 : x4_1 < (l0.length : Int)
                · rw [if_pos c20] at H
                  have c20b0 : decide (x4_1 < (l0.length : Int)) = true := decide_eq_true c20
                  clear c20
                  by_cases c21 : (rd l0 x4_1) = 1
                  · rw [if_pos c21] at H
                    have c21b0 : ((rd l0 x4_1) == 1) = true := beq_iff_eq.mpr c21
                    have c21b1 : ((rd l0 x4_1) != 1) = false := bne_eq_false_iff_eq.mpr c21
                    clear c21
                    obtain ⟨ji22, hji22⟩ : ∃ j_ : Int, (wrap64 (Int.tdiv x4_1 8)) = j_ := ⟨_, rfl⟩
                    replace H : (if 0 ≤ (ji22) then (if (ji22) < (x3_1.length : Int) then (if 0 ≤ (IntKind.u64.wrap (Int.tmod x4_1 8)) then (cutroomref02_Payload.l0 k1 l0 (x3_1.set ((ji22) : Int).toNat (Go.bits .or .u8 (rd x3_1 (ji22)) (shr .u8 128 (IntKind.u64.wrap (Int.tmod x4_1 8))))) (wrap64 (x4_1 + 1))) else (none)) else (none)) else (none)) = some r := by first | (rw [hji22] at H; exact H) | (simp only [hji22] at H ⊢; exact H)
                    have hji22w : (IntKind.i64.wrap (Int.tdiv x4_1 8)) = ji22 := (i64_w _).trans hji22
                    by_cases c23 : 0 ≤ (ji22)
                    · rw [if_pos c23] at H
                      have c23b0 : decide (0 ≤ (ji22)) = true := decide_eq_true c23
                      clear c23
                      by_cases c24 : (ji22) < (x3_1.length : Int)
                      · rw [if_pos c24] at H
                        have c24b0 : decide ((ji22) < (x3_1.length : Int)) = true := decide_eq_true c24
                        clear c24
                        obtain ⟨ji25, hji25⟩ : ∃ j_ : Int, (IntKind.u64.wrap (Int.tmod x4_1 8)) = j_ := ⟨_, rfl⟩
                        replace H : (if 0 ≤ (ji25) then (cutroomref02_Payload.l0 k1 l0 (x3_1.set ((ji22) : Int).toNat (Go.bits .or .u8 (rd x3_1 (ji22)) (shr .u8 128 (ji25)))) (wrap64 (x4_1 + 1))) else (none)) = some r := by first | (rw [hji25] at H; exact H) | (simp only [hji25] at H ⊢; exact H)
                        by_cases c26 : 0 ≤ (ji25)
                        · rw [if_pos c26] at H
                          have c26b0 := eq_true c26
                          have c26b1 : decide (0 ≤ (ji25)) = true := decide_eq_true c26
                          clear c26
                          obtain ⟨ji27, hji27⟩ : ∃ j_ : Int, (shr .u8 128 (ji25)) = j_ := ⟨_, rfl⟩
                          replace H : (cutroomref02_Payload.l0 k1 l0 (x3_1.set ((ji22) : Int).toNat (Go.bits .or .u8 (rd x3_1 (ji22)) (ji27))) (wrap64 (x4_1 + 1))) = some r := by first | (rw [hji27] at H; exact H) | (simp only [hji27] at H ⊢; exact H)
                          have hji27_ : (128 / 2 ^ min (ji25).toNat 8) = ji27 := hji27
                          have hji27z : (ji25) ≤ 8 → (128 / 2 ^ (ji25).toNat) = ji27 := shr_small hji27
                          obtain ⟨y172, hy172⟩ : ∃ y_ : List Int, y_ = (x3_1.set ((ji22) : Int).toNat (Go.bits .or .u8 (rd x3_1 (ji22)) (ji27))) := ⟨_, rfl⟩
                          replace H : (cutroomref02_Payload.l0 k1 l0 y172 (wrap64 (x4_1 + 1))) = some r := by first | (rw [hy172]; with_reducible exact H) | (have H2_ := (Option.bind_some _ _).symm.trans H; rw [hy172]; with_reducible exact H2_) | (have H2_ := (Option.bind_some _ _).symm.trans H; with_reducible exact H2_) | with_reducible exact H | (rw [hy172]; exact H) | exact H
                          have Ny172 := Aside0.mk hy172
                          clear hy172
                          have H' := Aside0.mk H
                          clear H
                          have p168 : 0 ≤ (x4_1 : Int) := of_decide_eq_true (by first | (with_reducible assumption) | assumption)
                          have q168 : x4_1 < (l0.length : Int) := of_decide_eq_true (by first | (with_reducible assumption) | assumption)
                          obtain ⟨ad168, e168, hx168_0⟩ := Kd.at_int HR0.out x4_1 p168 q168
                          cases e168
                          replace hx168_0 := (HB.out.cell (World.block_lt_of_cell? w _ hx168_0)).trans hx168_0
                          replace p168 := eq_true p168
                          replace q168 := eq_true q168
                          obtain ⟨Ao29, co29, eo29⟩ := Kd.R_slice HO_3.out
                          subst eo29
                          have p171 : 0 ≤ ((ji22) : Int) := of_decide_eq_true (by first | (with_reducible assumption) | assumption)
                          have q171 : (ji22) < (x3_1.length : Int) := of_decide_eq_true (by first | (with_reducible assumption) | assumption)
                          obtain ⟨ad171, e171, hx171_0⟩ := Kd.at_int (Kd.R_reads' HO_3.out).2.2 (ji22) p171 q171
                          cases e171
                          replace p171 := eq_true p171
                          replace q171 := eq_true q171
                          have p28 : 0 ≤ ((ji22) : Int) := of_decide_eq_true (by first | (with_reducible assumption) | assumption)
                          have q28 : ((ji22) : Int) < ((x3_1.length : Int) : Int) := of_decide_eq_true (by first | (with_reducible assumption) | assumption)
                          obtain ⟨go28, co28, eo28, gb28, gl28, cl28, HG28⟩ := Kd.R_form HO_3.out (by omega)
                          (first | cases eo28 | (injection eo28 with ea_ en_ ec_; (first | subst ea_ | (injection ea_ with ea_; subst ea_)); subst ec_; clear en_))
                          have GB28 := Aside0.mk gb28
                          have GG28 := Aside0.mk HG28
                          clear gb28 gl28 HG28
                          (first | simp only [add_plain] at hx171_0 | skip)
                          obtain ⟨hx28_0, hf28_0⟩ := Kd.R_celln 0 HO_3.out ((ji22) : Int) p28 q28
                          replace p28 := eq_true p28
                          replace q28 := eq_true q28
                          have HP30 := Kd.R_putg HO_3.out ((ji22) : Int) (Go.bits .or .u8 (rd x3_1 (ji22)) (ji27))
                          go_wp2_with (first | ((with_reducible refine gate_store (t := 5) (p := 37) rfl ?_); refine store_event (t := 5) (p := 37) (v := ?vo_w31) (w1 := (wr.setCell ⟨go28, ((ji22) : Int).toNat, none⟩ (.int .u8 (Go.bits .or .u8 (rd x3_1 (ji22)) (ji27))))) ?hg ?ho ?hn ?hr ?_; (case ho => rfl); (case hg => rfl); (case hn => rfl); (case hr => first | (go_simp; done) | (go_simp; rfl)); intro w31 hw; have hg : wr.grownBy w31 (some go28) := (by rw [hw]; exact HP30.2); have hp_ : Kd.R (Kd.int .u8) 5 w31 w.heap.size (fun _ => True) (.slice (some ⟨go28, 0, none⟩) x3_1.length co29) y172 := (by rw [hw, Ny172.out]; exact HP30.1); clear HP30; have n0_ := Aside0.mk (hp_); have n1_ := Aside0.mk ((by rw [hw]; exact below_set (HB.out) GB28.out : Below w.heap.size w w31)); clear HO_3; clear HB; have HO_3 := n0_; have HB := n1_; clear n0_ n1_; clear hg hw hp_))
                          go_roundg k1
                          case measure => have := HK1.out; omega
                          case rel => exact ⟨(y172), (wrap64 (x4_1 + 1)), (by first | rfl | (simp; done) | (simp [*]; done)), H', ⟨by have := HK1.out; omega⟩, ⟨by (with_reducible repeat (first | apply Kd.R_alloc | apply Kd.R_drewN | apply Kd.R_drew)); exact HO_3.out⟩, ⟨by repeat (first | (with_reducible first | exact HB.out | apply below_alloc | apply pw_below_drewN | apply below_drew1) | exact HB.out)⟩⟩
                        · rw [if_neg c26] at H
                          exact absurd H (by simp)
                      · rw [if_neg c24] at H
                        exact absurd H (by simp)
                    · rw [if_neg c23] at H
                      exact absurd H (by simp)
                  · rw [if_neg c21] at H
                    have c21b0 : ((rd l0 x4_1) == 1) = false := beq_eq_false_iff_ne.mpr c21
                    have c21b1 : ((rd l0 x4_1) != 1) = true := bne_iff_ne.mpr c21
                    have H' := Aside0.mk H
                    clear H
                    have p168 : 0 ≤ (x4_1 : Int) := of_decide_eq_true (by first | (with_reducible assumption) | assumption)
                    have q168 : x4_1 < (l0.length : Int) := of_decide_eq_true (by first | (with_reducible assumption) | assumption)
                    obtain ⟨ad168, e168, hx168_0⟩ := Kd.at_int HR0.out x4_1 p168 q168
                    cases e168
                    replace hx168_0 := (HB.out.cell (World.block_lt_of_cell? w _ hx168_0)).trans hx168_0
                    replace p168 := eq_true p168
                    replace q168 := eq_true q168
                    go_wp2
                    go_roundg k1
                    case measure => have := HK1.out; omega
                    case rel => exact ⟨(x3_1), (wrap64 (x4_1 + 1)), (by first | rfl | (simp; done) | (simp [*]; done)), H', ⟨by have := HK1.out; omega⟩, ⟨by (with_reducible repeat (first | apply Kd.R_alloc | apply Kd.R_drewN | apply Kd.R_drew)); exact HO_3.out⟩, ⟨by repeat (first | (with_reducible first | exact HB.out | apply below_alloc | apply pw_below_drewN | apply below_drew1) | exact HB.out)⟩⟩
                · rw [if_neg c20] at H
                  exact absurd H (by simp)
              · rw [if_neg c19] at H
                exact absurd H (by simp)
          · rw [if_neg c7] at H
            have c7b0 : decide (x4_1 ≤ (l0.length : Int)) = false := decide_eq_false c7
            clear c7
            obtain rfl := Option.some.inj H
            go_wp2
            go_ret
            exact ⟨_, by first | rfl | (simp [errW_none, errW_some] <;> rfl) | (simp only [← hji2]; first | rfl | (simp [errW_none, errW_some] <;> rfl)) | (simp [*, errW_none, errW_some] <;> rfl), by (with_reducible repeat (first | apply Kd.R_alloc | apply Kd.R_drewN | apply Kd.R_drew)); exact HO_3.out, by repeat (first | (with_reducible first | exact HB.out | apply below_alloc | apply pw_below_drewN | apply below_drew1) | exact HB.out)⟩
    · rw [if_neg c4] at H
      exact absurd H (by simp)
  · rw [if_neg c3] at H
    exact absurd H (by simp)

/-! ### cutroomref16_stamped: function 54 -/
def cutroomref16_stamped.f (k : Nat) (a0 : Int) (a1 : Int) : Option (List Int) := (cutroomref02_Bits.f k a0 4).bind fun t173 => ((cutroomref02_Bits.f k ((Go.bits .and .u64 ((IntKind.u64.wrap (a1)) / 1073741824) 7) % 4294967296) 3).bind fun t176 => (if t173.length + t176.length < 140737488355328 then ((some (t173 ++ t176 : List Int)).bind fun y179 => (if y179.length < 140737488355328 then ((some (y179 ++ [1] : List Int)).bind fun y182 => ((cutroomref02_Bits.f k ((Go.bits .and .u64 ((IntKind.u64.wrap (a1)) / 32768) 32767) % 4294967296) 15).bind fun t185 => (if y182.length + t185.length < 140737488355328 then ((some (y182 ++ t185 : List Int)).bind fun y188 => (if y188.length < 140737488355328 then ((some (y188 ++ [1] : List Int)).bind fun y191 => ((cutroomref02_Bits.f k ((Go.bits .and .u64 (IntKind.u64.wrap (a1)) 32767) % 4294967296) 15).bind fun t194 => (if y191.length + t194.length < 140737488355328 then ((some (y191 ++ t194 : List Int)).bind fun y197 => (if y197.length < 140737488355328 then ((cutroomref02_Payload.f k (y197 ++ [1])).bind fun t203 => (if 5 ≤ (t203.length : Int) then (some (t203.take (5 : Int).toNat)) else (none))) else (none))) else (none)))) else (none))) else (none)))) else (none))) else (none)))
theorem cutroomref16_stamped.mono : ∀ a0 a1 k, LeO (cutroomref16_stamped.f k a0 a1) (cutroomref16_stamped.f (k + 1) a0 a1) := by
  intro a0 a1 k
  unfold cutroomref16_stamped.f
  repeat' first
      | (with_reducible exact cutroomref02_Bits.mono _ _ _)
      | (with_reducible exact cutroomref02_Payload.mono _ _)
      | (with_reducible exact LeO.refl _)
      | (with_reducible exact LeO.none _)
      | (with_reducible refine LeO.ite ?_ ?_)
      | (with_reducible refine LeO.bind ?_ (fun _ => ?_))
      | exact cutroomref02_Bits.mono _ _ _
      | exact cutroomref02_Payload.mono _ _
      | exact LeO.none _
      | refine LeO.ite ?_ ?_
      | refine LeO.bind ?_ (fun _ => ?_)
set_option maxHeartbeats 8000000 in
set_option maxRecDepth 100000 in
theorem cutroomref16_stamped.calls (k : Nat) (a0 : Int) (a1 : Int) (r : List Int) (w : World) (h : cutroomref16_stamped.f k a0 a1 = some r) :
    Calls Try.prog 54 #[.int .u32 a0, .int .i64 a1] w fun e w' => ∃ v0_ : Value, e = .returned (v0_) ∧ Kd.R (Kd.int .u8) 5 w' w.heap.size (fun _ => True) v0_ r ∧ Below w.heap.size w w' := by
  have HB := Aside0.mk (Below.refl w.heap.size w)
  have H : ((cutroomref02_Bits.f k a0 4).bind fun t173 => ((cutroomref02_Bits.f k ((Go.bits .and .u64 ((IntKind.u64.wrap (a1)) / 1073741824) 7) % 4294967296) 3).bind fun t176 => (if t173.length + t176.length < 140737488355328 then ((some (t173 ++ t176 : List Int)).bind fun y179 => (if y179.length < 140737488355328 then ((some (y179 ++ [1] : List Int)).bind fun y182 => ((cutroomref02_Bits.f k ((Go.bits .and .u64 ((IntKind.u64.wrap (a1)) / 32768) 32767) % 4294967296) 15).bind fun t185 => (if y182.length + t185.length < 140737488355328 then ((some (y182 ++ t185 : List Int)).bind fun y188 => (if y188.length < 140737488355328 then ((some (y188 ++ [1] : List Int)).bind fun y191 => ((cutroomref02_Bits.f k ((Go.bits .and .u64 (IntKind.u64.wrap (a1)) 32767) % 4294967296) 15).bind fun t194 => (if y191.length + t194.length < 140737488355328 then ((some (y191 ++ t194 : List Int)).bind fun y197 => (if y197.length < 140737488355328 then ((cutroomref02_Payload.f k (y197 ++ [1])).bind fun t203 => (if 5 ≤ (t203.length : Int) then (some (t203.take (5 : Int).toNat)) else (none))) else (none))) else (none)))) else (none))) else (none)))) else (none))) else (none)))) = some r := h
  clear h
  replace H := Option.bind_eq_some_iff.mp H
  obtain ⟨t173, A30, H⟩ := H
  replace H : ((cutroomref02_Bits.f k ((Go.bits .and .u64 ((IntKind.u64.wrap (a1)) / 1073741824) 7) % 4294967296) 3).bind fun t176 => (if t173.length + t176.length < 140737488355328 then ((some (t173 ++ t176 : List Int)).bind fun y179 => (if y179.length < 140737488355328 then ((some (y179 ++ [1] : List Int)).bind fun y182 => ((cutroomref02_Bits.f k ((Go.bits .and .u64 ((IntKind.u64.wrap (a1)) / 32768) 32767) % 4294967296) 15).bind fun t185 => (if y182.length + t185.length < 140737488355328 then ((some (y182 ++ t185 : List Int)).bind fun y188 => (if y188.length < 140737488355328 then ((some (y188 ++ [1] : List Int)).bind fun y191 => ((cutroomref02_Bits.f k ((Go.bits .and .u64 (IntKind.u64.wrap (a1)) 32767) % 4294967296) 15).bind fun t194 => (if y191.length + t194.length < 140737488355328 then ((some (y191 ++ t194 : List Int)).bind fun y197 => (if y197.length < 140737488355328 then ((cutroomref02_Payload.f k (y197 ++ [1])).bind fun t203 => (if 5 ≤ (t203.length : Int) then (some (t203.take (5 : Int).toNat)) else (none))) else (none))) else (none)))) else (none))) else (none)))) else (none))) else (none))) = some r := H
  have A3 := Aside0.mk A30
  clear A30
  replace H := Option.bind_eq_some_iff.mp H
  obtain ⟨t176, A40, H⟩ := H
  replace H : (if t173.length + t176.length < 140737488355328 then ((some (t173 ++ t176 : List Int)).bind fun y179 => (if y179.length < 140737488355328 then ((some (y179 ++ [1] : List Int)).bind fun y182 => ((cutroomref02_Bits.f k ((Go.bits .and .u64 ((IntKind.u64.wrap (a1)) / 32768) 32767) % 4294967296) 15).bind fun t185 => (if y182.length + t185.length < 140737488355328 then ((some (y182 ++ t185 : List Int)).bind fun y188 => (if y188.length < 140737488355328 then ((some (y188 ++ [1] : List Int)).bind fun y191 => ((cutroomref02_Bits.f k ((Go.bits .and .u64 (IntKind.u64.wrap (a1)) 32767) % 4294967296) 15).bind fun t194 => (if y191.length + t194.length < 140737488355328 then ((some (y191 ++ t194 : List Int)).bind fun y197 => (if y197.length < 140737488355328 then ((cutroomref02_Payload.f k (y197 ++ [1])).bind fun t203 => (if 5 ≤ (t203.length : Int) then (some (t203.take (5 : Int).toNat)) else (none))) else (none))) else (none)))) else (none))) else (none)))) else (none))) else (none)) = some r := H
  have A4 := Aside0.mk A40
  clear A40
  by_cases c5 : t173.length + t176.length < 140737488355328
  · rw [if_pos c5] at H
    have LMc5 := Aside0.mk c5
    clear c5
    obtain ⟨y179, hy179⟩ : ∃ y_ : List Int, y_ = (t173 ++ t176) := ⟨_, rfl⟩
    replace H : (if y179.length < 140737488355328 then ((some (y179 ++ [1] : List Int)).bind fun y182 => ((cutroomref02_Bits.f k ((Go.bits .and .u64 ((IntKind.u64.wrap (a1)) / 32768) 32767) % 4294967296) 15).bind fun t185 => (if y182.length + t185.length < 140737488355328 then ((some (y182 ++ t185 : List Int)).bind fun y188 => (if y188.length < 140737488355328 then ((some (y188 ++ [1] : List Int)).bind fun y191 => ((cutroomref02_Bits.f k ((Go.bits .and .u64 (IntKind.u64.wrap (a1)) 32767) % 4294967296) 15).bind fun t194 => (if y191.length + t194.length < 140737488355328 then ((some (y191 ++ t194 : List Int)).bind fun y197 => (if y197.length < 140737488355328 then ((cutroomref02_Payload.f k (y197 ++ [1])).bind fun t203 => (if 5 ≤ (t203.length : Int) then (some (t203.take (5 : Int).toNat)) else (none))) else (none))) else (none)))) else (none))) else (none)))) else (none)) = some r := by first | (rw [hy179]; with_reducible exact H) | (have H2_ := (Option.bind_some _ _).symm.trans H; rw [hy179]; with_reducible exact H2_) | (have H2_ := (Option.bind_some _ _).symm.trans H; with_reducible exact H2_) | with_reducible exact H | (rw [hy179]; exact H) | exact H
    have Ny179 := Aside0.mk hy179
    clear hy179
    by_cases c6 : y179.length < 140737488355328
    · rw [if_pos c6] at H
      have LMc6 := Aside0.mk c6
      clear c6
      obtain ⟨y182, hy182⟩ : ∃ y_ : List Int, y_ = (y179 ++ [1]) := ⟨_, rfl⟩
      replace H : ((cutroomref02_Bits.f k ((Go.bits .and .u64 ((IntKind.u64.wrap (a1)) / 32768) 32767) % 4294967296) 15).bind fun t185 => (if y182.length + t185.length < 140737488355328 then ((some (y182 ++ t185 : List Int)).bind fun y188 => (if y188.length < 140737488355328 then ((some (y188 ++ [1] : List Int)).bind fun y191 => ((cutroomref02_Bits.f k ((Go.bits .and .u64 (IntKind.u64.wrap (a1)) 32767) % 4294967296) 15).bind fun t194 => (if y191.length + t194.length < 140737488355328 then ((some (y191 ++ t194 : List Int)).bind fun y197 => (if y197.length < 140737488355328 then ((cutroomref02_Payload.f k (y197 ++ [1])).bind fun t203 => (if 5 ≤ (t203.length : Int) then (some (t203.take (5 : Int).toNat)) else (none))) else (none))) else (none)))) else (none))) else (none))) = some r := by first | (rw [hy182]; with_reducible exact H) | (have H2_ := (Option.bind_some _ _).symm.trans H; rw [hy182]; with_reducible exact H2_) | (have H2_ := (Option.bind_some _ _).symm.trans H; with_reducible exact H2_) | with_reducible exact H | (rw [hy182]; exact H) | exact H
      have Ny182 := Aside0.mk hy182
      clear hy182
      replace H := Option.bind_eq_some_iff.mp H
      obtain ⟨t185, A70, H⟩ := H
      replace H : (if y182.length + t185.length < 140737488355328 then ((some (y182 ++ t185 : List Int)).bind fun y188 => (if y188.length < 140737488355328 then ((some (y188 ++ [1] : List Int)).bind fun y191 => ((cutroomref02_Bits.f k ((Go.bits .and .u64 (IntKind.u64.wrap (a1)) 32767) % 4294967296) 15).bind fun t194 => (if y191.length + t194.length < 140737488355328 then ((some (y191 ++ t194 : List Int)).bind fun y197 => (if y197.length < 140737488355328 then ((cutroomref02_Payload.f k (y197 ++ [1])).bind fun t203 => (if 5 ≤ (t203.length : Int) then (some (t203.take (5 : Int).toNat)) else (none))) else (none))) else (none)))) else (none))) else (none)) = some r := H
      have A7 := Aside0.mk A70
      clear A70
      by_cases c8 : y182.length + t185.length < 140737488355328
      · rw [if_pos c8] at H
        have LMc8 := Aside0.mk c8
        clear c8
        obtain ⟨y188, hy188⟩ : ∃ y_ : List Int, y_ = (y182 ++ t185) := ⟨_, rfl⟩
        replace H : (if y188.length < 140737488355328 then ((some (y188 ++ [1] : List Int)).bind fun y191 => ((cutroomref02_Bits.f k ((Go.bits .and .u64 (IntKind.u64.wrap (a1)) 32767) % 4294967296) 15).bind fun t194 => (if y191.length + t194.length < 140737488355328 then ((some (y191 ++ t194 : List Int)).bind fun y197 => (if y197.length < 140737488355328 then ((cutroomref02_Payload.f k (y197 ++ [1])).bind fun t203 => (if 5 ≤ (t203.length : Int) then (some (t203.take (5 : Int).toNat)) else (none))) else (none))) else (none)))) else (none)) = some r := by first | (rw [hy188]; with_reducible exact H) | (have H2_ := (Option.bind_some _ _).symm.trans H; rw [hy188]; with_reducible exact H2_) | (have H2_ := (Option.bind_some _ _).symm.trans H; with_reducible exact H2_) | with_reducible exact H | (rw [hy188]; exact H) | exact H
        have Ny188 := Aside0.mk hy188
        clear hy188
        by_cases c9 : y188.length < 140737488355328
        · rw [if_pos c9] at H
          have LMc9 := Aside0.mk c9
          clear c9
          obtain ⟨y191, hy191⟩ : ∃ y_ : List Int, y_ = (y188 ++ [1]) := ⟨_, rfl⟩
          replace H : ((cutroomref02_Bits.f k ((Go.bits .and .u64 (IntKind.u64.wrap (a1)) 32767) % 4294967296) 15).bind fun t194 => (if y191.length + t194.length < 140737488355328 then ((some (y191 ++ t194 : List Int)).bind fun y197 => (if y197.length < 140737488355328 then ((cutroomref02_Payload.f k (y197 ++ [1])).bind fun t203 => (if 5 ≤ (t203.length : Int) then (some (t203.take (5 : Int).toNat)) else (none))) else (none))) else (none))) = some r := by first | (rw [hy191]; with_reducible exact H) | (have H2_ := (Option.bind_some _ _).symm.trans H; rw [hy191]; with_reducible exact H2_) | (have H2_ := (Option.bind_some _ _).symm.trans H; with_reducible exact H2_) | with_reducible exact H | (rw [hy191]; exact H) | exact H
          have Ny191 := Aside0.mk hy191
          clear hy191
          replace H := Option.bind_eq_some_iff.mp H
          obtain ⟨t194, A100, H⟩ := H
          replace H : (if y191.length + t194.length < 140737488355328 then ((some (y191 ++ t194 : List Int)).bind fun y197 => (if y197.length < 140737488355328 then ((cutroomref02_Payload.f k (y197 ++ [1])).bind fun t203 => (if 5 ≤ (t203.length : Int) then (some (t203.take (5 : Int).toNat)) else (none))) else (none))) else (none)) = some r := H
          have A10 := Aside0.mk A100
          clear A100
          by_cases c11 : y191.length + t194.length < 140737488355328
          · rw [if_pos c11] at H
            have LMc11 := Aside0.mk c11
            clear c11
            obtain ⟨y197, hy197⟩ : ∃ y_ : List Int, y_ = (y191 ++ t194) := ⟨_, rfl⟩
            replace H : (if y197.length < 140737488355328 then ((cutroomref02_Payload.f k (y197 ++ [1])).bind fun t203 => (if 5 ≤ (t203.length : Int) then (some (t203.take (5 : Int).toNat)) else (none))) else (none)) = some r := by first | (rw [hy197]; with_reducible exact H) | (have H2_ := (Option.bind_some _ _).symm.trans H; rw [hy197]; with_reducible exact H2_) | (have H2_ := (Option.bind_some _ _).symm.trans H; with_reducible exact H2_) | with_reducible exact H | (rw [hy197]; exact H) | exact H
            have Ny197 := Aside0.mk hy197
            clear hy197
            by_cases c12 : y197.length < 140737488355328
            · rw [if_pos c12] at H
              have LMc12 := Aside0.mk c12
              clear c12
              obtain ⟨y200, hy200⟩ : ∃ y_ : List Int, y_ = (y197 ++ [1]) := ⟨_, rfl⟩
              replace H : ((cutroomref02_Payload.f k y200).bind fun t203 => (if 5 ≤ (t203.length : Int) then (some (t203.take (5 : Int).toNat)) else (none))) = some r := by first | (rw [hy200]; with_reducible exact H) | (have H2_ := (Option.bind_some _ _).symm.trans H; rw [hy200]; with_reducible exact H2_) | (have H2_ := (Option.bind_some _ _).symm.trans H; with_reducible exact H2_) | with_reducible exact H | (rw [hy200]; exact H) | exact H
              have Ny200 := Aside0.mk hy200
              clear hy200
              replace H := Option.bind_eq_some_iff.mp H
              obtain ⟨t203, A130, H⟩ := H
              replace H : (if 5 ≤ (t203.length : Int) then (some (t203.take (5 : Int).toNat)) else (none)) = some r := H
              have A13 := Aside0.mk A130
              clear A130
              by_cases c14 : 5 ≤ (t203.length : Int)
              · rw [if_pos c14] at H
                have c14b0 := eq_true c14
                have c14b1 : decide (5 ≤ (t203.length : Int)) = true := decide_eq_true c14
                clear c14
                obtain ⟨y206, hy206⟩ : ∃ y_ : List Int, y_ = (t203.take (5 : Int).toNat) := ⟨_, rfl⟩
                replace H : (some y206) = some r := by first | (rw [hy206]; with_reducible exact H) | (have H2_ := (Option.bind_some _ _).symm.trans H; rw [hy206]; with_reducible exact H2_) | (have H2_ := (Option.bind_some _ _).symm.trans H; with_reducible exact H2_) | with_reducible exact H | (rw [hy206]; exact H) | exact H
                have Ny206 := Aside0.mk hy206
                clear hy206
                obtain rfl := Option.some.inj H
                go_enter Try.func54, Try.ntmps54
                go_wp2_with (first | ((with_reducible refine gate_callee (f := 63) rfl ?_); refine goesL_ (some 10) rfl rfl Try.func63 (by kernel_rfl) rfl #[.int .u32 a0, .int .i64 4] rfl (by (try simp only [List.map_toArray, List.map_cons, List.map_nil]); first | done | rfl | (simp only [List.length_drop, List.length_take]; rfl)) ?_; (with_reducible refine (cutroomref02_Bits.calls k a0 4 t173 _ A3.out).mono ?_); rintro e w15 ⟨v174, rfl, ho0, hb⟩; refine ⟨_, rfl, ?_⟩; have n0_ := Aside0.mk (Kd.R_lower ho0 (below_size (by repeat (first | (with_reducible first | exact HB.out | apply below_alloc | apply pw_below_drewN | apply below_drew1) | exact HB.out)))); have n1_ := Aside0.mk (below_step (by repeat (first | (with_reducible first | exact HB.out | apply below_alloc | apply pw_below_drewN | apply below_drew1) | exact HB.out)) hb); clear HB; have HO175 := n0_; have HB := n1_; clear n0_ n1_; (try clear hb); (try clear hb2); (try clear hk); (try clear hi); (try clear ho0)) | ((with_reducible refine gate_callee (f := 63) rfl ?_); refine goesL_ (some 16) rfl rfl Try.func63 (by kernel_rfl) rfl #[.int .u32 ((Go.bits .and .u64 ((IntKind.u64.wrap (a1)) / 1073741824) 7) % 4294967296), .int .i64 3] rfl (by (try simp only [List.map_toArray, List.map_cons, List.map_nil]); first | done | rfl | (simp only [List.length_drop, List.length_take]; rfl)) ?_; (with_reducible refine (cutroomref02_Bits.calls k ((Go.bits .and .u64 ((IntKind.u64.wrap (a1)) / 1073741824) 7) % 4294967296) 3 t176 _ A4.out).mono ?_); rintro e w16 ⟨v177, rfl, ho0, hb⟩; refine ⟨_, rfl, ?_⟩; have n0_ := Aside0.mk (Kd.R_elder' (by (with_reducible repeat (first | apply Kd.R_alloc | apply Kd.R_drewN | apply Kd.R_drew)); exact HO175.out) (Kd.R_base ho0) hb); have n1_ := Aside0.mk (Kd.R_lower (Kd.R_new' ho0 (Kd.R_lt (by (with_reducible repeat (first | apply Kd.R_alloc | apply Kd.R_drewN | apply Kd.R_drew)); exact HO175.out))) (below_size (by repeat (first | (with_reducible first | exact HB.out | apply below_alloc | apply pw_below_drewN | apply below_drew1) | exact HB.out)))); have n2_ := Aside0.mk (below_step (by repeat (first | (with_reducible first | exact HB.out | apply below_alloc | apply pw_below_drewN | apply below_drew1) | exact HB.out)) hb); clear HO175; clear HB; have HO175 := n0_; have HO178 := n1_; have HB := n2_; clear n0_ n1_ n2_; (try clear hb); (try clear hb2); (try clear hk); (try clear hi); (try clear ho0); obtain ⟨Ao18, co18, eo18⟩ := Kd.R_slice HO178.out; subst eo18) | ((with_reducible refine gate_builtin (b := .append) (xs := #[.tmp 11, .tmp 16]) rfl ?_); at_builtin; refine Kd.R_append_rows (Kd.int .u8) (w0 := w) w.heap.size rfl (.tmp 11) (.tmp 16) 27 5 (.int .u8 0) 1 rfl Try.underlying27 info5 rfl (by decide) (by omega) v174 t173 t176 _ _ _ (fun k_ => some k_ ≠ (.slice Ao18 t176.length co18 : Value).ownBlock) (fun _ => False) rfl rfl ?aO ?aR (fun _ _ h => h) (fun _ h => h.elim) ?aF ?aB ?aS ?aL ?_; (case aR => repeat (first | exact (Kd.R_reads' HO178.out).2.2 | (with_reducible refine Kd.C_alloc ?_ _) | (with_reducible refine Kd.C_drewN ?_ _) | (with_reducible refine Kd.C_drew ?_))); (case aB => exact (by repeat (first | (with_reducible first | exact HB.out | apply below_alloc | apply pw_below_drewN | apply below_drew1) | exact HB.out))); (case aF => exact (fun k_ hk => Kd.fresh' (Kd.R_lt (by (with_reducible repeat (first | apply Kd.R_alloc | apply Kd.R_drewN | apply Kd.R_drew)); exact HO178.out)) k_ hk)); (case aO => exact (by (with_reducible repeat (first | apply Kd.R_alloc | apply Kd.R_drewN | apply Kd.R_drew)); exact Kd.R_mono HO175.out (fun _ hk => hk.2))); (case aS => exact (below_size (by repeat (first | (with_reducible first | exact HB.out | apply below_alloc | apply pw_below_drewN | apply below_drew1) | exact HB.out)))); (case aL => have := LMc5.out; omega); intro v180 w17 ho hb hg hat; rw [← Ny179.out] at ho; have n0_ := Aside0.mk (Kd.R_after (ok := (fun _ => True)) (by (with_reducible repeat (first | apply Kd.R_alloc | apply Kd.R_drewN | apply Kd.R_drew)); exact HO178.out) hg hat); have n1_ := Aside0.mk (hb); have n2_ := Aside0.mk (ho); clear HO178; clear HB; clear HO175; have HO178 := n0_; have HB := n1_; have HO181 := n2_; clear n0_ n1_ n2_; clear ho hb hg hat) | ((with_reducible refine gate_builtin (b := .append) (xs := #[.tmp 17, .tmp 18]) rfl ?_); at_builtin; refine Kd.R_append (Kd.int .u8) (w0 := w) w.heap.size rfl (.tmp 17) (.tmp 18) 27 5 (.int .u8 0) 1 rfl Try.underlying27 info5 rfl (by decide) (by omega) v180 y179 1 [.int .u8 1] (fun k_ => some k_ ≠ (.slice Ao18 t176.length co18 : Value).ownBlock) (fun _ => False) rfl rfl ?aP (fun _ hk => hk.elim) ?aF ?aO ?aB ?aS ?aL ?_; (case aP => exact rfl); (case aB => exact (by repeat (first | (with_reducible first | exact HB.out | apply below_alloc | apply pw_below_drewN | apply below_drew1) | exact HB.out))); (case aF => exact (fun k_ hk => Kd.fresh' (Kd.R_lt (by (with_reducible repeat (first | apply Kd.R_alloc | apply Kd.R_drewN | apply Kd.R_drew)); exact HO178.out)) k_ hk)); (case aO => exact (by (with_reducible repeat (first | apply Kd.R_alloc | apply Kd.R_drewN | apply Kd.R_drew)); exact HO181.out)); (case aS => exact (below_size (by repeat (first | (with_reducible first | exact HB.out | apply below_alloc | apply pw_below_drewN | apply below_drew1) | exact HB.out)))); (case aL => have := LMc6.out; omega); intro v183 w19 ho hb hg hat; rw [← Ny182.out] at ho; have n0_ := Aside0.mk (Kd.R_after (ok := (fun _ => True)) (by (with_reducible repeat (first | apply Kd.R_alloc | apply Kd.R_drewN | apply Kd.R_drew)); exact HO178.out) hg hat); have n1_ := Aside0.mk (hb); have n2_ := Aside0.mk (ho); clear HO178; clear HB; clear HO181; have HO178 := n0_; have HB := n1_; have HO184 := n2_; clear n0_ n1_ n2_; clear ho hb hg hat) | ((with_reducible refine gate_callee (f := 63) rfl ?_); refine goesL_ (some 25) rfl rfl Try.func63 (by kernel_rfl) rfl #[.int .u32 ((Go.bits .and .u64 ((IntKind.u64.wrap (a1)) / 32768) 32767) % 4294967296), .int .i64 15] rfl (by (try simp only [List.map_toArray, List.map_cons, List.map_nil]); first | done | rfl | (simp only [List.length_drop, List.length_take]; rfl)) ?_; (with_reducible refine (cutroomref02_Bits.calls k ((Go.bits .and .u64 ((IntKind.u64.wrap (a1)) / 32768) 32767) % 4294967296) 15 t185 _ A7.out).mono ?_); rintro e w20 ⟨v186, rfl, ho0, hb⟩; refine ⟨_, rfl, ?_⟩; have n0_ := Aside0.mk (Kd.R_elder' (by (with_reducible repeat (first | apply Kd.R_alloc | apply Kd.R_drewN | apply Kd.R_drew)); exact HO178.out) (Kd.R_base ho0) hb); have n1_ := Aside0.mk (Kd.R_elder' (by (with_reducible repeat (first | apply Kd.R_alloc | apply Kd.R_drewN | apply Kd.R_drew)); exact HO184.out) (Kd.R_base ho0) hb); have n2_ := Aside0.mk (Kd.R_lower (Kd.R_new' (Kd.R_new' ho0 (Kd.R_lt (by (with_reducible repeat (first | apply Kd.R_alloc | apply Kd.R_drewN | apply Kd.R_drew)); exact HO178.out))) (Kd.R_lt (by (with_reducible repeat (first | apply Kd.R_alloc | apply Kd.R_drewN | apply Kd.R_drew)); exact HO184.out))) (below_size (by repeat (first | (with_reducible first | exact HB.out | apply below_alloc | apply pw_below_drewN | apply below_drew1) | exact HB.out)))); have n3_ := Aside0.mk (below_step (by repeat (first | (with_reducible first | exact HB.out | apply below_alloc | apply pw_below_drewN | apply below_drew1) | exact HB.out)) hb); clear HO178; clear HO184; clear HB; have HO178 := n0_; have HO184 := n1_; have HO187 := n2_; have HB := n3_; clear n0_ n1_ n2_ n3_; (try clear hb); (try clear hb2); (try clear hk); (try clear hi); (try clear ho0); obtain ⟨Ao22, co22, eo22⟩ := Kd.R_slice HO187.out; subst eo22) | ((with_reducible refine gate_builtin (b := .append) (xs := #[.tmp 20, .tmp 25]) rfl ?_); at_builtin; refine Kd.R_append_rows (Kd.int .u8) (w0 := w) w.heap.size rfl (.tmp 20) (.tmp 25) 27 5 (.int .u8 0) 1 rfl Try.underlying27 info5 rfl (by decide) (by omega) v183 y182 t185 _ _ _ (fun k_ => some k_ ≠ (.slice Ao18 t176.length co18 : Value).ownBlock ∧ some k_ ≠ (.slice Ao22 t185.length co22 : Value).ownBlock) (fun _ => False) rfl rfl ?aO ?aR (fun _ _ h => h) (fun _ h => h.elim) ?aF ?aB ?aS ?aL ?_; (case aR => repeat (first | exact (Kd.R_reads' HO187.out).2.2 | (with_reducible refine Kd.C_alloc ?_ _) | (with_reducible refine Kd.C_drewN ?_ _) | (with_reducible refine Kd.C_drew ?_))); (case aB => exact (by repeat (first | (with_reducible first | exact HB.out | apply below_alloc | apply pw_below_drewN | apply below_drew1) | exact HB.out))); (case aF => exact (fun k_ hk => ⟨Kd.fresh' (Kd.R_lt (by (with_reducible repeat (first | apply Kd.R_alloc | apply Kd.R_drewN | apply Kd.R_drew)); exact HO178.out)) k_ hk, Kd.fresh' (Kd.R_lt (by (with_reducible repeat (first | apply Kd.R_alloc | apply Kd.R_drewN | apply Kd.R_drew)); exact HO187.out)) k_ hk⟩)); (case aO => exact (by (with_reducible repeat (first | apply Kd.R_alloc | apply Kd.R_drewN | apply Kd.R_drew)); exact HO184.out)); (case aS => exact (below_size (by repeat (first | (with_reducible first | exact HB.out | apply below_alloc | apply pw_below_drewN | apply below_drew1) | exact HB.out)))); (case aL => have := LMc8.out; omega); intro v189 w21 ho hb hg hat; rw [← Ny188.out] at ho; have n0_ := Aside0.mk (Kd.R_after (ok := (fun k_ => some k_ ≠ (.slice Ao22 t185.length co22 : Value).ownBlock)) (by (with_reducible repeat (first | apply Kd.R_alloc | apply Kd.R_drewN | apply Kd.R_drew)); exact Kd.R_mono HO178.out (fun _ hk => ⟨hk.2, hk.1.2⟩)) hg hat); have n1_ := Aside0.mk (Kd.R_after (ok := (fun k_ => some k_ ≠ (.slice Ao18 t176.length co18 : Value).ownBlock)) (by (with_reducible repeat (first | apply Kd.R_alloc | apply Kd.R_drewN | apply Kd.R_drew)); exact Kd.R_mono HO187.out (fun _ hk => ⟨hk.1.2, hk.2⟩)) hg hat); have n2_ := Aside0.mk (hb); have n3_ := Aside0.mk (ho); clear HO178; clear HO187; clear HB; clear HO184; have HO178 := n0_; have HO187 := n1_; have HB := n2_; have HO190 := n3_; clear n0_ n1_ n2_ n3_; clear ho hb hg hat) | ((with_reducible refine gate_builtin (b := .append) (xs := #[.tmp 26, .tmp 27]) rfl ?_); at_builtin; refine Kd.R_append (Kd.int .u8) (w0 := w) w.heap.size rfl (.tmp 26) (.tmp 27) 27 5 (.int .u8 0) 1 rfl Try.underlying27 info5 rfl (by decide) (by omega) v189 y188 1 [.int .u8 1] (fun k_ => some k_ ≠ (.slice Ao18 t176.length co18 : Value).ownBlock ∧ some k_ ≠ (.slice Ao22 t185.length co22 : Value).ownBlock) (fun _ => False) rfl rfl ?aP (fun _ hk => hk.elim) ?aF ?aO ?aB ?aS ?aL ?_; (case aP => exact rfl); (case aB => exact (by repeat (first | (with_reducible first | exact HB.out | apply below_alloc | apply pw_below_drewN | apply below_drew1) | exact HB.out))); (case aF => exact (fun k_ hk => ⟨Kd.fresh' (Kd.R_lt (by (with_reducible repeat (first | apply Kd.R_alloc | apply Kd.R_drewN | apply Kd.R_drew)); exact HO178.out)) k_ hk, Kd.fresh' (Kd.R_lt (by (with_reducible repeat (first | apply Kd.R_alloc | apply Kd.R_drewN | apply Kd.R_drew)); exact HO187.out)) k_ hk⟩)); (case aO => exact (by (with_reducible repeat (first | apply Kd.R_alloc | apply Kd.R_drewN | apply Kd.R_drew)); exact HO190.out)); (case aS => exact (below_size (by repeat (first | (with_reducible first | exact HB.out | apply below_alloc | apply pw_below_drewN | apply below_drew1) | exact HB.out)))); (case aL => have := LMc9.out; omega); intro v192 w23 ho hb hg hat; rw [← Ny191.out] at ho; have n0_ := Aside0.mk (Kd.R_after (ok := (fun k_ => some k_ ≠ (.slice Ao22 t185.length co22 : Value).ownBlock)) (by (with_reducible repeat (first | apply Kd.R_alloc | apply Kd.R_drewN | apply Kd.R_drew)); exact HO178.out) hg hat); have n1_ := Aside0.mk (Kd.R_after (ok := (fun k_ => some k_ ≠ (.slice Ao18 t176.length co18 : Value).ownBlock)) (by (with_reducible repeat (first | apply Kd.R_alloc | apply Kd.R_drewN | apply Kd.R_drew)); exact HO187.out) hg hat); have n2_ := Aside0.mk (hb); have n3_ := Aside0.mk (ho); clear HO178; clear HO187; clear HB; clear HO190; have HO178 := n0_; have HO187 := n1_; have HB := n2_; have HO193 := n3_; clear n0_ n1_ n2_ n3_; clear ho hb hg hat) | ((with_reducible refine gate_callee (f := 63) rfl ?_); refine goesL_ (some 33) rfl rfl Try.func63 (by kernel_rfl) rfl #[.int .u32 ((Go.bits .and .u64 (IntKind.u64.wrap (a1)) 32767) % 4294967296), .int .i64 15] rfl (by (try simp only [List.map_toArray, List.map_cons, List.map_nil]); first | done | rfl | (simp only [List.length_drop, List.length_take]; rfl)) ?_; (with_reducible refine (cutroomref02_Bits.calls k ((Go.bits .and .u64 (IntKind.u64.wrap (a1)) 32767) % 4294967296) 15 t194 _ A10.out).mono ?_); rintro e w24 ⟨v195, rfl, ho0, hb⟩; refine ⟨_, rfl, ?_⟩; have n0_ := Aside0.mk (Kd.R_elder' (by (with_reducible repeat (first | apply Kd.R_alloc | apply Kd.R_drewN | apply Kd.R_drew)); exact HO178.out) (Kd.R_base ho0) hb); have n1_ := Aside0.mk (Kd.R_elder' (by (with_reducible repeat (first | apply Kd.R_alloc | apply Kd.R_drewN | apply Kd.R_drew)); exact HO187.out) (Kd.R_base ho0) hb); have n2_ := Aside0.mk (Kd.R_elder' (by (with_reducible repeat (first | apply Kd.R_alloc | apply Kd.R_drewN | apply Kd.R_drew)); exact HO193.out) (Kd.R_base ho0) hb); have n3_ := Aside0.mk (Kd.R_lower (Kd.R_new' (Kd.R_new' (Kd.R_new' ho0 (Kd.R_lt (by (with_reducible repeat (first | apply Kd.R_alloc | apply Kd.R_drewN | apply Kd.R_drew)); exact HO178.out))) (Kd.R_lt (by (with_reducible repeat (first | apply Kd.R_alloc | apply Kd.R_drewN | apply Kd.R_drew)); exact HO187.out))) (Kd.R_lt (by (with_reducible repeat (first | apply Kd.R_alloc | apply Kd.R_drewN | apply Kd.R_drew)); exact HO193.out))) (below_size (by repeat (first | (with_reducible first | exact HB.out | apply below_alloc | apply pw_below_drewN | apply below_drew1) | exact HB.out)))); have n4_ := Aside0.mk (below_step (by repeat (first | (with_reducible first | exact HB.out | apply below_alloc | apply pw_below_drewN | apply below_drew1) | exact HB.out)) hb); clear HO178; clear HO187; clear HO193; clear HB; have HO178 := n0_; have HO187 := n1_; have HO193 := n2_; have HO196 := n3_; have HB := n4_; clear n0_ n1_ n2_ n3_ n4_; (try clear hb); (try clear hb2); (try clear hk); (try clear hi); (try clear ho0); obtain ⟨Ao26, co26, eo26⟩ := Kd.R_slice HO196.out; subst eo26) | ((with_reducible refine gate_builtin (b := .append) (xs := #[.tmp 29, .tmp 33]) rfl ?_); at_builtin; refine Kd.R_append_rows (Kd.int .u8) (w0 := w) w.heap.size rfl (.tmp 29) (.tmp 33) 27 5 (.int .u8 0) 1 rfl Try.underlying27 info5 rfl (by decide) (by omega) v192 y191 t194 _ _ _ (fun k_ => some k_ ≠ (.slice Ao18 t176.length co18 : Value).ownBlock ∧ some k_ ≠ (.slice Ao22 t185.length co22 : Value).ownBlock ∧ some k_ ≠ (.slice Ao26 t194.length co26 : Value).ownBlock) (fun _ => False) rfl rfl ?aO ?aR (fun _ _ h => h) (fun _ h => h.elim) ?aF ?aB ?aS ?aL ?_; (case aR => repeat (first | exact (Kd.R_reads' HO196.out).2.2 | (with_reducible refine Kd.C_alloc ?_ _) | (with_reducible refine Kd.C_drewN ?_ _) | (with_reducible refine Kd.C_drew ?_))); (case aB => exact (by repeat (first | (with_reducible first | exact HB.out | apply below_alloc | apply pw_below_drewN | apply below_drew1) | exact HB.out))); (case aF => exact (fun k_ hk => ⟨Kd.fresh' (Kd.R_lt (by (with_reducible repeat (first | apply Kd.R_alloc | apply Kd.R_drewN | apply Kd.R_drew)); exact HO178.out)) k_ hk, Kd.fresh' (Kd.R_lt (by (with_reducible repeat (first | apply Kd.R_alloc | apply Kd.R_drewN | apply Kd.R_drew)); exact HO187.out)) k_ hk, Kd.fresh' (Kd.R_lt (by (with_reducible repeat (first | apply Kd.R_alloc | apply Kd.R_drewN | apply Kd.R_drew)); exact HO196.out)) k_ hk⟩)); (case aO => exact (by (with_reducible repeat (first | apply Kd.R_alloc | apply Kd.R_drewN | apply Kd.R_drew)); exact Kd.R_mono HO193.out (fun _ hk => ⟨hk.1.1, ⟨hk.1.2, hk.2⟩⟩))); (case aS => exact (below_size (by repeat (first | (with_reducible first | exact HB.out | apply below_alloc | apply pw_below_drewN | apply below_drew1) | exact HB.out)))); (case aL => have := LMc11.out; omega); intro v198 w25 ho hb hg hat; rw [← Ny197.out] at ho; have n0_ := Aside0.mk (Kd.R_after (ok := (fun k_ => some k_ ≠ (.slice Ao22 t185.length co22 : Value).ownBlock ∧ some k_ ≠ (.slice Ao26 t194.length co26 : Value).ownBlock)) (by (with_reducible repeat (first | apply Kd.R_alloc | apply Kd.R_drewN | apply Kd.R_drew)); exact Kd.R_mono HO178.out (fun _ hk => ⟨⟨hk.1.1, hk.2⟩, hk.1.2⟩)) hg hat); have n1_ := Aside0.mk (Kd.R_after (ok := (fun k_ => some k_ ≠ (.slice Ao18 t176.length co18 : Value).ownBlock ∧ some k_ ≠ (.slice Ao26 t194.length co26 : Value).ownBlock)) (by (with_reducible repeat (first | apply Kd.R_alloc | apply Kd.R_drewN | apply Kd.R_drew)); exact Kd.R_mono HO187.out (fun _ hk => ⟨⟨hk.1.1, hk.2⟩, hk.1.2⟩)) hg hat); have n2_ := Aside0.mk (Kd.R_after (ok := (fun k_ => some k_ ≠ (.slice Ao18 t176.length co18 : Value).ownBlock ∧ some k_ ≠ (.slice Ao22 t185.length co22 : Value).ownBlock)) (by (with_reducible repeat (first | apply Kd.R_alloc | apply Kd.R_drewN | apply Kd.R_drew)); exact Kd.R_mono HO196.out (fun _ hk => ⟨⟨hk.1.1.2, hk.1.2⟩, hk.2⟩)) hg hat); have n3_ := Aside0.mk (hb); have n4_ := Aside0.mk (ho); clear HO178; clear HO187; clear HO196; clear HB; clear HO193; have HO178 := n0_; have HO187 := n1_; have HO196 := n2_; have HB := n3_; have HO199 := n4_; clear n0_ n1_ n2_ n3_ n4_; clear ho hb hg hat) | ((with_reducible refine gate_builtin (b := .append) (xs := #[.tmp 34, .tmp 35]) rfl ?_); at_builtin; refine Kd.R_append (Kd.int .u8) (w0 := w) w.heap.size rfl (.tmp 34) (.tmp 35) 27 5 (.int .u8 0) 1 rfl Try.underlying27 info5 rfl (by decide) (by omega) v198 y197 1 [.int .u8 1] (fun k_ => some k_ ≠ (.slice Ao18 t176.length co18 : Value).ownBlock ∧ some k_ ≠ (.slice Ao22 t185.length co22 : Value).ownBlock ∧ some k_ ≠ (.slice Ao26 t194.length co26 : Value).ownBlock) (fun _ => False) rfl rfl ?aP (fun _ hk => hk.elim) ?aF ?aO ?aB ?aS ?aL ?_; (case aP => exact rfl); (case aB => exact (by repeat (first | (with_reducible first | exact HB.out | apply below_alloc | apply pw_below_drewN | apply below_drew1) | exact HB.out))); (case aF => exact (fun k_ hk => ⟨Kd.fresh' (Kd.R_lt (by (with_reducible repeat (first | apply Kd.R_alloc | apply Kd.R_drewN | apply Kd.R_drew)); exact HO178.out)) k_ hk, Kd.fresh' (Kd.R_lt (by (with_reducible repeat (first | apply Kd.R_alloc | apply Kd.R_drewN | apply Kd.R_drew)); exact HO187.out)) k_ hk, Kd.fresh' (Kd.R_lt (by (with_reducible repeat (first | apply Kd.R_alloc | apply Kd.R_drewN | apply Kd.R_drew)); exact HO196.out)) k_ hk⟩)); (case aO => exact (by (with_reducible repeat (first | apply Kd.R_alloc | apply Kd.R_drewN | apply Kd.R_drew)); exact HO199.out)); (case aS => exact (below_size (by repeat (first | (with_reducible first | exact HB.out | apply below_alloc | apply pw_below_drewN | apply below_drew1) | exact HB.out)))); (case aL => have := LMc12.out; omega); intro v201 w27 ho hb hg hat; rw [← Ny200.out] at ho; have n0_ := Aside0.mk (Kd.R_after (ok := (fun k_ => some k_ ≠ (.slice Ao22 t185.length co22 : Value).ownBlock ∧ some k_ ≠ (.slice Ao26 t194.length co26 : Value).ownBlock)) (by (with_reducible repeat (first | apply Kd.R_alloc | apply Kd.R_drewN | apply Kd.R_drew)); exact HO178.out) hg hat); have n1_ := Aside0.mk (Kd.R_after (ok := (fun k_ => some k_ ≠ (.slice Ao18 t176.length co18 : Value).ownBlock ∧ some k_ ≠ (.slice Ao26 t194.length co26 : Value).ownBlock)) (by (with_reducible repeat (first | apply Kd.R_alloc | apply Kd.R_drewN | apply Kd.R_drew)); exact HO187.out) hg hat); have n2_ := Aside0.mk (Kd.R_after (ok := (fun k_ => some k_ ≠ (.slice Ao18 t176.length co18 : Value).ownBlock ∧ some k_ ≠ (.slice Ao22 t185.length co22 : Value).ownBlock)) (by (with_reducible repeat (first | apply Kd.R_alloc | apply Kd.R_drewN | apply Kd.R_drew)); exact HO196.out) hg hat); have n3_ := Aside0.mk (hb); have n4_ := Aside0.mk (ho); clear HO178; clear HO187; clear HO196; clear HB; clear HO199; have HO178 := n0_; have HO187 := n1_; have HO196 := n2_; have HB := n3_; have HO202 := n4_; clear n0_ n1_ n2_ n3_ n4_; clear ho hb hg hat; obtain ⟨Ao28, co28, eo28⟩ := Kd.R_slice HO202.out; subst eo28) | ((with_reducible refine gate_callee (f := 64) rfl ?_); refine goesL_ (some 38) rfl rfl Try.func64 (by kernel_rfl) rfl #[.slice Ao28 y200.length co28] rfl (by (try simp only [List.map_toArray, List.map_cons, List.map_nil]); first | done | rfl | (simp only [List.length_drop, List.length_take]; rfl)) ?_; (with_reducible refine (cutroomref02_Payload.calls k _ _ y200 t203 _ ?side1 ?side2 A13.out).mono ?_); (case side1 => repeat (first | exact (Kd.R_reads' HO202.out).2.2 | (with_reducible refine Kd.C_alloc ?_ _) | (with_reducible refine Kd.C_drewN ?_ _) | (with_reducible refine Kd.C_drew ?_))); (case side2 => exact (Kd.R_reads' HO202.out).2.1); rintro e w29 ⟨v204, rfl, ho0, hb⟩; refine ⟨_, rfl, ?_⟩; have n0_ := Aside0.mk (Kd.R_elder' (by (with_reducible repeat (first | apply Kd.R_alloc | apply Kd.R_drewN | apply Kd.R_drew)); exact HO178.out) (Kd.R_base ho0) hb); have n1_ := Aside0.mk (Kd.R_elder' (by (with_reducible repeat (first | apply Kd.R_alloc | apply Kd.R_drewN | apply Kd.R_drew)); exact HO187.out) (Kd.R_base ho0) hb); have n2_ := Aside0.mk (Kd.R_elder' (by (with_reducible repeat (first | apply Kd.R_alloc | apply Kd.R_drewN | apply Kd.R_drew)); exact HO196.out) (Kd.R_base ho0) hb); have n3_ := Aside0.mk (Kd.R_elder' (by (with_reducible repeat (first | apply Kd.R_alloc | apply Kd.R_drewN | apply Kd.R_drew)); exact HO202.out) (Kd.R_base ho0) hb); have n4_ := Aside0.mk (Kd.R_lower (Kd.R_new' (Kd.R_new' (Kd.R_new' (Kd.R_new' ho0 (Kd.R_lt (by (with_reducible repeat (first | apply Kd.R_alloc | apply Kd.R_drewN | apply Kd.R_drew)); exact HO178.out))) (Kd.R_lt (by (with_reducible repeat (first | apply Kd.R_alloc | apply Kd.R_drewN | apply Kd.R_drew)); exact HO187.out))) (Kd.R_lt (by (with_reducible repeat (first | apply Kd.R_alloc | apply Kd.R_drewN | apply Kd.R_drew)); exact HO196.out))) (Kd.R_lt (by (with_reducible repeat (first | apply Kd.R_alloc | apply Kd.R_drewN | apply Kd.R_drew)); exact HO202.out))) (below_size (by repeat (first | (with_reducible first | exact HB.out | apply below_alloc | apply pw_below_drewN | apply below_drew1) | exact HB.out)))); have n5_ := Aside0.mk (below_step (by repeat (first | (with_reducible first | exact HB.out | apply below_alloc | apply pw_below_drewN | apply below_drew1) | exact HB.out)) hb); clear HO178; clear HO187; clear HO196; clear HO202; clear HB; have HO178 := n0_; have HO187 := n1_; have HO196 := n2_; have HO202 := n3_; have HO205 := n4_; have HB := n5_; clear n0_ n1_ n2_ n3_ n4_ n5_; (try clear hb); (try clear hb2); (try clear hk); (try clear hi); (try clear ho0); obtain ⟨Ao30, co30, eo30⟩ := Kd.R_slice HO205.out; subst eo30; have q31 : (5 : Int) ≤ ((t203.length : Int) : Int) := of_decide_eq_true (by first | (with_reducible assumption) | assumption); obtain ⟨i031, hi031, _, hsz31, _⟩ := info_parts info5; have hcut31 := cut_to (P := Try.prog) 27 5 .i64 Try.underlying27 hi031 Ao30 t203.length co30 5 (by omega) q31 (Kd.R_reads' HO205.out).2.1; have hr31 := Kd.R_take (m := (5 : Int).toNat) HO205.out (by omega); have hy31 : y206.length = (5 : Int).toNat := (by rw [Ny206.out, List.length_take]; omega); rw [← Ny206.out] at hr31; rw [← hy31] at hr31 hcut31; clear hy31 hi031 hsz31 HO205; have HO208 := Aside0.mk hr31; clear hr31; replace q31 := eq_true q31))
                go_ret
                exact ⟨_, by first | rfl | (simp [errW_none, errW_some] <;> rfl) | (simp [*, errW_none, errW_some] <;> rfl), by (with_reducible repeat (first | apply Kd.R_alloc | apply Kd.R_drewN | apply Kd.R_drew)); exact Kd.R_mono HO208.out (fun _ hk => trivial), by repeat (first | (with_reducible first | exact HB.out | apply below_alloc | apply pw_below_drewN | apply below_drew1) | exact HB.out)⟩
              · rw [if_neg c14] at H
                exact absurd H (by simp)
            · rw [if_neg c12] at H
              exact absurd H (by simp)
          · rw [if_neg c11] at H
            exact absurd H (by simp)
        · rw [if_neg c9] at H
          exact absurd H (by simp)
      · rw [if_neg c8] at H
        exact absurd H (by simp)
    · rw [if_neg c6] at H
      exact absurd H (by simp)
  · rw [if_neg c5] at H
    exact absurd H (by simp)

/-! ### cutroomref16_head: function 35 -/
def cutroomref16_head.f (k : Nat) (a0_0 : Int) (a0_1 : Int) (a0_2 : Int) (l0_3 : List Int) : Option (Int × List Int) := if a0_1 < 0 then (some (0, ([] : List Int))) else (if a0_2 < 0 then ((cutroomref16_stamped.f k 2 a0_1).bind fun t210 => (some (128, t210))) else ((cutroomref16_stamped.f k 3 a0_1).bind fun t213 => ((cutroomref16_stamped.f k 1 a0_2).bind fun t216 => (if t213.length + t216.length < 140737488355328 then (some (192, (t213 ++ t216))) else (none)))))
theorem cutroomref16_head.mono : ∀ a0 a1 a2 a3 k, LeO (cutroomref16_head.f k a0 a1 a2 a3) (cutroomref16_head.f (k + 1) a0 a1 a2 a3) := by
  intro a0 a1 a2 a3 k
  unfold cutroomref16_head.f
  repeat' first
      | (with_reducible exact cutroomref16_stamped.mono _ _ _)
      | (with_reducible exact LeO.refl _)
      | (with_reducible exact LeO.none _)
      | (with_reducible refine LeO.ite ?_ ?_)
      | (with_reducible refine LeO.bind ?_ (fun _ => ?_))
      | exact cutroomref16_stamped.mono _ _ _
      | exact LeO.none _
      | refine LeO.ite ?_ ?_
      | refine LeO.bind ?_ (fun _ => ?_)
def cutroomref16_head.T5 : Bool × List (List Nat × List Nat) := (true, [([], []), ([0], [0]), ([1], [1]), ([], []), ([3], [3]), ([4, 2], [4]), ([2, 5, 5], [2, 5]), ([6], []), ([6, 7, 0, 1, 2, 3, 4, 5, 6, 7], [6])])
def cutroomref16_head.B5 : List Nat := [0, 1, 3, 0, 8, 31, 63, 127, 255]
theorem cutroomref16_head.tab5 : rtab .any (opsOf Try.f35 5) = cutroomref16_head.T5 := by kernel_rfl
theorem cutroomref16_head.bits5 : waitsOk cutroomref16_head.T5.2 cutroomref16_head.B5 = true := by kernel_rfl
set_option maxHeartbeats 8000000 in
set_option maxRecDepth 100000 in
theorem cutroomref16_head.calls (k : Nat) (a0_0 : Int) (a0_1 : Int) (a0_2 : Int) (A0_3 : Option Addr) (c0_3 : Nat) (l0_3 : List Int) (r1 : Int) (r2 : List Int) (w : World) (hr0_3 : Kd.C (Kd.int .u8) w A0_3 l0_3.length l0_3) (hc0_3 : l0_3.length ≤ c0_3) (h : cutroomref16_head.f k a0_0 a0_1 a0_2 l0_3 = some (r1, r2)) :
    Calls Try.prog 35 #[.agg #[.int .i64 a0_0, .int .i64 a0_1, .int .i64 a0_2, .slice A0_3 l0_3.length c0_3]] w fun e w' => ∃ v1_ : Value, e = .returned (.tuple #[.int .u8 r1, v1_]) ∧ Kd.R (Kd.int .u8) 5 w' w.heap.size (fun _ => True) v1_ r2 ∧ Below w.heap.size w w' := by
  have hu29 := Try.underlying29
  have HR0_3 := Aside0.mk hr0_3
  have HC0_3 := Aside0.mk hc0_3
  clear hr0_3 hc0_3
  have HB := Aside0.mk (Below.refl w.heap.size w)
  have H : (if a0_1 < 0 then (some (0, ([] : List Int))) else (if a0_2 < 0 then ((cutroomref16_stamped.f k 2 a0_1).bind fun t210 => (some (128, t210))) else ((cutroomref16_stamped.f k 3 a0_1).bind fun t213 => ((cutroomref16_stamped.f k 1 a0_2).bind fun t216 => (if t213.length + t216.length < 140737488355328 then (some (192, (t213 ++ t216))) else (none)))))) = some (r1, r2) := h
  clear h
  by_cases c2 : a0_1 < 0
  · rw [if_pos c2] at H
    have c2b0 : decide (a0_1 < 0) = true := decide_eq_true c2
    clear c2
    simp only [Option.some.injEq, Prod.mk.injEq] at H
    obtain ⟨rfl, rfl⟩ := H
    go_enter Try.func35, Try.ntmps35
    go_wp2_with (first | ((with_reducible refine gate_dst (N := 1) rfl ?_); refine box_event ?hg (N := 1) ?hd (cs := #[.int .i64 a0_0, .int .i64 a0_1, .int .i64 a0_2, .slice A0_3 l0_3.length c0_3]) (t := 29) ?hr ?_; (case hd => rfl); (case hg => rfl); (case hr => first | (go_simp; done) | (go_simp; rfl)); intro gb209 hg w3 hbox hb; have n0_ := Aside0.mk (below_step (by repeat (first | (with_reducible first | exact HB.out | apply below_alloc | apply pw_below_drewN | apply below_drew1) | exact HB.out)) hb); have n1_ := Aside0.mk (hbox); have n2_ := Aside0.mk ((by rw [hg]; exact (below_size (by repeat (first | (with_reducible first | exact HB.out | apply below_alloc | apply pw_below_drewN | apply below_drew1) | exact HB.out))) : w.heap.size ≤ gb209)); have n3_ := Aside0.mk ((by rw [hg]; exact (below_size (by repeat (first | (with_reducible first | exact HB.out | apply below_alloc | apply pw_below_drewN | apply below_drew1) | exact HB.out))) : w.heap.size ≤ gb209)); clear HB; have HB := n0_; have BK209 := n1_; have GW209 := n2_; have GE209 := n3_; clear n0_ n1_ n2_ n3_; clear hb hbox hg; have hcz4_0 : w3.cell? ⟨gb209, 0, none⟩ = some (.int .i64 a0_0) := (blk_cell BK209.out 0).trans rfl; have hcz4_1 : w3.cell? ⟨gb209, 1, none⟩ = some (.int .i64 a0_1) := (blk_cell BK209.out 1).trans rfl; have hcz4_2 : w3.cell? ⟨gb209, 2, none⟩ = some (.int .i64 a0_2) := (blk_cell BK209.out 2).trans rfl; have hcz4_3 : w3.cell? ⟨gb209, 3, none⟩ = some (.slice A0_3 l0_3.length c0_3) := (blk_cell BK209.out 3).trans rfl; have hfz4_0 := blk_frozen BK209.out 0; have hfz4_1 := blk_frozen BK209.out 1; have hfz4_2 := blk_frozen BK209.out 2; have hfz4_3 := blk_frozen BK209.out 3))
    go_ret2
    exact ⟨_, by first | rfl | (simp [errW_none, errW_some] <;> rfl) | (simp [*, errW_none, errW_some] <;> rfl), by first | exact Kd.R_nil _ _ _ _ _ | exact Kd.N_nil _ _ _ _ _ | exact Kd.V_nil _ _ _ _ _ | exact Kd.Q_nil _ _ _ _ _ | exact Kd.S_nil _ _ _ _ _, by repeat (first | (with_reducible first | exact HB.out | apply below_alloc | apply pw_below_drewN | apply below_drew1 | refine below_set ?_ GE209.out) | exact HB.out)⟩
  · rw [if_neg c2] at H
    have c2b0 : decide (a0_1 < 0) = false := decide_eq_false c2
    clear c2
    by_cases c5 : a0_2 < 0
    · rw [if_pos c5] at H
      have c5b0 : decide (a0_2 < 0) = true := decide_eq_true c5
      clear c5
      replace H := Option.bind_eq_some_iff.mp H
      obtain ⟨t210, A60, H⟩ := H
      replace H : (some (128, t210)) = some (r1, r2) := H
      have A6 := Aside0.mk A60
      clear A60
      simp only [Option.some.injEq, Prod.mk.injEq] at H
      obtain ⟨rfl, rfl⟩ := H
      go_enter Try.func35, Try.ntmps35
      go_wp2_with (first | ((with_reducible refine gate_dst (N := 1) rfl ?_); refine box_event ?hg (N := 1) ?hd (cs := #[.int .i64 a0_0, .int .i64 a0_1, .int .i64 a0_2, .slice A0_3 l0_3.length c0_3]) (t := 29) ?hr ?_; (case hd => rfl); (case hg => rfl); (case hr => first | (go_simp; done) | (go_simp; rfl)); intro gb209 hg w7 hbox hb; have n0_ := Aside0.mk (below_step (by repeat (first | (with_reducible first | exact HB.out | apply below_alloc | apply pw_below_drewN | apply below_drew1) | exact HB.out)) hb); have n1_ := Aside0.mk (hbox); have n2_ := Aside0.mk ((by rw [hg]; exact (below_size (by repeat (first | (with_reducible first | exact HB.out | apply below_alloc | apply pw_below_drewN | apply below_drew1) | exact HB.out))) : w.heap.size ≤ gb209)); have n3_ := Aside0.mk ((by rw [hg]; exact (below_size (by repeat (first | (with_reducible first | exact HB.out | apply below_alloc | apply pw_below_drewN | apply below_drew1) | exact HB.out))) : w.heap.size ≤ gb209)); clear HB; have HB := n0_; have BK209 := n1_; have GW209 := n2_; have GE209 := n3_; clear n0_ n1_ n2_ n3_; clear hb hbox hg; have hcz8_0 : w7.cell? ⟨gb209, 0, none⟩ = some (.int .i64 a0_0) := (blk_cell BK209.out 0).trans rfl; have hcz8_1 : w7.cell? ⟨gb209, 1, none⟩ = some (.int .i64 a0_1) := (blk_cell BK209.out 1).trans rfl; have hcz8_2 : w7.cell? ⟨gb209, 2, none⟩ = some (.int .i64 a0_2) := (blk_cell BK209.out 2).trans rfl; have hcz8_3 : w7.cell? ⟨gb209, 3, none⟩ = some (.slice A0_3 l0_3.length c0_3) := (blk_cell BK209.out 3).trans rfl; have hfz8_0 := blk_frozen BK209.out 0; have hfz8_1 := blk_frozen BK209.out 1; have hfz8_2 := blk_frozen BK209.out 2; have hfz8_3 := blk_frozen BK209.out 3) | ((with_reducible refine gate_callee (f := 54) rfl ?_); refine goesL_ (some 14) rfl rfl Try.func54 (by kernel_rfl) rfl #[.int .u32 2, .int .i64 a0_1] rfl (by (try simp only [List.map_toArray, List.map_cons, List.map_nil]); first | done | rfl | (simp only [List.length_drop, List.length_take]; rfl)) ?_; (with_reducible refine (cutroomref16_stamped.calls k 2 a0_1 t210 _ A6.out).mono ?_); rintro e w9 ⟨v211, rfl, ho0, hb⟩; refine ⟨_, rfl, ?_⟩; have n0_ := Aside0.mk (Kd.R_lower ho0 (below_size (by repeat (first | (with_reducible first | exact HB.out | apply below_alloc | apply pw_below_drewN | apply below_drew1 | refine below_set ?_ GE209.out) | exact HB.out)))); have n1_ := Aside0.mk (blk_below (g := gb209) (o := .cells #[.int .i64 a0_0, .int .i64 a0_1, .int .i64 a0_2, .slice A0_3 l0_3.length c0_3] 29 (0, 0)) (by (with_reducible repeat (first | refine blk_drewN ?_ _ | refine blk_drew ?_ | refine blk_alloc ?_ _)); exact BK209.out) hb); have n2_ := Aside0.mk (below_step (by repeat (first | (with_reducible first | exact HB.out | apply below_alloc | apply pw_below_drewN | apply below_drew1 | refine below_set ?_ GE209.out) | exact HB.out)) hb); clear BK209; clear HB; have HO212 := n0_; have BK209 := n1_; have HB := n2_; clear n0_ n1_ n2_; (try clear hb); (try clear hb2); (try clear hk); (try clear hi); (try clear ho0)))
      go_ret2
      exact ⟨_, by first | rfl | (simp [errW_none, errW_some] <;> rfl) | (simp [*, errW_none, errW_some] <;> rfl), by (with_reducible repeat (first | apply Kd.R_alloc | apply Kd.R_drewN | apply Kd.R_drew)); exact HO212.out, by repeat (first | (with_reducible first | exact HB.out | apply below_alloc | apply pw_below_drewN | apply below_drew1 | refine below_set ?_ GE209.out) | exact HB.out)⟩
    · rw [if_neg c5] at H
      have c5b0 : decide (a0_2 < 0) = false := decide_eq_false c5
      clear c5
      replace H := Option.bind_eq_some_iff.mp H
      obtain ⟨t213, A100, H⟩ := H
      replace H : ((cutroomref16_stamped.f k 1 a0_2).bind fun t216 => (if t213.length + t216.length < 140737488355328 then (some (192, (t213 ++ t216))) else (none))) = some (r1, r2) := H
      have A10 := Aside0.mk A100
      clear A100
      replace H := Option.bind_eq_some_iff.mp H
      obtain ⟨t216, A110, H⟩ := H
      replace H : (if t213.length + t216.length < 140737488355328 then (some (192, (t213 ++ t216))) else (none)) = some (r1, r2) := H
      have A11 := Aside0.mk A110
      clear A110
      by_cases c12 : t213.length + t216.length < 140737488355328
      · rw [if_pos c12] at H
        have LMc12 := Aside0.mk c12
        clear c12
        obtain ⟨y219, hy219⟩ : ∃ y_ : List Int, y_ = (t213 ++ t216) := ⟨_, rfl⟩
        replace H : (some (192, y219)) = some (r1, r2) := by first | (rw [hy219]; with_reducible exact H) | (have H2_ := (Option.bind_some _ _).symm.trans H; rw [hy219]; with_reducible exact H2_) | (have H2_ := (Option.bind_some _ _).symm.trans H; with_reducible exact H2_) | with_reducible exact H | (rw [hy219]; exact H) | exact H
        have Ny219 := Aside0.mk hy219
        clear hy219
        simp only [Option.some.injEq, Prod.mk.injEq] at H
        obtain ⟨rfl, rfl⟩ := H
        go_enter Try.func35, Try.ntmps35
        try go_wp2_with (first | ((with_reducible refine gate_dst (N := 1) rfl ?_); refine box_event ?hg (N := 1) ?hd (cs := #[.int .i64 a0_0, .int .i64 a0_1, .int .i64 a0_2, .slice A0_3 l0_3.length c0_3]) (t := 29) ?hr ?_; (case hd => rfl); (case hg => rfl); (case hr => first | (go_simp; done) | (go_simp; rfl)); intro gb209 hg w13 hbox hb; have n0_ := Aside0.mk (below_step (by repeat (first | (with_reducible first | exact HB.out | apply below_alloc | apply pw_below_drewN | apply below_drew1) | exact HB.out)) hb); have n1_ := Aside0.mk (hbox); have n2_ := Aside0.mk ((by rw [hg]; exact (below_size (by repeat (first | (with_reducible first | exact HB.out | apply below_alloc | apply pw_below_drewN | apply below_drew1) | exact HB.out))) : w.heap.size ≤ gb209)); have n3_ := Aside0.mk ((by rw [hg]; exact (below_size (by repeat (first | (with_reducible first | exact HB.out | apply below_alloc | apply pw_below_drewN | apply below_drew1) | exact HB.out))) : w.heap.size ≤ gb209)); clear HB; have HB := n0_; have BK209 := n1_; have GW209 := n2_; have GE209 := n3_; clear n0_ n1_ n2_ n3_; clear hb hbox hg; have hcz14_0 : w13.cell? ⟨gb209, 0, none⟩ = some (.int .i64 a0_0) := (blk_cell BK209.out 0).trans rfl; have hcz14_1 : w13.cell? ⟨gb209, 1, none⟩ = some (.int .i64 a0_1) := (blk_cell BK209.out 1).trans rfl; have hcz14_2 : w13.cell? ⟨gb209, 2, none⟩ = some (.int .i64 a0_2) := (blk_cell BK209.out 2).trans rfl; have hcz14_3 : w13.cell? ⟨gb209, 3, none⟩ = some (.slice A0_3 l0_3.length c0_3) := (blk_cell BK209.out 3).trans rfl; have hfz14_0 := blk_frozen BK209.out 0; have hfz14_1 := blk_frozen BK209.out 1; have hfz14_2 := blk_frozen BK209.out 2; have hfz14_3 := blk_frozen BK209.out 3))
        have n0_ := Aside0.mk (blk_drew BK209.out)
        have n1_ := Aside0.mk (below_drew1 HB.out)
        clear BK209
        clear HB
        have BK209 := n0_
        have HB := n1_
        clear n0_ n1_
        refine start_ (n := 9) (S := fun w' => w'.cell? ⟨gb209, 0, none⟩ = some (.int .i64 a0_0) ∧ w'.cell? ⟨gb209, 1, none⟩ = some (.int .i64 a0_1) ∧ w'.cell? ⟨gb209, 2, none⟩ = some (.int .i64 a0_2) ∧ w'.cell? ⟨gb209, 3, none⟩ = some (.slice A0_3 l0_3.length c0_3)) (ds := []) #[false, false, false, false, false, false, false, false, false] (by kernel_rfl) rfl rfl ⟨(blk_cell BK209.out 0).trans rfl, (blk_cell BK209.out 1).trans rfl, (blk_cell BK209.out 2).trans rfl, (blk_cell BK209.out 3).trans rfl⟩ (fun hHeld => ?_); refine with_tabW cutroomref16_head.tab5 cutroomref16_head.bits5 (fun HT_ HW_ => ?_)
        generalize w13.drew = w15 at BK209 HB hHeld ⊢
        refine pure_ (i := 0) (N := some 15) (v := ?_) (a' := ?_) #[true, false, false, false, false, false, false, false, false] rfl rfl (any_of HT_.out (by kernel_rfl)) (fun _ _ _ h => h) (Or.inl ⟨by rfl, ?_⟩) ?_ ?_
        rotate_left
        · intro w'
          go_simp
          with_reducible rfl
        rotate_left
        · simp only [Act.put, List.setIfInBounds_toArray, List.set_cons_zero, List.set_cons_succ, i64_w, i32_w]
          rfl
        refine pure_ (i := 3) (N := some 18) (v := ?_) (a' := ?_) #[true, false, false, true, false, false, false, false, false] rfl rfl (any_of HT_.out (by kernel_rfl)) (fun _ _ _ h => h) (Or.inl ⟨by rfl, ?_⟩) ?_ ?_
        rotate_left
        · intro w'
          go_simp
          with_reducible rfl
        rotate_left
        · simp only [Act.put, List.setIfInBounds_toArray, List.set_cons_zero, List.set_cons_succ, i64_w, i32_w]
          rfl
        refine take_ (i := 1) (N := some 16) (v := ?_) (a' := ?_) #[true, true, false, true, false, false, false, false, false] rfl rfl (take_ofW HT_.out HW_.out (by kernel_rfl)) (fun _ _ _ h => h) (Or.inl ⟨by rfl, ?_⟩) hHeld ?_ ?_
        rotate_left
        · rintro w' ⟨s0, s1, s2, s3⟩
          go_simp
          with_reducible rfl
        rotate_left
        · simp only [Act.put, List.setIfInBounds_toArray, List.set_cons_zero, List.set_cons_succ, i64_w, i32_w]
          rfl
        refine take_ (i := 4) (N := some 19) (v := ?_) (a' := ?_) #[true, true, false, true, true, false, false, false, false] rfl rfl (take_ofW HT_.out HW_.out (by kernel_rfl)) (fun _ _ _ h => h) (Or.inl ⟨by rfl, ?_⟩) hHeld ?_ ?_
        rotate_left
        · rintro w' ⟨s0, s1, s2, s3⟩
          go_simp
          with_reducible rfl
        rotate_left
        · simp only [Act.put, List.setIfInBounds_toArray, List.set_cons_zero, List.set_cons_succ, i64_w, i32_w]
          rfl
        refine one_ (i := 2) (N := some 17) #[true, true, true, true, true, false, false, false, false] rfl rfl (one_of HT_.out (by kernel_rfl)) (by decide) (fun K hK => ?_)
        refine goes_ Try.func54 (by kernel_rfl) rfl #[.int .u32 3, .int .i64 a0_1] (by rfl) rfl rfl (by (try simp only [List.map_toArray, List.map_cons, List.map_nil]); first | done | rfl | (simp only [List.length_drop, List.length_take]; rfl)) ?_
        with_reducible refine (cutroomref16_stamped.calls k 3 a0_1 t213 _ A10.out).mono ?_
        rintro e w16 ⟨v214, rfl, ho0, hb⟩
        refine ⟨_, rfl, ?_⟩
        have n0_ := Aside0.mk (Kd.R_lower ho0 (below_size (by repeat (first | (with_reducible first | exact HB.out | apply below_alloc | apply pw_below_drewN | apply below_drew1 | refine below_set ?_ GE209.out) | exact HB.out))))
        have n1_ := Aside0.mk (blk_below (g := gb209) (o := .cells #[.int .i64 a0_0, .int .i64 a0_1, .int .i64 a0_2, .slice A0_3 l0_3.length c0_3] 29 (0, 0)) (by (with_reducible repeat (first | refine blk_drewN ?_ _ | refine blk_drew ?_ | refine blk_alloc ?_ _)); exact BK209.out) hb)
        have n2_ := Aside0.mk (below_step (by repeat (first | (with_reducible first | exact HB.out | apply below_alloc | apply pw_below_drewN | apply below_drew1 | refine below_set ?_ GE209.out) | exact HB.out)) hb)
        clear BK209
        clear HB
        have HO215 := n0_
        have BK209 := n1_
        have HB := n2_
        clear n0_ n1_ n2_
        (try clear hb)
        (try clear hb2)
        (try clear hk)
        (try clear hi)
        (try clear ho0)
        refine hK.out _ _ ⟨(blk_cell BK209.out 0).trans rfl, (blk_cell BK209.out 1).trans rfl, (blk_cell BK209.out 2).trans rfl, (blk_cell BK209.out 3).trans rfl⟩ (fun hHeld => ?_)
        clear hK K
        refine norm_ (a' := ?_) ?_ ?_
        rotate_left
        · show Act.put _ (some 17) _ = _
          simp only [Act.put, List.setIfInBounds_toArray, List.set_cons_zero, List.set_cons_succ, i64_w, i32_w]
          rfl
        refine one_ (i := 5) (N := some 20) #[true, true, true, true, true, true, false, false, false] rfl rfl (one_of HT_.out (by kernel_rfl)) (by decide) (fun K hK => ?_)
        refine goes_ Try.func54 (by kernel_rfl) rfl #[.int .u32 1, .int .i64 a0_2] (by rfl) rfl rfl (by (try simp only [List.map_toArray, List.map_cons, List.map_nil]); first | done | rfl | (simp only [List.length_drop, List.length_take]; rfl)) ?_
        with_reducible refine (cutroomref16_stamped.calls k 1 a0_2 t216 _ A11.out).mono ?_
        rintro e w17 ⟨v217, rfl, ho0, hb⟩
        refine ⟨_, rfl, ?_⟩
        have n0_ := Aside0.mk (Kd.R_elder' (by (with_reducible repeat (first | apply Kd.R_alloc | apply Kd.R_drewN | apply Kd.R_drew)); exact HO215.out) (Kd.R_base ho0) hb)
        have n1_ := Aside0.mk (Kd.R_lower (Kd.R_new' ho0 (Kd.R_lt (by (with_reducible repeat (first | apply Kd.R_alloc | apply Kd.R_drewN | apply Kd.R_drew)); exact HO215.out))) (below_size (by repeat (first | (with_reducible first | exact HB.out | apply below_alloc | apply pw_below_drewN | apply below_drew1 | refine below_set ?_ GE209.out) | exact HB.out))))
        have n2_ := Aside0.mk (blk_below (g := gb209) (o := .cells #[.int .i64 a0_0, .int .i64 a0_1, .int .i64 a0_2, .slice A0_3 l0_3.length c0_3] 29 (0, 0)) (by (with_reducible repeat (first | refine blk_drewN ?_ _ | refine blk_drew ?_ | refine blk_alloc ?_ _)); exact BK209.out) hb)
        have n3_ := Aside0.mk (below_step (by repeat (first | (with_reducible first | exact HB.out | apply below_alloc | apply pw_below_drewN | apply below_drew1 | refine below_set ?_ GE209.out) | exact HB.out)) hb)
        clear HO215
        clear BK209
        clear HB
        have HO215 := n0_
        have HO218 := n1_
        have BK209 := n2_
        have HB := n3_
        clear n0_ n1_ n2_ n3_
        (try clear hb)
        (try clear hb2)
        (try clear hk)
        (try clear hi)
        (try clear ho0)
        obtain ⟨Ao19, co19, eo19⟩ := Kd.R_slice HO218.out
        (first | subst eo19 | (injection eo19 with f1_ f2_ f3_; have f4_ := f1_.symm; have f5_ := f3_.symm; clear f1_ f2_ f3_; subst f4_; subst f5_))
        refine hK.out _ _ ⟨(blk_cell BK209.out 0).trans rfl, (blk_cell BK209.out 1).trans rfl, (blk_cell BK209.out 2).trans rfl, (blk_cell BK209.out 3).trans rfl⟩ (fun hHeld => ?_)
        clear hK K
        refine norm_ (a' := ?_) ?_ ?_
        rotate_left
        · show Act.put _ (some 20) _ = _
          simp only [Act.put, List.setIfInBounds_toArray, List.set_cons_zero, List.set_cons_succ, i64_w, i32_w]
          rfl
        refine one_ (i := 6) (N := some 21) #[true, true, true, true, true, true, true, false, false] rfl rfl (one_of HT_.out (by kernel_rfl)) (by decide) (fun K hK => ?_)
        refine Kd.R_append_rows_step (Kd.int .u8) (w0 := w) w.heap.size (by rfl) (.tmp 17) (.tmp 20) 27 5 (.int .u8 0) 1 rfl Try.underlying27 info5 rfl (by decide) (by omega) v214 t213 t216 _ _ _ (fun k_ => some k_ ≠ (.slice Ao19 t216.length co19 : Value).ownBlock) (fun _ => False) rfl rfl ?aO ?aR (fun _ _ h => h) (fun _ h => h.elim) ?aF ?aB ?aS ?aL ?_
        (case aR => repeat (first | exact (Kd.R_reads' HO218.out).2.2 | (with_reducible refine Kd.C_alloc ?_ _) | (with_reducible refine Kd.C_drewN ?_ _) | (with_reducible refine Kd.C_drew ?_)))
        (case aB => exact (by repeat (first | (with_reducible first | exact HB.out | apply below_alloc | apply pw_below_drewN | apply below_drew1 | refine below_set ?_ GE209.out) | exact HB.out)))
        (case aF => exact (fun k_ hk => Kd.fresh' (Kd.R_lt (by (with_reducible repeat (first | apply Kd.R_alloc | apply Kd.R_drewN | apply Kd.R_drew)); exact HO218.out)) k_ hk))
        (case aO => exact (by (with_reducible repeat (first | apply Kd.R_alloc | apply Kd.R_drewN | apply Kd.R_drew)); exact Kd.R_mono HO215.out (fun _ hk => hk.2)))
        (case aS => exact (below_size (by repeat (first | (with_reducible first | exact HB.out | apply below_alloc | apply pw_below_drewN | apply below_drew1 | refine below_set ?_ GE209.out) | exact HB.out))))
        (case aL => have := LMc12.out; omega)
        intro v220 w18 ho hb hg hat
        rw [← Ny219.out] at ho
        have n0_ := Aside0.mk (blk_grown (g := gb209) (o := .cells #[.int .i64 a0_0, .int .i64 a0_1, .int .i64 a0_2, .slice A0_3 l0_3.length c0_3] 29 (0, 0)) (by (with_reducible repeat (first | refine blk_drewN ?_ _ | refine blk_drew ?_ | refine blk_alloc ?_ _)); exact BK209.out) hg (Kd.R_ne HO215.out BK209.out (by decide)))
        have n1_ := Aside0.mk (Kd.R_after (ok := (fun _ => True)) (by (with_reducible repeat (first | apply Kd.R_alloc | apply Kd.R_drewN | apply Kd.R_drew)); exact HO218.out) hg hat)
        have n2_ := Aside0.mk (hb)
        have n3_ := Aside0.mk (ho)
        clear BK209
        clear HO218
        clear HB
        clear HO215
        have BK209 := n0_
        have HO218 := n1_
        have HB := n2_
        have HO221 := n3_
        clear n0_ n1_ n2_ n3_
        clear ho hb hg hat
        refine hK.out _ _ ⟨(blk_cell BK209.out 0).trans rfl, (blk_cell BK209.out 1).trans rfl, (blk_cell BK209.out 2).trans rfl, (blk_cell BK209.out 3).trans rfl⟩ (fun hHeld => ?_)
        clear hK K
        refine norm_ (a' := ?_) ?_ ?_
        rotate_left
        · show Act.put _ (some 21) _ = _
          simp only [Act.put, List.setIfInBounds_toArray, List.set_cons_zero, List.set_cons_succ, i64_w, i32_w]
          rfl
        refine pure_ (i := 7) (N := some 2) (v := ?_) (a' := ?_) #[true, true, true, true, true, true, true, true, false] rfl rfl (any_of HT_.out (by kernel_rfl)) (fun _ _ _ h => h) (Or.inl ⟨by rfl, ?_⟩) ?_ ?_
        rotate_left
        · intro w'
          go_simp
          with_reducible rfl
        rotate_left
        · simp only [Act.put, List.setIfInBounds_toArray, List.set_cons_zero, List.set_cons_succ, i64_w, i32_w]
          rfl
        refine pure_ (i := 8) (N := some 3) (v := ?_) (a' := ?_) #[true, true, true, true, true, true, true, true, true] rfl rfl (any_of HT_.out (by kernel_rfl)) (fun _ _ _ h => h) (Or.inl ⟨by rfl, ?_⟩) ?_ ?_
        rotate_left
        · intro w'
          go_simp
          with_reducible rfl
        rotate_left
        · simp only [Act.put, List.setIfInBounds_toArray, List.set_cons_zero, List.set_cons_succ, i64_w, i32_w]
          rfl
        refine done_ (done_of HT_.out (by kernel_rfl)) ?_
        try go_wp2
        go_ret2
        exact ⟨_, by first | rfl | (simp [errW_none, errW_some] <;> rfl) | (simp [*, errW_none, errW_some] <;> rfl), by (with_reducible repeat (first | apply Kd.R_alloc | apply Kd.R_drewN | apply Kd.R_drew)); exact Kd.R_mono HO221.out (fun _ hk => trivial), by repeat (first | (with_reducible first | exact HB.out | apply below_alloc | apply pw_below_drewN | apply below_drew1 | refine below_set ?_ GE209.out) | exact HB.out)⟩
      · rw [if_neg c12] at H
        exact absurd H (by simp)

end Go.Proofs.Ytdkibpdgnocgaaa.PPesPuts
