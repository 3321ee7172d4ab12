-- Written for this claim by a turned copy of the kit's print (wip/printx/mk.py). By an AI agent.
import Derived.Test.YtdkibpdgnocgaaaPPesTakesx0
import Derived.Test.YtdkibpdgnocgaaaPPesTakesx4
namespace Go.Proofs.Ytdkibpdgnocgaaa.PPesTakes
open Go.RowKit Go.Proofs.YtdkibpdgnocgaaaW.PrintWords Go.Proofs.YtdkibpdgnocgaaaW.PrintLast Go.Proofs.YtdkibpdgnocgaaaW.PrintMore
attribute [local go_sem] max2_int min2_int max_two min_two max_three min_three max_four min_four   -- for this text's walks alone
set_option linter.unusedVariables false
set_option linter.unusedSimpArgs false

/-! ### cutroomref16_Put: function 21 -/
def cutroomref16_Put.f (k : Nat) (a0_0 : Int) (a0_1 : Int) (a0_2 : Int) (l0_3 : List Int) : Option (List Int × Int) := (cutroomref16_Valid.f a0_0 a0_1 a0_2 l0_3).bind fun t259 => (if t259 = true then ((cutroomref16_head.f k a0_0 a0_1 a0_2 l0_3).bind fun bt260 => (if (wrap64 ((wrap64 (3 + (bt260.2.length : Int))) + (l0_3.length : Int))) > 65535 then (some (([] : List Int), 5)) else ((some (([0, 0, 1, (a0_0) % 256, ((wrap64 ((wrap64 (3 + (bt260.2.length : Int))) + (l0_3.length : Int))) / 256) % 256, (wrap64 ((wrap64 (3 + (bt260.2.length : Int))) + (l0_3.length : Int))) % 256, 128, bt260.1, ((bt260.2.length : Int)) % 256] : List Int) : List Int)).bind fun y264 => (if y264.length + bt260.2.length < 140737488355328 then ((some (y264 ++ bt260.2 : List Int)).bind fun y267 => (if y267.length + l0_3.length < 140737488355328 then (some ((y267 ++ l0_3), 0)) else (none))) else (none))))) else (some (([] : List Int), 1)))
theorem cutroomref16_Put.mono : ∀ a0 a1 a2 a3 k, LeO (cutroomref16_Put.f k a0 a1 a2 a3) (cutroomref16_Put.f (k + 1) a0 a1 a2 a3) := by
  intro a0 a1 a2 a3 k
  unfold cutroomref16_Put.f
  repeat' first
      | (with_reducible exact cutroomref16_head.mono _ _ _ _ _)
      | (with_reducible exact LeO.refl _)
      | (with_reducible exact LeO.none _)
      | (with_reducible refine LeO.ite ?_ ?_)
      | (with_reducible refine LeO.bind ?_ (fun _ => ?_))
      | exact cutroomref16_head.mono _ _ _ _ _
      | exact LeO.none _
      | refine LeO.ite ?_ ?_
      | refine LeO.bind ?_ (fun _ => ?_)
def cutroomref16_Put.T8 : Bool × List (List Nat × List Nat) := (true, [([], []), ([], []), ([0, 1], [0, 1]), ([], []), ([3], [3]), ([2, 4, 2], [2, 4]), ([5, 5, 0, 1, 2, 3, 4, 5], [5]), ([6, 0, 1, 2, 3, 4, 5, 6], [])])
def cutroomref16_Put.B8 : List Nat := [0, 0, 3, 0, 8, 31, 63, 127]
theorem cutroomref16_Put.tab8 : rtab .any (opsOf Try.f21 8) = cutroomref16_Put.T8 := by kernel_rfl
theorem cutroomref16_Put.bits8 : waitsOk cutroomref16_Put.T8.2 cutroomref16_Put.B8 = true := by kernel_rfl
set_option maxHeartbeats 8000000 in
set_option maxRecDepth 100000 in
theorem cutroomref16_Put.calls (k : Nat) (a0_0 : Int) (a0_1 : Int) (a0_2 : Int) (A0_3 : Option Addr) (c0_3 : Nat) (l0_3 : List Int) (r1 : List Int) (r2 : Int) (w : World) (hr0_3 : Kd.C (Kd.int .u8) w A0_3 l0_3.length l0_3) (hc0_3 : l0_3.length ≤ c0_3) (h : cutroomref16_Put.f k a0_0 a0_1 a0_2 l0_3 = some (r1, r2)) :
    Calls Try.prog 21 #[.agg #[.int .i64 a0_0, .int .i64 a0_1, .int .i64 a0_2, .slice A0_3 l0_3.length c0_3]] w fun e w' => ∃ v0_ : Value, e = .returned (.tuple #[v0_, .int .i64 r2]) ∧ Kd.R (Kd.int .u8) 5 w' w.heap.size (fun _ => True) v0_ r1 ∧ Below w.heap.size w w' := by
  have hu29 := Try.underlying29
  have HR0_3 := Aside0.mk hr0_3
  have HC0_3 := Aside0.mk hc0_3
  clear hr0_3 hc0_3
  have HB := Aside0.mk (Below.refl w.heap.size w)
  have H : ((cutroomref16_Valid.f a0_0 a0_1 a0_2 l0_3).bind fun t259 => (if t259 = true then ((cutroomref16_head.f k a0_0 a0_1 a0_2 l0_3).bind fun bt260 => (if (wrap64 ((wrap64 (3 + (bt260.2.length : Int))) + (l0_3.length : Int))) > 65535 then (some (([] : List Int), 5)) else ((some (([0, 0, 1, (a0_0) % 256, ((wrap64 ((wrap64 (3 + (bt260.2.length : Int))) + (l0_3.length : Int))) / 256) % 256, (wrap64 ((wrap64 (3 + (bt260.2.length : Int))) + (l0_3.length : Int))) % 256, 128, bt260.1, ((bt260.2.length : Int)) % 256] : List Int) : List Int)).bind fun y264 => (if y264.length + bt260.2.length < 140737488355328 then ((some (y264 ++ bt260.2 : List Int)).bind fun y267 => (if y267.length + l0_3.length < 140737488355328 then (some ((y267 ++ l0_3), 0)) else (none))) else (none))))) else (some (([] : List Int), 1)))) = some (r1, r2) := h
  clear h
  replace H := Option.bind_eq_some_iff.mp H
  obtain ⟨t259, A20, H⟩ := H
  replace H : (if t259 = true then ((cutroomref16_head.f k a0_0 a0_1 a0_2 l0_3).bind fun bt260 => (if (wrap64 ((wrap64 (3 + (bt260.2.length : Int))) + (l0_3.length : Int))) > 65535 then (some (([] : List Int), 5)) else ((some (([0, 0, 1, (a0_0) % 256, ((wrap64 ((wrap64 (3 + (bt260.2.length : Int))) + (l0_3.length : Int))) / 256) % 256, (wrap64 ((wrap64 (3 + (bt260.2.length : Int))) + (l0_3.length : Int))) % 256, 128, bt260.1, ((bt260.2.length : Int)) % 256] : List Int) : List Int)).bind fun y264 => (if y264.length + bt260.2.length < 140737488355328 then ((some (y264 ++ bt260.2 : List Int)).bind fun y267 => (if y267.length + l0_3.length < 140737488355328 then (some ((y267 ++ l0_3), 0)) else (none))) else (none))))) else (some (([] : List Int), 1))) = some (r1, r2) := H
  have A2 := Aside0.mk A20
  clear A20
  by_cases c3 : t259 = true
  · subst c3
    have H1 : ((cutroomref16_head.f k a0_0 a0_1 a0_2 l0_3).bind fun bt260 => (if (wrap64 ((wrap64 (3 + (bt260.2.length : Int))) + (l0_3.length : Int))) > 65535 then (some (([] : List Int), 5)) else ((some (([0, 0, 1, (a0_0) % 256, ((wrap64 ((wrap64 (3 + (bt260.2.length : Int))) + (l0_3.length : Int))) / 256) % 256, (wrap64 ((wrap64 (3 + (bt260.2.length : Int))) + (l0_3.length : Int))) % 256, 128, bt260.1, ((bt260.2.length : Int)) % 256] : List Int) : List Int)).bind fun y264 => (if y264.length + bt260.2.length < 140737488355328 then ((some (y264 ++ bt260.2 : List Int)).bind fun y267 => (if y267.length + l0_3.length < 140737488355328 then (some ((y267 ++ l0_3), 0)) else (none))) else (none))))) = some (r1, r2) := by rw [if_pos rfl] at H; exact H
    clear H
    have H := H1
    clear H1
    replace H := Option.bind_eq_some_iff.mp H
    obtain ⟨⟨t260, t261⟩, A40, H⟩ := H
    replace H : (if (wrap64 ((wrap64 (3 + (t261.length : Int))) + (l0_3.length : Int))) > 65535 then (some (([] : List Int), 5)) else ((some (([0, 0, 1, (a0_0) % 256, ((wrap64 ((wrap64 (3 + (t261.length : Int))) + (l0_3.length : Int))) / 256) % 256, (wrap64 ((wrap64 (3 + (t261.length : Int))) + (l0_3.length : Int))) % 256, 128, t260, ((t261.length : Int)) % 256] : List Int) : List Int)).bind fun y264 => (if y264.length + t261.length < 140737488355328 then ((some (y264 ++ t261 : List Int)).bind fun y267 => (if y267.length + l0_3.length < 140737488355328 then (some ((y267 ++ l0_3), 0)) else (none))) else (none)))) = some (r1, r2) := H
    have A4 := Aside0.mk A40
    clear A40
    by_cases c5 : (wrap64 ((wrap64 (3 + (t261.length : Int))) + (l0_3.length : Int))) > 65535
    · rw [if_pos c5] at H
      have c5b0 : decide (65535 < (wrap64 ((wrap64 (3 + (t261.length : Int))) + (l0_3.length : Int)))) = true := decide_eq_true c5
      clear c5
      simp only [Option.some.injEq, Prod.mk.injEq] at H
      obtain ⟨rfl, rfl⟩ := H
      go_enter Try.func21, Try.ntmps21
      go_wp2_with (first | ((with_reducible refine gate_dst (N := 1) rfl ?_); refine box_event ?hg (N := 1) ?hd (cs := #[.int .i64 a0_0, .int .i64 a0_1, .int .i64 a0_2, .slice A0_3 l0_3.length c0_3]) (t := 29) ?hr ?_; (case hd => rfl); (case hg => rfl); (case hr => first | (go_simp; done) | (go_simp; rfl)); intro gb258 hg w6 hbox hb; have n0_ := Aside0.mk (below_step (by repeat (first | (with_reducible first | exact HB.out | apply below_alloc | apply pw_below_drewN | apply below_drew1) | exact HB.out)) hb); have n1_ := Aside0.mk (hbox); have n2_ := Aside0.mk ((by rw [hg]; exact (below_size (by repeat (first | (with_reducible first | exact HB.out | apply below_alloc | apply pw_below_drewN | apply below_drew1) | exact HB.out))) : w.heap.size ≤ gb258)); have n3_ := Aside0.mk ((by rw [hg]; exact (below_size (by repeat (first | (with_reducible first | exact HB.out | apply below_alloc | apply pw_below_drewN | apply below_drew1) | exact HB.out))) : w.heap.size ≤ gb258)); clear HB; have HB := n0_; have BK258 := n1_; have GW258 := n2_; have GE258 := n3_; clear n0_ n1_ n2_ n3_; clear hb hbox hg; have hcz7_0 : w6.cell? ⟨gb258, 0, none⟩ = some (.int .i64 a0_0) := (blk_cell BK258.out 0).trans rfl; have hcz7_1 : w6.cell? ⟨gb258, 1, none⟩ = some (.int .i64 a0_1) := (blk_cell BK258.out 1).trans rfl; have hcz7_2 : w6.cell? ⟨gb258, 2, none⟩ = some (.int .i64 a0_2) := (blk_cell BK258.out 2).trans rfl; have hcz7_3 : w6.cell? ⟨gb258, 3, none⟩ = some (.slice A0_3 l0_3.length c0_3) := (blk_cell BK258.out 3).trans rfl; have hfz7_0 := blk_frozen BK258.out 0; have hfz7_1 := blk_frozen BK258.out 1; have hfz7_2 := blk_frozen BK258.out 2; have hfz7_3 := blk_frozen BK258.out 3) | ((with_reducible refine gate_callee (f := 32) rfl ?_); refine goesL_ (some 9) rfl rfl Try.func32 (by kernel_rfl) rfl #[.agg #[.int .i64 a0_0, .int .i64 a0_1, .int .i64 a0_2, .slice A0_3 l0_3.length c0_3]] rfl (by (try simp only [List.map_toArray, List.map_cons, List.map_nil]); first | done | rfl | (simp only [List.length_drop, List.length_take]; rfl)) ?_; (with_reducible refine (cutroomref16_Valid.calls a0_0 a0_1 a0_2 _ _ l0_3 true _ ?side1 ?side2 A2.out).mono ?_); (case side1 => repeat (first | exact (Kd.C_below HR0_3.out HB.out) | (with_reducible refine Kd.C_alloc ?_ _) | (with_reducible refine Kd.C_drewN ?_ _) | (with_reducible refine Kd.C_drew ?_))); (case side2 => exact HC0_3.out); rintro e w8 ⟨rfl, hb⟩; refine ⟨_, rfl, ?_⟩; have n0_ := Aside0.mk (blk_below (g := gb258) (o := .cells #[.int .i64 a0_0, .int .i64 a0_1, .int .i64 a0_2, .slice A0_3 l0_3.length c0_3] 29 (0, 0)) (by (with_reducible repeat (first | refine blk_drewN ?_ _ | refine blk_drew ?_ | refine blk_alloc ?_ _)); exact BK258.out) hb); have n1_ := Aside0.mk (below_step (by repeat (first | (with_reducible first | exact HB.out | apply below_alloc | apply pw_below_drewN | apply below_drew1 | refine below_set ?_ GE258.out) | exact HB.out)) hb); clear BK258; clear HB; have BK258 := n0_; have HB := n1_; clear n0_ n1_; (try clear hb); (try clear hb2); (try clear hk); (try clear hi); have hcz9_0 : w8.cell? ⟨gb258, 0, none⟩ = some (.int .i64 a0_0) := (blk_cell BK258.out 0).trans rfl; have hcz9_1 : w8.cell? ⟨gb258, 1, none⟩ = some (.int .i64 a0_1) := (blk_cell BK258.out 1).trans rfl; have hcz9_2 : w8.cell? ⟨gb258, 2, none⟩ = some (.int .i64 a0_2) := (blk_cell BK258.out 2).trans rfl; have hcz9_3 : w8.cell? ⟨gb258, 3, none⟩ = some (.slice A0_3 l0_3.length c0_3) := (blk_cell BK258.out 3).trans rfl; have hfz9_0 := blk_frozen BK258.out 0; have hfz9_1 := blk_frozen BK258.out 1; have hfz9_2 := blk_frozen BK258.out 2; have hfz9_3 := blk_frozen BK258.out 3) | ((with_reducible refine gate_callee (f := 35) rfl ?_); refine goesL_ (some 13) rfl rfl Try.func35 (by kernel_rfl) rfl #[.agg #[.int .i64 a0_0, .int .i64 a0_1, .int .i64 a0_2, .slice A0_3 l0_3.length c0_3]] rfl (by (try simp only [List.map_toArray, List.map_cons, List.map_nil]); first | done | rfl | (simp only [List.length_drop, List.length_take]; rfl)) ?_; (with_reducible refine (cutroomref16_head.calls k a0_0 a0_1 a0_2 _ _ l0_3 t260 t261 _ ?side1 ?side2 A4.out).mono ?_); (case side1 => repeat (first | exact (Kd.C_below HR0_3.out HB.out) | (with_reducible refine Kd.C_alloc ?_ _) | (with_reducible refine Kd.C_drewN ?_ _) | (with_reducible refine Kd.C_drew ?_))); (case side2 => exact HC0_3.out); rintro e w10 ⟨v262, rfl, ho0, hb⟩; refine ⟨_, rfl, ?_⟩; have n0_ := Aside0.mk (Kd.R_lower ho0 (below_size (by repeat (first | (with_reducible first | exact HB.out | apply below_alloc | apply pw_below_drewN | apply below_drew1 | refine below_set ?_ GE258.out) | exact HB.out)))); have n1_ := Aside0.mk (blk_below (g := gb258) (o := .cells #[.int .i64 a0_0, .int .i64 a0_1, .int .i64 a0_2, .slice A0_3 l0_3.length c0_3] 29 (0, 0)) (by (with_reducible repeat (first | refine blk_drewN ?_ _ | refine blk_drew ?_ | refine blk_alloc ?_ _)); exact BK258.out) hb); have n2_ := Aside0.mk (below_step (by repeat (first | (with_reducible first | exact HB.out | apply below_alloc | apply pw_below_drewN | apply below_drew1 | refine below_set ?_ GE258.out) | exact HB.out)) hb); clear BK258; clear HB; have HO263 := n0_; have BK258 := n1_; have HB := n2_; clear n0_ n1_ n2_; (try clear hb); (try clear hb2); (try clear hk); (try clear hi); (try clear ho0); obtain ⟨Ao11, co11, eo11⟩ := Kd.R_slice HO263.out; subst eo11; have hcz12_0 : w10.cell? ⟨gb258, 0, none⟩ = some (.int .i64 a0_0) := (blk_cell BK258.out 0).trans rfl; have hcz12_1 : w10.cell? ⟨gb258, 1, none⟩ = some (.int .i64 a0_1) := (blk_cell BK258.out 1).trans rfl; have hcz12_2 : w10.cell? ⟨gb258, 2, none⟩ = some (.int .i64 a0_2) := (blk_cell BK258.out 2).trans rfl; have hcz12_3 : w10.cell? ⟨gb258, 3, none⟩ = some (.slice A0_3 l0_3.length c0_3) := (blk_cell BK258.out 3).trans rfl; have hfz12_0 := blk_frozen BK258.out 0; have hfz12_1 := blk_frozen BK258.out 1; have hfz12_2 := blk_frozen BK258.out 2; have hfz12_3 := blk_frozen BK258.out 3))
      go_ret2
      exact ⟨_, by first | rfl | (simp [errW_none, errW_some] <;> rfl) | (simp [*, errW_none, errW_some] <;> rfl), by first | exact Kd.R_nil _ _ _ _ _ | exact Kd.N_nil _ _ _ _ _ | exact Kd.V_nil _ _ _ _ _ | exact Kd.Q_nil _ _ _ _ _ | exact Kd.S_nil _ _ _ _ _, by repeat (first | (with_reducible first | exact HB.out | apply below_alloc | apply pw_below_drewN | apply below_drew1 | refine below_set ?_ GE258.out) | exact HB.out)⟩
    · rw [if_neg c5] at H
      have c5b0 : decide (65535 < (wrap64 ((wrap64 (3 + (t261.length : Int))) + (l0_3.length : Int)))) = false := decide_eq_false c5
      clear c5
      obtain ⟨y264, hy264⟩ : ∃ y_ : List Int, y_ = (([0, 0, 1, (a0_0) % 256, ((wrap64 ((wrap64 (3 + (t261.length : Int))) + (l0_3.length : Int))) / 256) % 256, (wrap64 ((wrap64 (3 + (t261.length : Int))) + (l0_3.length : Int))) % 256, 128, t260, ((t261.length : Int)) % 256] : List Int)) := ⟨_, rfl⟩
      replace H : (if y264.length + t261.length < 140737488355328 then ((some (y264 ++ t261 : List Int)).bind fun y267 => (if y267.length + l0_3.length < 140737488355328 then (some ((y267 ++ l0_3), 0)) else (none))) else (none)) = some (r1, r2) := by first | (rw [hy264]; with_reducible exact H) | (have H2_ := (Option.bind_some _ _).symm.trans H; rw [hy264]; with_reducible exact H2_) | (have H2_ := (Option.bind_some _ _).symm.trans H; with_reducible exact H2_) | with_reducible exact H | (rw [hy264]; exact H) | exact H
      have Ny264 := Aside0.mk hy264
      clear hy264
      by_cases c13 : y264.length + t261.length < 140737488355328
      · rw [if_pos c13] at H
        have LMc13 := Aside0.mk c13
        clear c13
        obtain ⟨y267, hy267⟩ : ∃ y_ : List Int, y_ = (y264 ++ t261) := ⟨_, rfl⟩
        replace H : (if y267.length + l0_3.length < 140737488355328 then (some ((y267 ++ l0_3), 0)) else (none)) = some (r1, r2) := by first | (rw [hy267]; with_reducible exact H) | (have H2_ := (Option.bind_some _ _).symm.trans H; rw [hy267]; with_reducible exact H2_) | (have H2_ := (Option.bind_some _ _).symm.trans H; with_reducible exact H2_) | with_reducible exact H | (rw [hy267]; exact H) | exact H
        have Ny267 := Aside0.mk hy267
        clear hy267
        by_cases c14 : y267.length + l0_3.length < 140737488355328
        · rw [if_pos c14] at H
          have LMc14 := Aside0.mk c14
          clear c14
          obtain ⟨y270, hy270⟩ : ∃ y_ : List Int, y_ = (y267 ++ l0_3) := ⟨_, rfl⟩
          replace H : (some (y270, 0)) = some (r1, r2) := by first | (rw [hy270]; with_reducible exact H) | (have H2_ := (Option.bind_some _ _).symm.trans H; rw [hy270]; with_reducible exact H2_) | (have H2_ := (Option.bind_some _ _).symm.trans H; with_reducible exact H2_) | with_reducible exact H | (rw [hy270]; exact H) | exact H
          have Ny270 := Aside0.mk hy270
          clear hy270
          simp only [Option.some.injEq, Prod.mk.injEq] at H
          obtain ⟨rfl, rfl⟩ := H
          go_enter Try.func21, Try.ntmps21
          try go_wp2_with (first | ((with_reducible refine gate_dst (N := 1) rfl ?_); refine box_event ?hg (N := 1) ?hd (cs := #[.int .i64 a0_0, .int .i64 a0_1, .int .i64 a0_2, .slice A0_3 l0_3.length c0_3]) (t := 29) ?hr ?_; (case hd => rfl); (case hg => rfl); (case hr => first | (go_simp; done) | (go_simp; rfl)); intro gb258 hg w15 hbox hb; have n0_ := Aside0.mk (below_step (by repeat (first | (with_reducible first | exact HB.out | apply below_alloc | apply pw_below_drewN | apply below_drew1) | exact HB.out)) hb); have n1_ := Aside0.mk (hbox); have n2_ := Aside0.mk ((by rw [hg]; exact (below_size (by repeat (first | (with_reducible first | exact HB.out | apply below_alloc | apply pw_below_drewN | apply below_drew1) | exact HB.out))) : w.heap.size ≤ gb258)); have n3_ := Aside0.mk ((by rw [hg]; exact (below_size (by repeat (first | (with_reducible first | exact HB.out | apply below_alloc | apply pw_below_drewN | apply below_drew1) | exact HB.out))) : w.heap.size ≤ gb258)); clear HB; have HB := n0_; have BK258 := n1_; have GW258 := n2_; have GE258 := n3_; clear n0_ n1_ n2_ n3_; clear hb hbox hg; have hcz16_0 : w15.cell? ⟨gb258, 0, none⟩ = some (.int .i64 a0_0) := (blk_cell BK258.out 0).trans rfl; have hcz16_1 : w15.cell? ⟨gb258, 1, none⟩ = some (.int .i64 a0_1) := (blk_cell BK258.out 1).trans rfl; have hcz16_2 : w15.cell? ⟨gb258, 2, none⟩ = some (.int .i64 a0_2) := (blk_cell BK258.out 2).trans rfl; have hcz16_3 : w15.cell? ⟨gb258, 3, none⟩ = some (.slice A0_3 l0_3.length c0_3) := (blk_cell BK258.out 3).trans rfl; have hfz16_0 := blk_frozen BK258.out 0; have hfz16_1 := blk_frozen BK258.out 1; have hfz16_2 := blk_frozen BK258.out 2; have hfz16_3 := blk_frozen BK258.out 3) | ((with_reducible refine gate_callee (f := 32) rfl ?_); refine goesL_ (some 9) rfl rfl Try.func32 (by kernel_rfl) rfl #[.agg #[.int .i64 a0_0, .int .i64 a0_1, .int .i64 a0_2, .slice A0_3 l0_3.length c0_3]] rfl (by (try simp only [List.map_toArray, List.map_cons, List.map_nil]); first | done | rfl | (simp only [List.length_drop, List.length_take]; rfl)) ?_; (with_reducible refine (cutroomref16_Valid.calls a0_0 a0_1 a0_2 _ _ l0_3 true _ ?side1 ?side2 A2.out).mono ?_); (case side1 => repeat (first | exact (Kd.C_below HR0_3.out HB.out) | (with_reducible refine Kd.C_alloc ?_ _) | (with_reducible refine Kd.C_drewN ?_ _) | (with_reducible refine Kd.C_drew ?_))); (case side2 => exact HC0_3.out); rintro e w17 ⟨rfl, hb⟩; refine ⟨_, rfl, ?_⟩; have n0_ := Aside0.mk (blk_below (g := gb258) (o := .cells #[.int .i64 a0_0, .int .i64 a0_1, .int .i64 a0_2, .slice A0_3 l0_3.length c0_3] 29 (0, 0)) (by (with_reducible repeat (first | refine blk_drewN ?_ _ | refine blk_drew ?_ | refine blk_alloc ?_ _)); exact BK258.out) hb); have n1_ := Aside0.mk (below_step (by repeat (first | (with_reducible first | exact HB.out | apply below_alloc | apply pw_below_drewN | apply below_drew1 | refine below_set ?_ GE258.out) | exact HB.out)) hb); clear BK258; clear HB; have BK258 := n0_; have HB := n1_; clear n0_ n1_; (try clear hb); (try clear hb2); (try clear hk); (try clear hi); have hcz18_0 : w17.cell? ⟨gb258, 0, none⟩ = some (.int .i64 a0_0) := (blk_cell BK258.out 0).trans rfl; have hcz18_1 : w17.cell? ⟨gb258, 1, none⟩ = some (.int .i64 a0_1) := (blk_cell BK258.out 1).trans rfl; have hcz18_2 : w17.cell? ⟨gb258, 2, none⟩ = some (.int .i64 a0_2) := (blk_cell BK258.out 2).trans rfl; have hcz18_3 : w17.cell? ⟨gb258, 3, none⟩ = some (.slice A0_3 l0_3.length c0_3) := (blk_cell BK258.out 3).trans rfl; have hfz18_0 := blk_frozen BK258.out 0; have hfz18_1 := blk_frozen BK258.out 1; have hfz18_2 := blk_frozen BK258.out 2; have hfz18_3 := blk_frozen BK258.out 3) | ((with_reducible refine gate_callee (f := 35) rfl ?_); refine goesL_ (some 13) rfl rfl Try.func35 (by kernel_rfl) rfl #[.agg #[.int .i64 a0_0, .int .i64 a0_1, .int .i64 a0_2, .slice A0_3 l0_3.length c0_3]] rfl (by (try simp only [List.map_toArray, List.map_cons, List.map_nil]); first | done | rfl | (simp only [List.length_drop, List.length_take]; rfl)) ?_; (with_reducible refine (cutroomref16_head.calls k a0_0 a0_1 a0_2 _ _ l0_3 t260 t261 _ ?side1 ?side2 A4.out).mono ?_); (case side1 => repeat (first | exact (Kd.C_below HR0_3.out HB.out) | (with_reducible refine Kd.C_alloc ?_ _) | (with_reducible refine Kd.C_drewN ?_ _) | (with_reducible refine Kd.C_drew ?_))); (case side2 => exact HC0_3.out); rintro e w19 ⟨v262, rfl, ho0, hb⟩; refine ⟨_, rfl, ?_⟩; have n0_ := Aside0.mk (Kd.R_lower ho0 (below_size (by repeat (first | (with_reducible first | exact HB.out | apply below_alloc | apply pw_below_drewN | apply below_drew1 | refine below_set ?_ GE258.out) | exact HB.out)))); have n1_ := Aside0.mk (blk_below (g := gb258) (o := .cells #[.int .i64 a0_0, .int .i64 a0_1, .int .i64 a0_2, .slice A0_3 l0_3.length c0_3] 29 (0, 0)) (by (with_reducible repeat (first | refine blk_drewN ?_ _ | refine blk_drew ?_ | refine blk_alloc ?_ _)); exact BK258.out) hb); have n2_ := Aside0.mk (below_step (by repeat (first | (with_reducible first | exact HB.out | apply below_alloc | apply pw_below_drewN | apply below_drew1 | refine below_set ?_ GE258.out) | exact HB.out)) hb); clear BK258; clear HB; have HO263 := n0_; have BK258 := n1_; have HB := n2_; clear n0_ n1_ n2_; (try clear hb); (try clear hb2); (try clear hk); (try clear hi); (try clear ho0); obtain ⟨Ao20, co20, eo20⟩ := Kd.R_slice HO263.out; subst eo20; have hcz21_0 : w19.cell? ⟨gb258, 0, none⟩ = some (.int .i64 a0_0) := (blk_cell BK258.out 0).trans rfl; have hcz21_1 : w19.cell? ⟨gb258, 1, none⟩ = some (.int .i64 a0_1) := (blk_cell BK258.out 1).trans rfl; have hcz21_2 : w19.cell? ⟨gb258, 2, none⟩ = some (.int .i64 a0_2) := (blk_cell BK258.out 2).trans rfl; have hcz21_3 : w19.cell? ⟨gb258, 3, none⟩ = some (.slice A0_3 l0_3.length c0_3) := (blk_cell BK258.out 3).trans rfl; have hfz21_0 := blk_frozen BK258.out 0; have hfz21_1 := blk_frozen BK258.out 1; have hfz21_2 := blk_frozen BK258.out 2; have hfz21_3 := blk_frozen BK258.out 3) | ((with_reducible refine gate_dst (N := 37) rfl ?_); refine Kd.R_lit (Kd.int .u8) _ 5 ?hg (N := 37) ?hd (xs := ([0, 0, 1, (a0_0) % 256, ((wrap64 ((wrap64 (3 + (t261.length : Int))) + (l0_3.length : Int))) / 256) % 256, (wrap64 ((wrap64 (3 + (t261.length : Int))) + (l0_3.length : Int))) % 256, 128, t260, ((t261.length : Int)) % 256] : List Int)) (inner := [.int .u8 0, .int .u8 0, .int .u8 1, .int .u8 ((a0_0) % 256), .int .u8 (((wrap64 ((wrap64 (3 + (t261.length : Int))) + (l0_3.length : Int))) / 256) % 256), .int .u8 ((wrap64 ((wrap64 (3 + (t261.length : Int))) + (l0_3.length : Int))) % 256), .int .u8 128, .int .u8 t260, .int .u8 (((t261.length : Int)) % 256)]) (ok := fun _ => True) (okp := fun _ => True) ?hr ?hp (fun _ hk => hk) trivial (Below.refl _ _) (Nat.le_refl _) (by simp) ?_; (case hd => rfl); (case hg => rfl); (case hr => first | (go_simp; done) | (go_simp; rfl)); (case hp => exact (Reps.one (show Kd.M (Kd.int .u8) _ _ _ 0 [.int .u8 0] from rfl) (Reps.one (show Kd.M (Kd.int .u8) _ _ _ 0 [.int .u8 0] from rfl) (Reps.one (show Kd.M (Kd.int .u8) _ _ _ 1 [.int .u8 1] from rfl) (Reps.one (show Kd.M (Kd.int .u8) _ _ _ ((a0_0) % 256) [.int .u8 ((a0_0) % 256)] from rfl) (Reps.one (show Kd.M (Kd.int .u8) _ _ _ (((wrap64 ((wrap64 (3 + (t261.length : Int))) + (l0_3.length : Int))) / 256) % 256) [.int .u8 (((wrap64 ((wrap64 (3 + (t261.length : Int))) + (l0_3.length : Int))) / 256) % 256)] from rfl) (Reps.one (show Kd.M (Kd.int .u8) _ _ _ ((wrap64 ((wrap64 (3 + (t261.length : Int))) + (l0_3.length : Int))) % 256) [.int .u8 ((wrap64 ((wrap64 (3 + (t261.length : Int))) + (l0_3.length : Int))) % 256)] from rfl) (Reps.one (show Kd.M (Kd.int .u8) _ _ _ 128 [.int .u8 128] from rfl) (Reps.one (show Kd.M (Kd.int .u8) _ _ _ t260 [.int .u8 t260] from rfl) (Reps.one (show Kd.M (Kd.int .u8) _ _ _ (((t261.length : Int)) % 256) [.int .u8 (((t261.length : Int)) % 256)] from rfl) (Reps.none _ _))))))))))); intro v265 w22 ho23 hb hg_ hnew_; clear hg_ hnew_; (first | rw [← Ny264.out] at ho23 | (simp only [Int.reduceToNat] at ho23; rw [← Ny264.out] at ho23)); have n0_ := Aside0.mk (Kd.R_elder' (by (with_reducible repeat (first | apply Kd.R_alloc | apply Kd.R_drewN | apply Kd.R_drew)); exact HO263.out) (Kd.R_base ho23) hb); have n1_ := Aside0.mk (Kd.R_lower (Kd.R_new' ho23 (Kd.R_lt (by (with_reducible repeat (first | apply Kd.R_alloc | apply Kd.R_drewN | apply Kd.R_drew)); exact HO263.out))) (below_size (by repeat (first | (with_reducible first | exact HB.out | apply below_alloc | apply pw_below_drewN | apply below_drew1 | refine below_set ?_ GE258.out) | exact HB.out)))); have n2_ := Aside0.mk (blk_below (g := gb258) (o := .cells #[.int .i64 a0_0, .int .i64 a0_1, .int .i64 a0_2, .slice A0_3 l0_3.length c0_3] 29 (0, 0)) (by (with_reducible repeat (first | refine blk_drewN ?_ _ | refine blk_drew ?_ | refine blk_alloc ?_ _)); exact BK258.out) hb); have n3_ := Aside0.mk (below_step (by repeat (first | (with_reducible first | exact HB.out | apply below_alloc | apply pw_below_drewN | apply below_drew1 | refine below_set ?_ GE258.out) | exact HB.out)) hb); clear HO263; clear BK258; clear HB; have HO263 := n0_; have HO266 := n1_; have BK258 := n2_; have HB := n3_; clear n0_ n1_ n2_ n3_; clear hb ho23))
          have n0_ := Aside0.mk (Kd.R_drew HO263.out)
          have n1_ := Aside0.mk (Kd.R_drew HO266.out)
          have n2_ := Aside0.mk (blk_drew BK258.out)
          have n3_ := Aside0.mk (below_drew1 HB.out)
          clear HO263
          clear HO266
          clear BK258
          clear HB
          have HO263 := n0_
          have HO266 := n1_
          have BK258 := n2_
          have HB := n3_
          clear n0_ n1_ n2_ n3_
          refine start_ (n := 8) (S := fun w' => w'.cell? ⟨gb258, 0, none⟩ = some (.int .i64 a0_0) ∧ w'.cell? ⟨gb258, 1, none⟩ = some (.int .i64 a0_1) ∧ w'.cell? ⟨gb258, 2, none⟩ = some (.int .i64 a0_2) ∧ w'.cell? ⟨gb258, 3, none⟩ = some (.slice A0_3 l0_3.length c0_3)) (ds := []) #[false, false, false, false, false, false, false, false] (by kernel_rfl) rfl rfl ⟨(blk_cell BK258.out 0).trans rfl, (blk_cell BK258.out 1).trans rfl, (blk_cell BK258.out 2).trans rfl, (blk_cell BK258.out 3).trans rfl⟩ (fun hHeld => ?_); refine with_tabW cutroomref16_Put.tab8 cutroomref16_Put.bits8 (fun HT_ HW_ => ?_)
          generalize w22.drew = w24 at HO263 HO266 BK258 HB hHeld ⊢
          refine pure_ (i := 0) (N := some 38) (v := ?_) (a' := ?_) #[true, false, false, false, false, false, false, false] rfl rfl (any_of HT_.out (by kernel_rfl)) (fun _ _ _ h => h) (Or.inl ⟨by rfl, ?_⟩) ?_ ?_
          rotate_left
          · intro w'
            go_simp
            with_reducible rfl
          rotate_left
          · simp only [Act.put, List.setIfInBounds_toArray, List.set_cons_zero, List.set_cons_succ, i64_w, i32_w]
            rfl
          refine pure_ (i := 1) (N := some 39) (v := ?_) (a' := ?_) #[true, true, false, false, false, false, false, false] rfl rfl (any_of HT_.out (by kernel_rfl)) (fun _ _ _ h => h) (Or.inl ⟨by rfl, ?_⟩) ?_ ?_
          rotate_left
          · intro w'
            go_simp
            with_reducible rfl
          rotate_left
          · simp only [Act.put, List.setIfInBounds_toArray, List.set_cons_zero, List.set_cons_succ, i64_w, i32_w]
            rfl
          refine pure_ (i := 3) (N := some 41) (v := ?_) (a' := ?_) #[true, true, false, true, false, false, false, false] rfl rfl (any_of HT_.out (by kernel_rfl)) (fun _ _ _ h => h) (Or.inl ⟨by rfl, ?_⟩) ?_ ?_
          rotate_left
          · intro w'
            go_simp
            with_reducible rfl
          rotate_left
          · simp only [Act.put, List.setIfInBounds_toArray, List.set_cons_zero, List.set_cons_succ, i64_w, i32_w]
            rfl
          refine take_ (i := 4) (N := some 42) (v := ?_) (a' := ?_) #[true, true, false, true, true, false, false, false] rfl rfl (take_ofW HT_.out HW_.out (by kernel_rfl)) (fun _ _ _ h => h) (Or.inl ⟨by rfl, ?_⟩) hHeld ?_ ?_
          rotate_left
          · rintro w' ⟨s0, s1, s2, s3⟩
            go_simp
            with_reducible rfl
          rotate_left
          · simp only [Act.put, List.setIfInBounds_toArray, List.set_cons_zero, List.set_cons_succ, i64_w, i32_w]
            rfl
          refine one_ (i := 2) (N := some 40) #[true, true, true, true, true, false, false, false] rfl rfl (one_of HT_.out (by kernel_rfl)) (by decide) (fun K hK => ?_)
          refine Kd.R_append_rows_step (Kd.int .u8) (w0 := w) w.heap.size (by rfl) (.tmp 38) (.tmp 39) 27 5 (.int .u8 0) 1 rfl Try.underlying27 info5 rfl (by decide) (by omega) v265 y264 t261 _ _ _ (fun k_ => some k_ ≠ (.slice Ao20 t261.length co20 : Value).ownBlock) (fun _ => False) rfl rfl ?aO ?aR (fun _ _ h => h) (fun _ h => h.elim) ?aF ?aB ?aS ?aL ?_
          (case aR => repeat (first | exact (Kd.R_reads' HO263.out).2.2 | (with_reducible refine Kd.C_alloc ?_ _) | (with_reducible refine Kd.C_drewN ?_ _) | (with_reducible refine Kd.C_drew ?_)))
          (case aB => exact (by repeat (first | (with_reducible first | exact HB.out | apply below_alloc | apply pw_below_drewN | apply below_drew1 | refine below_set ?_ GE258.out) | exact HB.out)))
          (case aF => exact (fun k_ hk => Kd.fresh' (Kd.R_lt (by (with_reducible repeat (first | apply Kd.R_alloc | apply Kd.R_drewN | apply Kd.R_drew)); exact HO263.out)) k_ hk))
          (case aO => exact (by (with_reducible repeat (first | apply Kd.R_alloc | apply Kd.R_drewN | apply Kd.R_drew)); exact Kd.R_mono HO266.out (fun _ hk => hk.2)))
          (case aS => exact (below_size (by repeat (first | (with_reducible first | exact HB.out | apply below_alloc | apply pw_below_drewN | apply below_drew1 | refine below_set ?_ GE258.out) | exact HB.out))))
          (case aL => have := LMc13.out; omega)
          intro v268 w25 ho hb hg hat
          rw [← Ny267.out] at ho
          have n0_ := Aside0.mk (blk_grown (g := gb258) (o := .cells #[.int .i64 a0_0, .int .i64 a0_1, .int .i64 a0_2, .slice A0_3 l0_3.length c0_3] 29 (0, 0)) (by (with_reducible repeat (first | refine blk_drewN ?_ _ | refine blk_drew ?_ | refine blk_alloc ?_ _)); exact BK258.out) hg (Kd.R_ne HO266.out BK258.out (by decide)))
          have n1_ := Aside0.mk (Kd.R_after (ok := (fun _ => True)) (by (with_reducible repeat (first | apply Kd.R_alloc | apply Kd.R_drewN | apply Kd.R_drew)); exact HO263.out) hg hat)
          have n2_ := Aside0.mk (hb)
          have n3_ := Aside0.mk (ho)
          clear BK258
          clear HO263
          clear HB
          clear HO266
          have BK258 := n0_
          have HO263 := n1_
          have HB := n2_
          have HO269 := n3_
          clear n0_ n1_ n2_ n3_
          clear ho hb hg hat
          refine hK.out _ _ ⟨(blk_cell BK258.out 0).trans rfl, (blk_cell BK258.out 1).trans rfl, (blk_cell BK258.out 2).trans rfl, (blk_cell BK258.out 3).trans rfl⟩ (fun hHeld => ?_)
          clear hK K
          refine norm_ (a' := ?_) ?_ ?_
          rotate_left
          · show Act.put _ (some 40) _ = _
            simp only [Act.put, List.setIfInBounds_toArray, List.set_cons_zero, List.set_cons_succ, i64_w, i32_w]
            rfl
          refine one_ (i := 5) (N := some 43) #[true, true, true, true, true, true, false, false] rfl rfl (one_of HT_.out (by kernel_rfl)) (by decide) (fun K hK => ?_)
          refine Kd.R_append_rows_step (Kd.int .u8) (w0 := w) w.heap.size (by rfl) (.tmp 40) (.tmp 42) 27 5 (.int .u8 0) 1 rfl Try.underlying27 info5 rfl (by decide) (by omega) v268 y267 l0_3 _ _ _ (fun k_ => some k_ ≠ (.slice Ao20 t261.length co20 : Value).ownBlock) (fun _ => False) rfl rfl ?aO ?aR (fun _ _ h => h) (fun _ h => h.elim) ?aF ?aB ?aS ?aL ?_
          (case aR => repeat (first | exact (Kd.C_below HR0_3.out HB.out) | (with_reducible refine Kd.C_alloc ?_ _) | (with_reducible refine Kd.C_drewN ?_ _) | (with_reducible refine Kd.C_drew ?_)))
          (case aB => exact (by repeat (first | (with_reducible first | exact HB.out | apply below_alloc | apply pw_below_drewN | apply below_drew1 | refine below_set ?_ GE258.out) | exact HB.out)))
          (case aF => exact (fun k_ hk => Kd.fresh' (Kd.R_lt (by (with_reducible repeat (first | apply Kd.R_alloc | apply Kd.R_drewN | apply Kd.R_drew)); exact HO263.out)) k_ hk))
          (case aO => exact (by (with_reducible repeat (first | apply Kd.R_alloc | apply Kd.R_drewN | apply Kd.R_drew)); exact HO269.out))
          (case aS => exact (below_size (by repeat (first | (with_reducible first | exact HB.out | apply below_alloc | apply pw_below_drewN | apply below_drew1 | refine below_set ?_ GE258.out) | exact HB.out))))
          (case aL => have := LMc14.out; omega)
          intro v271 w26 ho hb hg hat
          rw [← Ny270.out] at ho
          have n0_ := Aside0.mk (blk_grown (g := gb258) (o := .cells #[.int .i64 a0_0, .int .i64 a0_1, .int .i64 a0_2, .slice A0_3 l0_3.length c0_3] 29 (0, 0)) (by (with_reducible repeat (first | refine blk_drewN ?_ _ | refine blk_drew ?_ | refine blk_alloc ?_ _)); exact BK258.out) hg (Kd.R_ne HO269.out BK258.out (by decide)))
          have n1_ := Aside0.mk (Kd.R_after (ok := (fun _ => True)) (by (with_reducible repeat (first | apply Kd.R_alloc | apply Kd.R_drewN | apply Kd.R_drew)); exact HO263.out) hg hat)
          have n2_ := Aside0.mk (hb)
          have n3_ := Aside0.mk (ho)
          clear BK258
          clear HO263
          clear HB
          clear HO269
          have BK258 := n0_
          have HO263 := n1_
          have HB := n2_
          have HO272 := n3_
          clear n0_ n1_ n2_ n3_
          clear ho hb hg hat
          refine hK.out _ _ ⟨(blk_cell BK258.out 0).trans rfl, (blk_cell BK258.out 1).trans rfl, (blk_cell BK258.out 2).trans rfl, (blk_cell BK258.out 3).trans rfl⟩ (fun hHeld => ?_)
          clear hK K
          refine norm_ (a' := ?_) ?_ ?_
          rotate_left
          · show Act.put _ (some 43) _ = _
            simp only [Act.put, List.setIfInBounds_toArray, List.set_cons_zero, List.set_cons_succ, i64_w, i32_w]
            rfl
          refine pure_ (i := 6) (N := some 2) (v := ?_) (a' := ?_) #[true, true, true, true, true, true, true, false] rfl rfl (any_of HT_.out (by kernel_rfl)) (fun _ _ _ h => h) (Or.inl ⟨by rfl, ?_⟩) ?_ ?_
          rotate_left
          · intro w'
            go_simp
            with_reducible rfl
          rotate_left
          · simp only [Act.put, List.setIfInBounds_toArray, List.set_cons_zero, List.set_cons_succ, i64_w, i32_w]
            rfl
          refine pure_ (i := 7) (N := some 3) (v := ?_) (a' := ?_) #[true, true, true, true, true, true, true, true] rfl rfl (any_of HT_.out (by kernel_rfl)) (fun _ _ _ h => h) (Or.inl ⟨by rfl, ?_⟩) ?_ ?_
          rotate_left
          · intro w'
            go_simp
            with_reducible rfl
          rotate_left
          · simp only [Act.put, List.setIfInBounds_toArray, List.set_cons_zero, List.set_cons_succ, i64_w, i32_w]
            rfl
          refine done_ (done_of HT_.out (by kernel_rfl)) ?_
          try go_wp2
          go_ret2
          exact ⟨_, by first | rfl | (simp [errW_none, errW_some] <;> rfl) | (simp [*, errW_none, errW_some] <;> rfl), by (with_reducible repeat (first | apply Kd.R_alloc | apply Kd.R_drewN | apply Kd.R_drew)); exact Kd.R_mono HO272.out (fun _ hk => trivial), by repeat (first | (with_reducible first | exact HB.out | apply below_alloc | apply pw_below_drewN | apply below_drew1 | refine below_set ?_ GE258.out) | exact HB.out)⟩
        · rw [if_neg c14] at H
          exact absurd H (by simp)
      · rw [if_neg c13] at H
        exact absurd H (by simp)
  · replace c3 := Bool.eq_false_iff.mpr c3
    subst c3
    have H1 : (some (([] : List Int), 1)) = some (r1, r2) := by rw [if_neg (show ¬ (false = true) by decide)] at H; exact H
    clear H
    have H := H1
    clear H1
    simp only [Option.some.injEq, Prod.mk.injEq] at H
    obtain ⟨rfl, rfl⟩ := H
    go_enter Try.func21, Try.ntmps21
    go_wp2_with (first | ((with_reducible refine gate_dst (N := 1) rfl ?_); refine box_event ?hg (N := 1) ?hd (cs := #[.int .i64 a0_0, .int .i64 a0_1, .int .i64 a0_2, .slice A0_3 l0_3.length c0_3]) (t := 29) ?hr ?_; (case hd => rfl); (case hg => rfl); (case hr => first | (go_simp; done) | (go_simp; rfl)); intro gb258 hg w27 hbox hb; have n0_ := Aside0.mk (below_step (by repeat (first | (with_reducible first | exact HB.out | apply below_alloc | apply pw_below_drewN | apply below_drew1) | exact HB.out)) hb); have n1_ := Aside0.mk (hbox); have n2_ := Aside0.mk ((by rw [hg]; exact (below_size (by repeat (first | (with_reducible first | exact HB.out | apply below_alloc | apply pw_below_drewN | apply below_drew1) | exact HB.out))) : w.heap.size ≤ gb258)); have n3_ := Aside0.mk ((by rw [hg]; exact (below_size (by repeat (first | (with_reducible first | exact HB.out | apply below_alloc | apply pw_below_drewN | apply below_drew1) | exact HB.out))) : w.heap.size ≤ gb258)); clear HB; have HB := n0_; have BK258 := n1_; have GW258 := n2_; have GE258 := n3_; clear n0_ n1_ n2_ n3_; clear hb hbox hg; have hcz28_0 : w27.cell? ⟨gb258, 0, none⟩ = some (.int .i64 a0_0) := (blk_cell BK258.out 0).trans rfl; have hcz28_1 : w27.cell? ⟨gb258, 1, none⟩ = some (.int .i64 a0_1) := (blk_cell BK258.out 1).trans rfl; have hcz28_2 : w27.cell? ⟨gb258, 2, none⟩ = some (.int .i64 a0_2) := (blk_cell BK258.out 2).trans rfl; have hcz28_3 : w27.cell? ⟨gb258, 3, none⟩ = some (.slice A0_3 l0_3.length c0_3) := (blk_cell BK258.out 3).trans rfl; have hfz28_0 := blk_frozen BK258.out 0; have hfz28_1 := blk_frozen BK258.out 1; have hfz28_2 := blk_frozen BK258.out 2; have hfz28_3 := blk_frozen BK258.out 3) | ((with_reducible refine gate_callee (f := 32) rfl ?_); refine goesL_ (some 9) rfl rfl Try.func32 (by kernel_rfl) rfl #[.agg #[.int .i64 a0_0, .int .i64 a0_1, .int .i64 a0_2, .slice A0_3 l0_3.length c0_3]] rfl (by (try simp only [List.map_toArray, List.map_cons, List.map_nil]); first | done | rfl | (simp only [List.length_drop, List.length_take]; rfl)) ?_; (with_reducible refine (cutroomref16_Valid.calls a0_0 a0_1 a0_2 _ _ l0_3 false _ ?side1 ?side2 A2.out).mono ?_); (case side1 => repeat (first | exact (Kd.C_below HR0_3.out HB.out) | (with_reducible refine Kd.C_alloc ?_ _) | (with_reducible refine Kd.C_drewN ?_ _) | (with_reducible refine Kd.C_drew ?_))); (case side2 => exact HC0_3.out); rintro e w29 ⟨rfl, hb⟩; refine ⟨_, rfl, ?_⟩; have n0_ := Aside0.mk (blk_below (g := gb258) (o := .cells #[.int .i64 a0_0, .int .i64 a0_1, .int .i64 a0_2, .slice A0_3 l0_3.length c0_3] 29 (0, 0)) (by (with_reducible repeat (first | refine blk_drewN ?_ _ | refine blk_drew ?_ | refine blk_alloc ?_ _)); exact BK258.out) hb); have n1_ := Aside0.mk (below_step (by repeat (first | (with_reducible first | exact HB.out | apply below_alloc | apply pw_below_drewN | apply below_drew1 | refine below_set ?_ GE258.out) | exact HB.out)) hb); clear BK258; clear HB; have BK258 := n0_; have HB := n1_; clear n0_ n1_; (try clear hb); (try clear hb2); (try clear hk); (try clear hi)))
    go_ret2
    exact ⟨_, by first | rfl | (simp [errW_none, errW_some] <;> rfl) | (simp [*, errW_none, errW_some] <;> rfl), by first | exact Kd.R_nil _ _ _ _ _ | exact Kd.N_nil _ _ _ _ _ | exact Kd.V_nil _ _ _ _ _ | exact Kd.Q_nil _ _ _ _ _ | exact Kd.S_nil _ _ _ _ _, by repeat (first | (with_reducible first | exact HB.out | apply below_alloc | apply pw_below_drewN | apply below_drew1 | refine below_set ?_ GE258.out) | exact HB.out)⟩

/-! ### cutroomref16_taken: function 38 -/
def cutroomref16_taken.f (l0 : List Int) : Option (Int) := if 0 < (l0.length : Int) then (if 1 < (l0.length : Int) then (if 2 < (l0.length : Int) then (if 3 < (l0.length : Int) then (if 4 < (l0.length : Int) then (some (Go.bits .or .i64 (Go.bits .or .i64 (Go.bits .or .i64 (Go.bits .or .i64 (wrap64 ((wrap64 (Go.bits .and .u8 ((rd l0 0) / 2) 7)) * 1073741824)) (wrap64 ((wrap64 (rd l0 1)) * 4194304))) (wrap64 ((wrap64 ((rd l0 2) / 2)) * 32768))) (wrap64 ((wrap64 (rd l0 3)) * 128))) (wrap64 ((rd l0 4) / 2)))) else (none)) else (none)) else (none)) else (none)) else (none)
set_option maxHeartbeats 8000000 in
set_option maxRecDepth 100000 in
theorem cutroomref16_taken.calls (A0 : Option Addr) (c0 : Nat) (l0 : List Int) (r : Int) (w : World) (hr0 : Kd.C (Kd.int .u8) w A0 l0.length l0) (hc0 : l0.length ≤ c0) (h : cutroomref16_taken.f l0 = some r) :
    Calls Try.prog 38 #[.slice A0 l0.length c0] w fun e w' => e = .returned (.int .i64 r) ∧ Drawn0 w w' := by
  have HR0 := Aside0.mk hr0
  have HC0 := Aside0.mk hc0
  clear hr0 hc0
  have H : (if 0 < (l0.length : Int) then (if 1 < (l0.length : Int) then (if 2 < (l0.length : Int) then (if 3 < (l0.length : Int) then (if 4 < (l0.length : Int) then (some (Go.bits .or .i64 (Go.bits .or .i64 (Go.bits .or .i64 (Go.bits .or .i64 (wrap64 ((wrap64 (Go.bits .and .u8 ((rd l0 0) / 2) 7)) * 1073741824)) (wrap64 ((wrap64 (rd l0 1)) * 4194304))) (wrap64 ((wrap64 ((rd l0 2) / 2)) * 32768))) (wrap64 ((wrap64 (rd l0 3)) * 128))) (wrap64 ((rd l0 4) / 2)))) else (none)) else (none)) else (none)) else (none)) else (none)) = some r := h
  clear h
  by_cases c2 : 0 < (l0.length : Int)
  · rw [if_pos c2] at H
    have c2b0 : decide (0 < (l0.length : Int)) = true := decide_eq_true c2
    have c2b1 : decide (0 < l0.length) = true := decide_eq_true (by omega)
    clear c2
    by_cases c3 : 1 < (l0.length : Int)
    · rw [if_pos c3] at H
      have c3b0 : decide (1 < (l0.length : Int)) = true := decide_eq_true c3
      have c3b1 : decide (1 < l0.length) = true := decide_eq_true (by omega)
      clear c3
      by_cases c4 : 2 < (l0.length : Int)
      · rw [if_pos c4] at H
        have c4b0 : decide (2 < (l0.length : Int)) = true := decide_eq_true c4
        have c4b1 : decide (2 < l0.length) = true := decide_eq_true (by omega)
        clear c4
        by_cases c5 : 3 < (l0.length : Int)
        · rw [if_pos c5] at H
          have c5b0 : decide (3 < (l0.length : Int)) = true := decide_eq_true c5
          have c5b1 : decide (3 < l0.length) = true := decide_eq_true (by omega)
          clear c5
          by_cases c6 : 4 < (l0.length : Int)
          · rw [if_pos c6] at H
            have c6b0 : decide (4 < (l0.length : Int)) = true := decide_eq_true c6
            have c6b1 : decide (4 < l0.length) = true := decide_eq_true (by omega)
            clear c6
            obtain rfl := Option.some.inj H
            have p273 : 0 ≤ (0 : Int) := (by omega)
            have q273 : 0 < (l0.length : Int) := of_decide_eq_true (by first | (with_reducible assumption) | assumption)
            obtain ⟨ad273, e273, hx273_0⟩ := Kd.at_int HR0.out 0 p273 q273
            cases e273
            have qi273 : (0 < l0.length) = True := eq_true (by omega)
            (try rw [show ((0 : Int)).toNat = 0 from rfl] at hx273_0)
            (try rw [Addr.add_zero'] at hx273_0)
            replace p273 := eq_true p273
            replace q273 := eq_true q273
            have p274 : 0 ≤ (1 : Int) := (by omega)
            have q274 : 1 < (l0.length : Int) := of_decide_eq_true (by first | (with_reducible assumption) | assumption)
            obtain ⟨ad274, e274, hx274_0⟩ := Kd.at_int HR0.out 1 p274 q274
            obtain rfl : ad273 = ad274 := (by injection e274)
            (try simp only [show (1 : Int).toNat = 1 from rfl, Nat.reduceMul, Nat.reduceEqDiff, Go.Addr.add, ↓reduceIte] at hx274_0)
            have qi274 : (1 < l0.length) = True := eq_true (by omega)
            (try rw [show ((1 : Int)).toNat = 1 from rfl] at hx274_0)
            replace p274 := eq_true p274
            replace q274 := eq_true q274
            have p275 : 0 ≤ (2 : Int) := (by omega)
            have q275 : 2 < (l0.length : Int) := of_decide_eq_true (by first | (with_reducible assumption) | assumption)
            obtain ⟨ad275, e275, hx275_0⟩ := Kd.at_int HR0.out 2 p275 q275
            obtain rfl : ad273 = ad275 := (by injection e275)
            (try simp only [show (2 : Int).toNat = 2 from rfl, Nat.reduceMul, Nat.reduceEqDiff, Go.Addr.add, ↓reduceIte] at hx275_0)
            have qi275 : (2 < l0.length) = True := eq_true (by omega)
            (try rw [show ((2 : Int)).toNat = 2 from rfl] at hx275_0)
            replace p275 := eq_true p275
            replace q275 := eq_true q275
            have p276 : 0 ≤ (3 : Int) := (by omega)
            have q276 : 3 < (l0.length : Int) := of_decide_eq_true (by first | (with_reducible assumption) | assumption)
            obtain ⟨ad276, e276, hx276_0⟩ := Kd.at_int HR0.out 3 p276 q276
            obtain rfl : ad273 = ad276 := (by injection e276)
            (try simp only [show (3 : Int).toNat = 3 from rfl, Nat.reduceMul, Nat.reduceEqDiff, Go.Addr.add, ↓reduceIte] at hx276_0)
            have qi276 : (3 < l0.length) = True := eq_true (by omega)
            (try rw [show ((3 : Int)).toNat = 3 from rfl] at hx276_0)
            replace p276 := eq_true p276
            replace q276 := eq_true q276
            have p277 : 0 ≤ (4 : Int) := (by omega)
            have q277 : 4 < (l0.length : Int) := of_decide_eq_true (by first | (with_reducible assumption) | assumption)
            obtain ⟨ad277, e277, hx277_0⟩ := Kd.at_int HR0.out 4 p277 q277
            obtain rfl : ad273 = ad277 := (by injection e277)
            (try simp only [show (4 : Int).toNat = 4 from rfl, Nat.reduceMul, Nat.reduceEqDiff, Go.Addr.add, ↓reduceIte] at hx277_0)
            have qi277 : (4 < l0.length) = True := eq_true (by omega)
            (try rw [show ((4 : Int)).toNat = 4 from rfl] at hx277_0)
            replace p277 := eq_true p277
            replace q277 := eq_true q277
            go_enter Try.func38, Try.ntmps38
            go_wp2
            repeat (go_quiet (fail); try go_wp2)
            go_ret
            exact ⟨by first | rfl | (simp; done) | (simp [*]; done), by repeat (first | exact Drawn0.refl _ | apply Drawn0.step)⟩
          · rw [if_neg c6] at H
            exact absurd H (by simp)
        · rw [if_neg c5] at H
          exact absurd H (by simp)
      · rw [if_neg c4] at H
        exact absurd H (by simp)
    · rw [if_neg c3] at H
      exact absurd H (by simp)
  · rw [if_neg c2] at H
    exact absurd H (by simp)

end Go.Proofs.Ytdkibpdgnocgaaa.PPesTakes
