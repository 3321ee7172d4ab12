-- Written for this claim by a turned copy of the kit's print (wip/printx/mk.py). By an AI agent.
import Derived.Test.YtdkibpdgnocgaaaPPesPutsx0
import Derived.Test.YtdkibpdgnocgaaaPPesPutsx2
namespace Go.Proofs.Ytdkibpdgnocgaaa.PPesPuts
open Go.RowKit Go.Proofs.YtdkibpdgnocgaaaW.PrintWords Go.Proofs.YtdkibpdgnocgaaaW.PrintLast Go.Proofs.YtdkibpdgnocgaaaW.PrintMore
attribute [local go_sem] max2_int min2_int max_two min_two max_three min_three max_four min_four   -- for this text's walks alone
set_option linter.unusedVariables false
set_option linter.unusedSimpArgs false

/-! ### cutroomref16_Put: function 21 -/
def cutroomref16_Put.f (k : Nat) (a0_0 : Int) (a0_1 : Int) (a0_2 : Int) (l0_3 : List Int) : Option (List Int × Int) := (cutroomref16_Valid.f a0_0 a0_1 a0_2 l0_3).bind fun t223 => (if t223 = true then ((cutroomref16_head.f k a0_0 a0_1 a0_2 l0_3).bind fun bt224 => (if (wrap64 ((wrap64 (3 + (bt224.2.length : Int))) + (l0_3.length : Int))) > 65535 then (some (([] : List Int), 5)) else ((some (([0, 0, 1, (a0_0) % 256, ((wrap64 ((wrap64 (3 + (bt224.2.length : Int))) + (l0_3.length : Int))) / 256) % 256, (wrap64 ((wrap64 (3 + (bt224.2.length : Int))) + (l0_3.length : Int))) % 256, 128, bt224.1, ((bt224.2.length : Int)) % 256] : List Int) : List Int)).bind fun y228 => (if y228.length + bt224.2.length < 140737488355328 then ((some (y228 ++ bt224.2 : List Int)).bind fun y231 => (if y231.length + l0_3.length < 140737488355328 then (some ((y231 ++ l0_3), 0)) else (none))) else (none))))) else (some (([] : List Int), 1)))
theorem cutroomref16_Put.mono : ∀ a0 a1 a2 a3 k, LeO (cutroomref16_Put.f k a0 a1 a2 a3) (cutroomref16_Put.f (k + 1) a0 a1 a2 a3) := by
  intro a0 a1 a2 a3 k
  unfold cutroomref16_Put.f
  repeat' first
      | (with_reducible exact cutroomref16_head.mono _ _ _ _ _)
      | (with_reducible exact LeO.refl _)
      | (with_reducible exact LeO.none _)
      | (with_reducible refine LeO.ite ?_ ?_)
      | (with_reducible refine LeO.bind ?_ (fun _ => ?_))
      | exact cutroomref16_head.mono _ _ _ _ _
      | exact LeO.none _
      | refine LeO.ite ?_ ?_
      | refine LeO.bind ?_ (fun _ => ?_)
def cutroomref16_Put.T8 : Bool × List (List Nat × List Nat) := (true, [([], []), ([], []), ([0, 1], [0, 1]), ([], []), ([3], [3]), ([2, 4, 2], [2, 4]), ([5, 5, 0, 1, 2, 3, 4, 5], [5]), ([6, 0, 1, 2, 3, 4, 5, 6], [])])
def cutroomref16_Put.B8 : List Nat := [0, 0, 3, 0, 8, 31, 63, 127]
theorem cutroomref16_Put.tab8 : rtab .any (opsOf Try.f21 8) = cutroomref16_Put.T8 := by kernel_rfl
theorem cutroomref16_Put.bits8 : waitsOk cutroomref16_Put.T8.2 cutroomref16_Put.B8 = true := by kernel_rfl
set_option maxHeartbeats 8000000 in
set_option maxRecDepth 100000 in
theorem cutroomref16_Put.calls (k : Nat) (a0_0 : Int) (a0_1 : Int) (a0_2 : Int) (A0_3 : Option Addr) (c0_3 : Nat) (l0_3 : List Int) (r1 : List Int) (r2 : Int) (w : World) (hr0_3 : Kd.C (Kd.int .u8) w A0_3 l0_3.length l0_3) (hc0_3 : l0_3.length ≤ c0_3) (h : cutroomref16_Put.f k a0_0 a0_1 a0_2 l0_3 = some (r1, r2)) :
    Calls Try.prog 21 #[.agg #[.int .i64 a0_0, .int .i64 a0_1, .int .i64 a0_2, .slice A0_3 l0_3.length c0_3]] w fun e w' => ∃ v0_ : Value, e = .returned (.tuple #[v0_, .int .i64 r2]) ∧ Kd.R (Kd.int .u8) 5 w' w.heap.size (fun _ => True) v0_ r1 ∧ Below w.heap.size w w' := by
  have hu29 := Try.underlying29
  have HR0_3 := Aside0.mk hr0_3
  have HC0_3 := Aside0.mk hc0_3
  clear hr0_3 hc0_3
  have HB := Aside0.mk (Below.refl w.heap.size w)
  have H : ((cutroomref16_Valid.f a0_0 a0_1 a0_2 l0_3).bind fun t223 => (if t223 = true then ((cutroomref16_head.f k a0_0 a0_1 a0_2 l0_3).bind fun bt224 => (if (wrap64 ((wrap64 (3 + (bt224.2.length : Int))) + (l0_3.length : Int))) > 65535 then (some (([] : List Int), 5)) else ((some (([0, 0, 1, (a0_0) % 256, ((wrap64 ((wrap64 (3 + (bt224.2.length : Int))) + (l0_3.length : Int))) / 256) % 256, (wrap64 ((wrap64 (3 + (bt224.2.length : Int))) + (l0_3.length : Int))) % 256, 128, bt224.1, ((bt224.2.length : Int)) % 256] : List Int) : List Int)).bind fun y228 => (if y228.length + bt224.2.length < 140737488355328 then ((some (y228 ++ bt224.2 : List Int)).bind fun y231 => (if y231.length + l0_3.length < 140737488355328 then (some ((y231 ++ l0_3), 0)) else (none))) else (none))))) else (some (([] : List Int), 1)))) = some (r1, r2) := h
  clear h
  replace H := Option.bind_eq_some_iff.mp H
  obtain ⟨t223, A20, H⟩ := H
  replace H : (if t223 = true then ((cutroomref16_head.f k a0_0 a0_1 a0_2 l0_3).bind fun bt224 => (if (wrap64 ((wrap64 (3 + (bt224.2.length : Int))) + (l0_3.length : Int))) > 65535 then (some (([] : List Int), 5)) else ((some (([0, 0, 1, (a0_0) % 256, ((wrap64 ((wrap64 (3 + (bt224.2.length : Int))) + (l0_3.length : Int))) / 256) % 256, (wrap64 ((wrap64 (3 + (bt224.2.length : Int))) + (l0_3.length : Int))) % 256, 128, bt224.1, ((bt224.2.length : Int)) % 256] : List Int) : List Int)).bind fun y228 => (if y228.length + bt224.2.length < 140737488355328 then ((some (y228 ++ bt224.2 : List Int)).bind fun y231 => (if y231.length + l0_3.length < 140737488355328 then (some ((y231 ++ l0_3), 0)) else (none))) else (none))))) else (some (([] : List Int), 1))) = some (r1, r2) := H
  have A2 := Aside0.mk A20
  clear A20
  by_cases c3 : t223 = true
  · subst c3
    have H1 : ((cutroomref16_head.f k a0_0 a0_1 a0_2 l0_3).bind fun bt224 => (if (wrap64 ((wrap64 (3 + (bt224.2.length : Int))) + (l0_3.length : Int))) > 65535 then (some (([] : List Int), 5)) else ((some (([0, 0, 1, (a0_0) % 256, ((wrap64 ((wrap64 (3 + (bt224.2.length : Int))) + (l0_3.length : Int))) / 256) % 256, (wrap64 ((wrap64 (3 + (bt224.2.length : Int))) + (l0_3.length : Int))) % 256, 128, bt224.1, ((bt224.2.length : Int)) % 256] : List Int) : List Int)).bind fun y228 => (if y228.length + bt224.2.length < 140737488355328 then ((some (y228 ++ bt224.2 : List Int)).bind fun y231 => (if y231.length + l0_3.length < 140737488355328 then (some ((y231 ++ l0_3), 0)) else (none))) else (none))))) = some (r1, r2) := by rw [if_pos rfl] at H; exact H
    clear H
    have H := H1
    clear H1
    replace H := Option.bind_eq_some_iff.mp H
    obtain ⟨⟨t224, t225⟩, A40, H⟩ := H
    replace H : (if (wrap64 ((wrap64 (3 + (t225.length : Int))) + (l0_3.length : Int))) > 65535 then (some (([] : List Int), 5)) else ((some (([0, 0, 1, (a0_0) % 256, ((wrap64 ((wrap64 (3 + (t225.length : Int))) + (l0_3.length : Int))) / 256) % 256, (wrap64 ((wrap64 (3 + (t225.length : Int))) + (l0_3.length : Int))) % 256, 128, t224, ((t225.length : Int)) % 256] : List Int) : List Int)).bind fun y228 => (if y228.length + t225.length < 140737488355328 then ((some (y228 ++ t225 : List Int)).bind fun y231 => (if y231.length + l0_3.length < 140737488355328 then (some ((y231 ++ l0_3), 0)) else (none))) else (none)))) = some (r1, r2) := H
    have A4 := Aside0.mk A40
    clear A40
    by_cases c5 : (wrap64 ((wrap64 (3 + (t225.length : Int))) + (l0_3.length : Int))) > 65535
    · rw [if_pos c5] at H
      have c5b0 : decide (65535 < (wrap64 ((wrap64 (3 + (t225.length : Int))) + (l0_3.length : Int)))) = true := decide_eq_true c5
      clear c5
      simp only [Option.some.injEq, Prod.mk.injEq] at H
      obtain ⟨rfl, rfl⟩ := H
      go_enter Try.func21, Try.ntmps21
      go_wp2_with (first | ((with_reducible refine gate_dst (N := 1) rfl ?_); refine box_event ?hg (N := 1) ?hd (cs := #[.int .i64 a0_0, .int .i64 a0_1, .int .i64 a0_2, .slice A0_3 l0_3.length c0_3]) (t := 29) ?hr ?_; (case hd => rfl); (case hg => rfl); (case hr => first | (go_simp; done) | (go_simp; rfl)); intro gb222 hg w6 hbox hb; have n0_ := Aside0.mk (below_step (by repeat (first | (with_reducible first | exact HB.out | apply below_alloc | apply pw_below_drewN | apply below_drew1) | exact HB.out)) hb); have n1_ := Aside0.mk (hbox); have n2_ := Aside0.mk ((by rw [hg]; exact (below_size (by repeat (first | (with_reducible first | exact HB.out | apply below_alloc | apply pw_below_drewN | apply below_drew1) | exact HB.out))) : w.heap.size ≤ gb222)); have n3_ := Aside0.mk ((by rw [hg]; exact (below_size (by repeat (first | (with_reducible first | exact HB.out | apply below_alloc | apply pw_below_drewN | apply below_drew1) | exact HB.out))) : w.heap.size ≤ gb222)); clear HB; have HB := n0_; have BK222 := n1_; have GW222 := n2_; have GE222 := n3_; clear n0_ n1_ n2_ n3_; clear hb hbox hg; have hcz7_0 : w6.cell? ⟨gb222, 0, none⟩ = some (.int .i64 a0_0) := (blk_cell BK222.out 0).trans rfl; have hcz7_1 : w6.cell? ⟨gb222, 1, none⟩ = some (.int .i64 a0_1) := (blk_cell BK222.out 1).trans rfl; have hcz7_2 : w6.cell? ⟨gb222, 2, none⟩ = some (.int .i64 a0_2) := (blk_cell BK222.out 2).trans rfl; have hcz7_3 : w6.cell? ⟨gb222, 3, none⟩ = some (.slice A0_3 l0_3.length c0_3) := (blk_cell BK222.out 3).trans rfl; have hfz7_0 := blk_frozen BK222.out 0; have hfz7_1 := blk_frozen BK222.out 1; have hfz7_2 := blk_frozen BK222.out 2; have hfz7_3 := blk_frozen BK222.out 3) | ((with_reducible refine gate_callee (f := 32) rfl ?_); refine goesL_ (some 9) rfl rfl Try.func32 (by kernel_rfl) rfl #[.agg #[.int .i64 a0_0, .int .i64 a0_1, .int .i64 a0_2, .slice A0_3 l0_3.length c0_3]] rfl (by (try simp only [List.map_toArray, List.map_cons, List.map_nil]); first | done | rfl | (simp only [List.length_drop, List.length_take]; rfl)) ?_; (with_reducible refine (cutroomref16_Valid.calls a0_0 a0_1 a0_2 _ _ l0_3 true _ ?side1 ?side2 A2.out).mono ?_); (case side1 => repeat (first | exact (Kd.C_below HR0_3.out HB.out) | (with_reducible refine Kd.C_alloc ?_ _) | (with_reducible refine Kd.C_drewN ?_ _) | (with_reducible refine Kd.C_drew ?_))); (case side2 => exact HC0_3.out); rintro e w8 ⟨rfl, hb⟩; refine ⟨_, rfl, ?_⟩; have n0_ := Aside0.mk (blk_below (g := gb222) (o := .cells #[.int .i64 a0_0, .int .i64 a0_1, .int .i64 a0_2, .slice A0_3 l0_3.length c0_3] 29 (0, 0)) (by (with_reducible repeat (first | refine blk_drewN ?_ _ | refine blk_drew ?_ | refine blk_alloc ?_ _)); exact BK222.out) hb); have n1_ := Aside0.mk (below_step (by repeat (first | (with_reducible first | exact HB.out | apply below_alloc | apply pw_below_drewN | apply below_drew1 | refine below_set ?_ GE222.out) | exact HB.out)) hb); clear BK222; clear HB; have BK222 := n0_; have HB := n1_; clear n0_ n1_; (try clear hb); (try clear hb2); (try clear hk); (try clear hi); have hcz9_0 : w8.cell? ⟨gb222, 0, none⟩ = some (.int .i64 a0_0) := (blk_cell BK222.out 0).trans rfl; have hcz9_1 : w8.cell? ⟨gb222, 1, none⟩ = some (.int .i64 a0_1) := (blk_cell BK222.out 1).trans rfl; have hcz9_2 : w8.cell? ⟨gb222, 2, none⟩ = some (.int .i64 a0_2) := (blk_cell BK222.out 2).trans rfl; have hcz9_3 : w8.cell? ⟨gb222, 3, none⟩ = some (.slice A0_3 l0_3.length c0_3) := (blk_cell BK222.out 3).trans rfl; have hfz9_0 := blk_frozen BK222.out 0; have hfz9_1 := blk_frozen BK222.out 1; have hfz9_2 := blk_frozen BK222.out 2; have hfz9_3 := blk_frozen BK222.out 3) | ((with_reducible refine gate_callee (f := 35) rfl ?_); refine goesL_ (some 13) rfl rfl Try.func35 (by kernel_rfl) rfl #[.agg #[.int .i64 a0_0, .int .i64 a0_1, .int .i64 a0_2, .slice A0_3 l0_3.length c0_3]] rfl (by (try simp only [List.map_toArray, List.map_cons, List.map_nil]); first | done | rfl | (simp only [List.length_drop, List.length_take]; rfl)) ?_; (with_reducible refine (cutroomref16_head.calls k a0_0 a0_1 a0_2 _ _ l0_3 t224 t225 _ ?side1 ?side2 A4.out).mono ?_); (case side1 => repeat (first | exact (Kd.C_below HR0_3.out HB.out) | (with_reducible refine Kd.C_alloc ?_ _) | (with_reducible refine Kd.C_drewN ?_ _) | (with_reducible refine Kd.C_drew ?_))); (case side2 => exact HC0_3.out); rintro e w10 ⟨v226, rfl, ho0, hb⟩; refine ⟨_, rfl, ?_⟩; have n0_ := Aside0.mk (Kd.R_lower ho0 (below_size (by repeat (first | (with_reducible first | exact HB.out | apply below_alloc | apply pw_below_drewN | apply below_drew1 | refine below_set ?_ GE222.out) | exact HB.out)))); have n1_ := Aside0.mk (blk_below (g := gb222) (o := .cells #[.int .i64 a0_0, .int .i64 a0_1, .int .i64 a0_2, .slice A0_3 l0_3.length c0_3] 29 (0, 0)) (by (with_reducible repeat (first | refine blk_drewN ?_ _ | refine blk_drew ?_ | refine blk_alloc ?_ _)); exact BK222.out) hb); have n2_ := Aside0.mk (below_step (by repeat (first | (with_reducible first | exact HB.out | apply below_alloc | apply pw_below_drewN | apply below_drew1 | refine below_set ?_ GE222.out) | exact HB.out)) hb); clear BK222; clear HB; have HO227 := n0_; have BK222 := n1_; have HB := n2_; clear n0_ n1_ n2_; (try clear hb); (try clear hb2); (try clear hk); (try clear hi); (try clear ho0); obtain ⟨Ao11, co11, eo11⟩ := Kd.R_slice HO227.out; subst eo11; have hcz12_0 : w10.cell? ⟨gb222, 0, none⟩ = some (.int .i64 a0_0) := (blk_cell BK222.out 0).trans rfl; have hcz12_1 : w10.cell? ⟨gb222, 1, none⟩ = some (.int .i64 a0_1) := (blk_cell BK222.out 1).trans rfl; have hcz12_2 : w10.cell? ⟨gb222, 2, none⟩ = some (.int .i64 a0_2) := (blk_cell BK222.out 2).trans rfl; have hcz12_3 : w10.cell? ⟨gb222, 3, none⟩ = some (.slice A0_3 l0_3.length c0_3) := (blk_cell BK222.out 3).trans rfl; have hfz12_0 := blk_frozen BK222.out 0; have hfz12_1 := blk_frozen BK222.out 1; have hfz12_2 := blk_frozen BK222.out 2; have hfz12_3 := blk_frozen BK222.out 3))
      go_ret2
      exact ⟨_, by first | rfl | (simp [errW_none, errW_some] <;> rfl) | (simp [*, errW_none, errW_some] <;> rfl), by first | exact Kd.R_nil _ _ _ _ _ | exact Kd.N_nil _ _ _ _ _ | exact Kd.V_nil _ _ _ _ _ | exact Kd.Q_nil _ _ _ _ _ | exact Kd.S_nil _ _ _ _ _, by repeat (first | (with_reducible first | exact HB.out | apply below_alloc | apply pw_below_drewN | apply below_drew1 | refine below_set ?_ GE222.out) | exact HB.out)⟩
    · rw [if_neg c5] at H
      have c5b0 : decide (65535 < (wrap64 ((wrap64 (3 + (t225.length : Int))) + (l0_3.length : Int)))) = false := decide_eq_false c5
      clear c5
      obtain ⟨y228, hy228⟩ : ∃ y_ : List Int, y_ = (([0, 0, 1, (a0_0) % 256, ((wrap64 ((wrap64 (3 + (t225.length : Int))) + (l0_3.length : Int))) / 256) % 256, (wrap64 ((wrap64 (3 + (t225.length : Int))) + (l0_3.length : Int))) % 256, 128, t224, ((t225.length : Int)) % 256] : List Int)) := ⟨_, rfl⟩
      replace H : (if y228.length + t225.length < 140737488355328 then ((some (y228 ++ t225 : List Int)).bind fun y231 => (if y231.length + l0_3.length < 140737488355328 then (some ((y231 ++ l0_3), 0)) else (none))) else (none)) = some (r1, r2) := by first | (rw [hy228]; with_reducible exact H) | (have H2_ := (Option.bind_some _ _).symm.trans H; rw [hy228]; with_reducible exact H2_) | (have H2_ := (Option.bind_some _ _).symm.trans H; with_reducible exact H2_) | with_reducible exact H | (rw [hy228]; exact H) | exact H
      have Ny228 := Aside0.mk hy228
      clear hy228
      by_cases c13 : y228.length + t225.length < 140737488355328
      · rw [if_pos c13] at H
        have LMc13 := Aside0.mk c13
        clear c13
        obtain ⟨y231, hy231⟩ : ∃ y_ : List Int, y_ = (y228 ++ t225) := ⟨_, rfl⟩
        replace H : (if y231.length + l0_3.length < 140737488355328 then (some ((y231 ++ l0_3), 0)) else (none)) = some (r1, r2) := by first | (rw [hy231]; with_reducible exact H) | (have H2_ := (Option.bind_some _ _).symm.trans H; rw [hy231]; with_reducible exact H2_) | (have H2_ := (Option.bind_some _ _).symm.trans H; with_reducible exact H2_) | with_reducible exact H | (rw [hy231]; exact H) | exact H
        have Ny231 := Aside0.mk hy231
        clear hy231
        by_cases c14 : y231.length + l0_3.length < 140737488355328
        · rw [if_pos c14] at H
          have LMc14 := Aside0.mk c14
          clear c14
          obtain ⟨y234, hy234⟩ : ∃ y_ : List Int, y_ = (y231 ++ l0_3) := ⟨_, rfl⟩
          replace H : (some (y234, 0)) = some (r1, r2) := by first | (rw [hy234]; with_reducible exact H) | (have H2_ := (Option.bind_some _ _).symm.trans H; rw [hy234]; with_reducible exact H2_) | (have H2_ := (Option.bind_some _ _).symm.trans H; with_reducible exact H2_) | with_reducible exact H | (rw [hy234]; exact H) | exact H
          have Ny234 := Aside0.mk hy234
          clear hy234
          simp only [Option.some.injEq, Prod.mk.injEq] at H
          obtain ⟨rfl, rfl⟩ := H
          go_enter Try.func21, Try.ntmps21
          try go_wp2_with (first | ((with_reducible refine gate_dst (N := 1) rfl ?_); refine box_event ?hg (N := 1) ?hd (cs := #[.int .i64 a0_0, .int .i64 a0_1, .int .i64 a0_2, .slice A0_3 l0_3.length c0_3]) (t := 29) ?hr ?_; (case hd => rfl); (case hg => rfl); (case hr => first | (go_simp; done) | (go_simp; rfl)); intro gb222 hg w15 hbox hb; have n0_ := Aside0.mk (below_step (by repeat (first | (with_reducible first | exact HB.out | apply below_alloc | apply pw_below_drewN | apply below_drew1) | exact HB.out)) hb); have n1_ := Aside0.mk (hbox); have n2_ := Aside0.mk ((by rw [hg]; exact (below_size (by repeat (first | (with_reducible first | exact HB.out | apply below_alloc | apply pw_below_drewN | apply below_drew1) | exact HB.out))) : w.heap.size ≤ gb222)); have n3_ := Aside0.mk ((by rw [hg]; exact (below_size (by repeat (first | (with_reducible first | exact HB.out | apply below_alloc | apply pw_below_drewN | apply below_drew1) | exact HB.out))) : w.heap.size ≤ gb222)); clear HB; have HB := n0_; have BK222 := n1_; have GW222 := n2_; have GE222 := n3_; clear n0_ n1_ n2_ n3_; clear hb hbox hg; have hcz16_0 : w15.cell? ⟨gb222, 0, none⟩ = some (.int .i64 a0_0) := (blk_cell BK222.out 0).trans rfl; have hcz16_1 : w15.cell? ⟨gb222, 1, none⟩ = some (.int .i64 a0_1) := (blk_cell BK222.out 1).trans rfl; have hcz16_2 : w15.cell? ⟨gb222, 2, none⟩ = some (.int .i64 a0_2) := (blk_cell BK222.out 2).trans rfl; have hcz16_3 : w15.cell? ⟨gb222, 3, none⟩ = some (.slice A0_3 l0_3.length c0_3) := (blk_cell BK222.out 3).trans rfl; have hfz16_0 := blk_frozen BK222.out 0; have hfz16_1 := blk_frozen BK222.out 1; have hfz16_2 := blk_frozen BK222.out 2; have hfz16_3 := blk_frozen BK222.out 3) | ((with_reducible refine gate_callee (f := 32) rfl ?_); refine goesL_ (some 9) rfl rfl Try.func32 (by kernel_rfl) rfl #[.agg #[.int .i64 a0_0, .int .i64 a0_1, .int .i64 a0_2, .slice A0_3 l0_3.length c0_3]] rfl (by (try simp only [List.map_toArray, List.map_cons, List.map_nil]); first | done | rfl | (simp only [List.length_drop, List.length_take]; rfl)) ?_; (with_reducible refine (cutroomref16_Valid.calls a0_0 a0_1 a0_2 _ _ l0_3 true _ ?side1 ?side2 A2.out).mono ?_); (case side1 => repeat (first | exact (Kd.C_below HR0_3.out HB.out) | (with_reducible refine Kd.C_alloc ?_ _) | (with_reducible refine Kd.C_drewN ?_ _) | (with_reducible refine Kd.C_drew ?_))); (case side2 => exact HC0_3.out); rintro e w17 ⟨rfl, hb⟩; refine ⟨_, rfl, ?_⟩; have n0_ := Aside0.mk (blk_below (g := gb222) (o := .cells #[.int .i64 a0_0, .int .i64 a0_1, .int .i64 a0_2, .slice A0_3 l0_3.length c0_3] 29 (0, 0)) (by (with_reducible repeat (first | refine blk_drewN ?_ _ | refine blk_drew ?_ | refine blk_alloc ?_ _)); exact BK222.out) hb); have n1_ := Aside0.mk (below_step (by repeat (first | (with_reducible first | exact HB.out | apply below_alloc | apply pw_below_drewN | apply below_drew1 | refine below_set ?_ GE222.out) | exact HB.out)) hb); clear BK222; clear HB; have BK222 := n0_; have HB := n1_; clear n0_ n1_; (try clear hb); (try clear hb2); (try clear hk); (try clear hi); have hcz18_0 : w17.cell? ⟨gb222, 0, none⟩ = some (.int .i64 a0_0) := (blk_cell BK222.out 0).trans rfl; have hcz18_1 : w17.cell? ⟨gb222, 1, none⟩ = some (.int .i64 a0_1) := (blk_cell BK222.out 1).trans rfl; have hcz18_2 : w17.cell? ⟨gb222, 2, none⟩ = some (.int .i64 a0_2) := (blk_cell BK222.out 2).trans rfl; have hcz18_3 : w17.cell? ⟨gb222, 3, none⟩ = some (.slice A0_3 l0_3.length c0_3) := (blk_cell BK222.out 3).trans rfl; have hfz18_0 := blk_frozen BK222.out 0; have hfz18_1 := blk_frozen BK222.out 1; have hfz18_2 := blk_frozen BK222.out 2; have hfz18_3 := blk_frozen BK222.out 3) | ((with_reducible refine gate_callee (f := 35) rfl ?_); refine goesL_ (some 13) rfl rfl Try.func35 (by kernel_rfl) rfl #[.agg #[.int .i64 a0_0, .int .i64 a0_1, .int .i64 a0_2, .slice A0_3 l0_3.length c0_3]] rfl (by (try simp only [List.map_toArray, List.map_cons, List.map_nil]); first | done | rfl | (simp only [List.length_drop, List.length_take]; rfl)) ?_; (with_reducible refine (cutroomref16_head.calls k a0_0 a0_1 a0_2 _ _ l0_3 t224 t225 _ ?side1 ?side2 A4.out).mono ?_); (case side1 => repeat (first | exact (Kd.C_below HR0_3.out HB.out) | (with_reducible refine Kd.C_alloc ?_ _) | (with_reducible refine Kd.C_drewN ?_ _) | (with_reducible refine Kd.C_drew ?_))); (case side2 => exact HC0_3.out); rintro e w19 ⟨v226, rfl, ho0, hb⟩; refine ⟨_, rfl, ?_⟩; have n0_ := Aside0.mk (Kd.R_lower ho0 (below_size (by repeat (first | (with_reducible first | exact HB.out | apply below_alloc | apply pw_below_drewN | apply below_drew1 | refine below_set ?_ GE222.out) | exact HB.out)))); have n1_ := Aside0.mk (blk_below (g := gb222) (o := .cells #[.int .i64 a0_0, .int .i64 a0_1, .int .i64 a0_2, .slice A0_3 l0_3.length c0_3] 29 (0, 0)) (by (with_reducible repeat (first | refine blk_drewN ?_ _ | refine blk_drew ?_ | refine blk_alloc ?_ _)); exact BK222.out) hb); have n2_ := Aside0.mk (below_step (by repeat (first | (with_reducible first | exact HB.out | apply below_alloc | apply pw_below_drewN | apply below_drew1 | refine below_set ?_ GE222.out) | exact HB.out)) hb); clear BK222; clear HB; have HO227 := n0_; have BK222 := n1_; have HB := n2_; clear n0_ n1_ n2_; (try clear hb); (try clear hb2); (try clear hk); (try clear hi); (try clear ho0); obtain ⟨Ao20, co20, eo20⟩ := Kd.R_slice HO227.out; subst eo20; have hcz21_0 : w19.cell? ⟨gb222, 0, none⟩ = some (.int .i64 a0_0) := (blk_cell BK222.out 0).trans rfl; have hcz21_1 : w19.cell? ⟨gb222, 1, none⟩ = some (.int .i64 a0_1) := (blk_cell BK222.out 1).trans rfl; have hcz21_2 : w19.cell? ⟨gb222, 2, none⟩ = some (.int .i64 a0_2) := (blk_cell BK222.out 2).trans rfl; have hcz21_3 : w19.cell? ⟨gb222, 3, none⟩ = some (.slice A0_3 l0_3.length c0_3) := (blk_cell BK222.out 3).trans rfl; have hfz21_0 := blk_frozen BK222.out 0; have hfz21_1 := blk_frozen BK222.out 1; have hfz21_2 := blk_frozen BK222.out 2; have hfz21_3 := blk_frozen BK222.out 3) | ((with_reducible refine gate_dst (N := 37) rfl ?_); refine Kd.R_lit (Kd.int .u8) _ 5 ?hg (N := 37) ?hd (xs := ([0, 0, 1, (a0_0) % 256, ((wrap64 ((wrap64 (3 + (t225.length : Int))) + (l0_3.length : Int))) / 256) % 256, (wrap64 ((wrap64 (3 + (t225.length : Int))) + (l0_3.length : Int))) % 256, 128, t224, ((t225.length : Int)) % 256] : List Int)) (inner := [.int .u8 0, .int .u8 0, .int .u8 1, .int .u8 ((a0_0) % 256), .int .u8 (((wrap64 ((wrap64 (3 + (t225.length : Int))) + (l0_3.length : Int))) / 256) % 256), .int .u8 ((wrap64 ((wrap64 (3 + (t225.length : Int))) + (l0_3.length : Int))) % 256), .int .u8 128, .int .u8 t224, .int .u8 (((t225.length : Int)) % 256)]) (ok := fun _ => True) (okp := fun _ => True) ?hr ?hp (fun _ hk => hk) trivial (Below.refl _ _) (Nat.le_refl _) (by simp) ?_; (case hd => rfl); (case hg => rfl); (case hr => first | (go_simp; done) | (go_simp; rfl)); (case hp => exact (Reps.one (show Kd.M (Kd.int .u8) _ _ _ 0 [.int .u8 0] from rfl) (Reps.one (show Kd.M (Kd.int .u8) _ _ _ 0 [.int .u8 0] from rfl) (Reps.one (show Kd.M (Kd.int .u8) _ _ _ 1 [.int .u8 1] from rfl) (Reps.one (show Kd.M (Kd.int .u8) _ _ _ ((a0_0) % 256) [.int .u8 ((a0_0) % 256)] from rfl) (Reps.one (show Kd.M (Kd.int .u8) _ _ _ (((wrap64 ((wrap64 (3 + (t225.length : Int))) + (l0_3.length : Int))) / 256) % 256) [.int .u8 (((wrap64 ((wrap64 (3 + (t225.length : Int))) + (l0_3.length : Int))) / 256) % 256)] from rfl) (Reps.one (show Kd.M (Kd.int .u8) _ _ _ ((wrap64 ((wrap64 (3 + (t225.length : Int))) + (l0_3.length : Int))) % 256) [.int .u8 ((wrap64 ((wrap64 (3 + (t225.length : Int))) + (l0_3.length : Int))) % 256)] from rfl) (Reps.one (show Kd.M (Kd.int .u8) _ _ _ 128 [.int .u8 128] from rfl) (Reps.one (show Kd.M (Kd.int .u8) _ _ _ t224 [.int .u8 t224] from rfl) (Reps.one (show Kd.M (Kd.int .u8) _ _ _ (((t225.length : Int)) % 256) [.int .u8 (((t225.length : Int)) % 256)] from rfl) (Reps.none _ _))))))))))); intro v229 w22 ho23 hb hg_ hnew_; clear hg_ hnew_; (first | rw [← Ny228.out] at ho23 | (simp only [Int.reduceToNat] at ho23; rw [← Ny228.out] at ho23)); have n0_ := Aside0.mk (Kd.R_elder' (by (with_reducible repeat (first | apply Kd.R_alloc | apply Kd.R_drewN | apply Kd.R_drew)); exact HO227.out) (Kd.R_base ho23) hb); have n1_ := Aside0.mk (Kd.R_lower (Kd.R_new' ho23 (Kd.R_lt (by (with_reducible repeat (first | apply Kd.R_alloc | apply Kd.R_drewN | apply Kd.R_drew)); exact HO227.out))) (below_size (by repeat (first | (with_reducible first | exact HB.out | apply below_alloc | apply pw_below_drewN | apply below_drew1 | refine below_set ?_ GE222.out) | exact HB.out)))); have n2_ := Aside0.mk (blk_below (g := gb222) (o := .cells #[.int .i64 a0_0, .int .i64 a0_1, .int .i64 a0_2, .slice A0_3 l0_3.length c0_3] 29 (0, 0)) (by (with_reducible repeat (first | refine blk_drewN ?_ _ | refine blk_drew ?_ | refine blk_alloc ?_ _)); exact BK222.out) hb); have n3_ := Aside0.mk (below_step (by repeat (first | (with_reducible first | exact HB.out | apply below_alloc | apply pw_below_drewN | apply below_drew1 | refine below_set ?_ GE222.out) | exact HB.out)) hb); clear HO227; clear BK222; clear HB; have HO227 := n0_; have HO230 := n1_; have BK222 := n2_; have HB := n3_; clear n0_ n1_ n2_ n3_; clear hb ho23))
          have n0_ := Aside0.mk (Kd.R_drew HO227.out)
          have n1_ := Aside0.mk (Kd.R_drew HO230.out)
          have n2_ := Aside0.mk (blk_drew BK222.out)
          have n3_ := Aside0.mk (below_drew1 HB.out)
          clear HO227
          clear HO230
          clear BK222
          clear HB
          have HO227 := n0_
          have HO230 := n1_
          have BK222 := n2_
          have HB := n3_
          clear n0_ n1_ n2_ n3_
          refine start_ (n := 8) (S := fun w' => w'.cell? ⟨gb222, 0, none⟩ = some (.int .i64 a0_0) ∧ w'.cell? ⟨gb222, 1, none⟩ = some (.int .i64 a0_1) ∧ w'.cell? ⟨gb222, 2, none⟩ = some (.int .i64 a0_2) ∧ w'.cell? ⟨gb222, 3, none⟩ = some (.slice A0_3 l0_3.length c0_3)) (ds := []) #[false, false, false, false, false, false, false, false] (by kernel_rfl) rfl rfl ⟨(blk_cell BK222.out 0).trans rfl, (blk_cell BK222.out 1).trans rfl, (blk_cell BK222.out 2).trans rfl, (blk_cell BK222.out 3).trans rfl⟩ (fun hHeld => ?_); refine with_tabW cutroomref16_Put.tab8 cutroomref16_Put.bits8 (fun HT_ HW_ => ?_)
          generalize w22.drew = w24 at HO227 HO230 BK222 HB hHeld ⊢
          refine pure_ (i := 0) (N := some 38) (v := ?_) (a' := ?_) #[true, false, false, false, false, false, false, false] rfl rfl (any_of HT_.out (by kernel_rfl)) (fun _ _ _ h => h) (Or.inl ⟨by rfl, ?_⟩) ?_ ?_
          rotate_left
          · intro w'
            go_simp
            with_reducible rfl
          rotate_left
          · simp only [Act.put, List.setIfInBounds_toArray, List.set_cons_zero, List.set_cons_succ, i64_w, i32_w]
            rfl
          refine pure_ (i := 1) (N := some 39) (v := ?_) (a' := ?_) #[true, true, false, false, false, false, false, false] rfl rfl (any_of HT_.out (by kernel_rfl)) (fun _ _ _ h => h) (Or.inl ⟨by rfl, ?_⟩) ?_ ?_
          rotate_left
          · intro w'
            go_simp
            with_reducible rfl
          rotate_left
          · simp only [Act.put, List.setIfInBounds_toArray, List.set_cons_zero, List.set_cons_succ, i64_w, i32_w]
            rfl
          refine pure_ (i := 3) (N := some 41) (v := ?_) (a' := ?_) #[true, true, false, true, false, false, false, false] rfl rfl (any_of HT_.out (by kernel_rfl)) (fun _ _ _ h => h) (Or.inl ⟨by rfl, ?_⟩) ?_ ?_
          rotate_left
          · intro w'
            go_simp
            with_reducible rfl
          rotate_left
          · simp only [Act.put, List.setIfInBounds_toArray, List.set_cons_zero, List.set_cons_succ, i64_w, i32_w]
            rfl
          refine take_ (i := 4) (N := some 42) (v := ?_) (a' := ?_) #[true, true, false, true, true, false, false, false] rfl rfl (take_ofW HT_.out HW_.out (by kernel_rfl)) (fun _ _ _ h => h) (Or.inl ⟨by rfl, ?_⟩) hHeld ?_ ?_
          rotate_left
          · rintro w' ⟨s0, s1, s2, s3⟩
            go_simp
            with_reducible rfl
          rotate_left
          · simp only [Act.put, List.setIfInBounds_toArray, List.set_cons_zero, List.set_cons_succ, i64_w, i32_w]
            rfl
          refine one_ (i := 2) (N := some 40) #[true, true, true, true, true, false, false, false] rfl rfl (one_of HT_.out (by kernel_rfl)) (by decide) (fun K hK => ?_)
          refine Kd.R_append_rows_step (Kd.int .u8) (w0 := w) w.heap.size (by rfl) (.tmp 38) (.tmp 39) 27 5 (.int .u8 0) 1 rfl Try.underlying27 info5 rfl (by decide) (by omega) v229 y228 t225 _ _ _ (fun k_ => some k_ ≠ (.slice Ao20 t225.length co20 : Value).ownBlock) (fun _ => False) rfl rfl ?aO ?aR (fun _ _ h => h) (fun _ h => h.elim) ?aF ?aB ?aS ?aL ?_
          (case aR => repeat (first | exact (Kd.R_reads' HO227.out).2.2 | (with_reducible refine Kd.C_alloc ?_ _) | (with_reducible refine Kd.C_drewN ?_ _) | (with_reducible refine Kd.C_drew ?_)))
          (case aB => exact (by repeat (first | (with_reducible first | exact HB.out | apply below_alloc | apply pw_below_drewN | apply below_drew1 | refine below_set ?_ GE222.out) | exact HB.out)))
          (case aF => exact (fun k_ hk => Kd.fresh' (Kd.R_lt (by (with_reducible repeat (first | apply Kd.R_alloc | apply Kd.R_drewN | apply Kd.R_drew)); exact HO227.out)) k_ hk))
          (case aO => exact (by (with_reducible repeat (first | apply Kd.R_alloc | apply Kd.R_drewN | apply Kd.R_drew)); exact Kd.R_mono HO230.out (fun _ hk => hk.2)))
          (case aS => exact (below_size (by repeat (first | (with_reducible first | exact HB.out | apply below_alloc | apply pw_below_drewN | apply below_drew1 | refine below_set ?_ GE222.out) | exact HB.out))))
          (case aL => have := LMc13.out; omega)
          intro v232 w25 ho hb hg hat
          rw [← Ny231.out] at ho
          have n0_ := Aside0.mk (blk_grown (g := gb222) (o := .cells #[.int .i64 a0_0, .int .i64 a0_1, .int .i64 a0_2, .slice A0_3 l0_3.length c0_3] 29 (0, 0)) (by (with_reducible repeat (first | refine blk_drewN ?_ _ | refine blk_drew ?_ | refine blk_alloc ?_ _)); exact BK222.out) hg (Kd.R_ne HO230.out BK222.out (by decide)))
          have n1_ := Aside0.mk (Kd.R_after (ok := (fun _ => True)) (by (with_reducible repeat (first | apply Kd.R_alloc | apply Kd.R_drewN | apply Kd.R_drew)); exact HO227.out) hg hat)
          have n2_ := Aside0.mk (hb)
          have n3_ := Aside0.mk (ho)
          clear BK222
          clear HO227
          clear HB
          clear HO230
          have BK222 := n0_
          have HO227 := n1_
          have HB := n2_
          have HO233 := n3_
          clear n0_ n1_ n2_ n3_
          clear ho hb hg hat
          refine hK.out _ _ ⟨(blk_cell BK222.out 0).trans rfl, (blk_cell BK222.out 1).trans rfl, (blk_cell BK222.out 2).trans rfl, (blk_cell BK222.out 3).trans rfl⟩ (fun hHeld => ?_)
          clear hK K
          refine norm_ (a' := ?_) ?_ ?_
          rotate_left
          · show Act.put _ (some 40) _ = _
            simp only [Act.put, List.setIfInBounds_toArray, List.set_cons_zero, List.set_cons_succ, i64_w, i32_w]
            rfl
          refine one_ (i := 5) (N := some 43) #[true, true, true, true, true, true, false, false] rfl rfl (one_of HT_.out (by kernel_rfl)) (by decide) (fun K hK => ?_)
          refine Kd.R_append_rows_step (Kd.int .u8) (w0 := w) w.heap.size (by rfl) (.tmp 40) (.tmp 42) 27 5 (.int .u8 0) 1 rfl Try.underlying27 info5 rfl (by decide) (by omega) v232 y231 l0_3 _ _ _ (fun k_ => some k_ ≠ (.slice Ao20 t225.length co20 : Value).ownBlock) (fun _ => False) rfl rfl ?aO ?aR (fun _ _ h => h) (fun _ h => h.elim) ?aF ?aB ?aS ?aL ?_
          (case aR => repeat (first | exact (Kd.C_below HR0_3.out HB.out) | (with_reducible refine Kd.C_alloc ?_ _) | (with_reducible refine Kd.C_drewN ?_ _) | (with_reducible refine Kd.C_drew ?_)))
          (case aB => exact (by repeat (first | (with_reducible first | exact HB.out | apply below_alloc | apply pw_below_drewN | apply below_drew1 | refine below_set ?_ GE222.out) | exact HB.out)))
          (case aF => exact (fun k_ hk => Kd.fresh' (Kd.R_lt (by (with_reducible repeat (first | apply Kd.R_alloc | apply Kd.R_drewN | apply Kd.R_drew)); exact HO227.out)) k_ hk))
          (case aO => exact (by (with_reducible repeat (first | apply Kd.R_alloc | apply Kd.R_drewN | apply Kd.R_drew)); exact HO233.out))
          (case aS => exact (below_size (by repeat (first | (with_reducible first | exact HB.out | apply below_alloc | apply pw_below_drewN | apply below_drew1 | refine below_set ?_ GE222.out) | exact HB.out))))
          (case aL => have := LMc14.out; omega)
          intro v235 w26 ho hb hg hat
          rw [← Ny234.out] at ho
          have n0_ := Aside0.mk (blk_grown (g := gb222) (o := .cells #[.int .i64 a0_0, .int .i64 a0_1, .int .i64 a0_2, .slice A0_3 l0_3.length c0_3] 29 (0, 0)) (by (with_reducible repeat (first | refine blk_drewN ?_ _ | refine blk_drew ?_ | refine blk_alloc ?_ _)); exact BK222.out) hg (Kd.R_ne HO233.out BK222.out (by decide)))
          have n1_ := Aside0.mk (Kd.R_after (ok := (fun _ => True)) (by (with_reducible repeat (first | apply Kd.R_alloc | apply Kd.R_drewN | apply Kd.R_drew)); exact HO227.out) hg hat)
          have n2_ := Aside0.mk (hb)
          have n3_ := Aside0.mk (ho)
          clear BK222
          clear HO227
          clear HB
          clear HO233
          have BK222 := n0_
          have HO227 := n1_
          have HB := n2_
          have HO236 := n3_
          clear n0_ n1_ n2_ n3_
          clear ho hb hg hat
          refine hK.out _ _ ⟨(blk_cell BK222.out 0).trans rfl, (blk_cell BK222.out 1).trans rfl, (blk_cell BK222.out 2).trans rfl, (blk_cell BK222.out 3).trans rfl⟩ (fun hHeld => ?_)
          clear hK K
          refine norm_ (a' := ?_) ?_ ?_
          rotate_left
          · show Act.put _ (some 43) _ = _
            simp only [Act.put, List.setIfInBounds_toArray, List.set_cons_zero, List.set_cons_succ, i64_w, i32_w]
            rfl
          refine pure_ (i := 6) (N := some 2) (v := ?_) (a' := ?_) #[true, true, true, true, true, true, true, false] rfl rfl (any_of HT_.out (by kernel_rfl)) (fun _ _ _ h => h) (Or.inl ⟨by rfl, ?_⟩) ?_ ?_
          rotate_left
          · intro w'
            go_simp
            with_reducible rfl
          rotate_left
          · simp only [Act.put, List.setIfInBounds_toArray, List.set_cons_zero, List.set_cons_succ, i64_w, i32_w]
            rfl
          refine pure_ (i := 7) (N := some 3) (v := ?_) (a' := ?_) #[true, true, true, true, true, true, true, true] rfl rfl (any_of HT_.out (by kernel_rfl)) (fun _ _ _ h => h) (Or.inl ⟨by rfl, ?_⟩) ?_ ?_
          rotate_left
          · intro w'
            go_simp
            with_reducible rfl
          rotate_left
          · simp only [Act.put, List.setIfInBounds_toArray, List.set_cons_zero, List.set_cons_succ, i64_w, i32_w]
            rfl
          refine done_ (done_of HT_.out (by kernel_rfl)) ?_
          try go_wp2
          go_ret2
          exact ⟨_, by first | rfl | (simp [errW_none, errW_some] <;> rfl) | (simp [*, errW_none, errW_some] <;> rfl), by (with_reducible repeat (first | apply Kd.R_alloc | apply Kd.R_drewN | apply Kd.R_drew)); exact Kd.R_mono HO236.out (fun _ hk => trivial), by repeat (first | (with_reducible first | exact HB.out | apply below_alloc | apply pw_below_drewN | apply below_drew1 | refine below_set ?_ GE222.out) | exact HB.out)⟩
        · rw [if_neg c14] at H
          exact absurd H (by simp)
      · rw [if_neg c13] at H
        exact absurd H (by simp)
  · replace c3 := Bool.eq_false_iff.mpr c3
    subst c3
    have H1 : (some (([] : List Int), 1)) = some (r1, r2) := by rw [if_neg (show ¬ (false = true) by decide)] at H; exact H
    clear H
    have H := H1
    clear H1
    simp only [Option.some.injEq, Prod.mk.injEq] at H
    obtain ⟨rfl, rfl⟩ := H
    go_enter Try.func21, Try.ntmps21
    go_wp2_with (first | ((with_reducible refine gate_dst (N := 1) rfl ?_); refine box_event ?hg (N := 1) ?hd (cs := #[.int .i64 a0_0, .int .i64 a0_1, .int .i64 a0_2, .slice A0_3 l0_3.length c0_3]) (t := 29) ?hr ?_; (case hd => rfl); (case hg => rfl); (case hr => first | (go_simp; done) | (go_simp; rfl)); intro gb222 hg w27 hbox hb; have n0_ := Aside0.mk (below_step (by repeat (first | (with_reducible first | exact HB.out | apply below_alloc | apply pw_below_drewN | apply below_drew1) | exact HB.out)) hb); have n1_ := Aside0.mk (hbox); have n2_ := Aside0.mk ((by rw [hg]; exact (below_size (by repeat (first | (with_reducible first | exact HB.out | apply below_alloc | apply pw_below_drewN | apply below_drew1) | exact HB.out))) : w.heap.size ≤ gb222)); have n3_ := Aside0.mk ((by rw [hg]; exact (below_size (by repeat (first | (with_reducible first | exact HB.out | apply below_alloc | apply pw_below_drewN | apply below_drew1) | exact HB.out))) : w.heap.size ≤ gb222)); clear HB; have HB := n0_; have BK222 := n1_; have GW222 := n2_; have GE222 := n3_; clear n0_ n1_ n2_ n3_; clear hb hbox hg; have hcz28_0 : w27.cell? ⟨gb222, 0, none⟩ = some (.int .i64 a0_0) := (blk_cell BK222.out 0).trans rfl; have hcz28_1 : w27.cell? ⟨gb222, 1, none⟩ = some (.int .i64 a0_1) := (blk_cell BK222.out 1).trans rfl; have hcz28_2 : w27.cell? ⟨gb222, 2, none⟩ = some (.int .i64 a0_2) := (blk_cell BK222.out 2).trans rfl; have hcz28_3 : w27.cell? ⟨gb222, 3, none⟩ = some (.slice A0_3 l0_3.length c0_3) := (blk_cell BK222.out 3).trans rfl; have hfz28_0 := blk_frozen BK222.out 0; have hfz28_1 := blk_frozen BK222.out 1; have hfz28_2 := blk_frozen BK222.out 2; have hfz28_3 := blk_frozen BK222.out 3) | ((with_reducible refine gate_callee (f := 32) rfl ?_); refine goesL_ (some 9) rfl rfl Try.func32 (by kernel_rfl) rfl #[.agg #[.int .i64 a0_0, .int .i64 a0_1, .int .i64 a0_2, .slice A0_3 l0_3.length c0_3]] rfl (by (try simp only [List.map_toArray, List.map_cons, List.map_nil]); first | done | rfl | (simp only [List.length_drop, List.length_take]; rfl)) ?_; (with_reducible refine (cutroomref16_Valid.calls a0_0 a0_1 a0_2 _ _ l0_3 false _ ?side1 ?side2 A2.out).mono ?_); (case side1 => repeat (first | exact (Kd.C_below HR0_3.out HB.out) | (with_reducible refine Kd.C_alloc ?_ _) | (with_reducible refine Kd.C_drewN ?_ _) | (with_reducible refine Kd.C_drew ?_))); (case side2 => exact HC0_3.out); rintro e w29 ⟨rfl, hb⟩; refine ⟨_, rfl, ?_⟩; have n0_ := Aside0.mk (blk_below (g := gb222) (o := .cells #[.int .i64 a0_0, .int .i64 a0_1, .int .i64 a0_2, .slice A0_3 l0_3.length c0_3] 29 (0, 0)) (by (with_reducible repeat (first | refine blk_drewN ?_ _ | refine blk_drew ?_ | refine blk_alloc ?_ _)); exact BK222.out) hb); have n1_ := Aside0.mk (below_step (by repeat (first | (with_reducible first | exact HB.out | apply below_alloc | apply pw_below_drewN | apply below_drew1 | refine below_set ?_ GE222.out) | exact HB.out)) hb); clear BK222; clear HB; have BK222 := n0_; have HB := n1_; clear n0_ n1_; (try clear hb); (try clear hb2); (try clear hk); (try clear hi)))
    go_ret2
    exact ⟨_, by first | rfl | (simp [errW_none, errW_some] <;> rfl) | (simp [*, errW_none, errW_some] <;> rfl), by first | exact Kd.R_nil _ _ _ _ _ | exact Kd.N_nil _ _ _ _ _ | exact Kd.V_nil _ _ _ _ _ | exact Kd.Q_nil _ _ _ _ _ | exact Kd.S_nil _ _ _ _ _, by repeat (first | (with_reducible first | exact HB.out | apply below_alloc | apply pw_below_drewN | apply below_drew1 | refine below_set ?_ GE222.out) | exact HB.out)⟩


/-! ### slices_Clone_byte_byte: function 31 -/
theorem slices_Clone_byte_byte.info : (Try.prog.info? 5).map (fun i => (i.zero, i.size, i.bytes)) = some (some (.int .u8 0), 1, 1) := by kernel_rfl
def slices_Clone_byte_byte.f (l0 : List Int) : Option (List Int) := if l0.length < 140737488355328 then some l0 else none
set_option maxHeartbeats 1000000 in
set_option maxRecDepth 100000 in
theorem slices_Clone_byte_byte.calls (A0 : Option Addr) (c0 : Nat) (l0 : List Int) (r : List Int) (w : World) (hr0 : Kd.C (Kd.int .u8) w A0 l0.length l0) (hc0 : l0.length ≤ c0) (h : slices_Clone_byte_byte.f l0 = some r) :
    Calls Try.prog 31 #[.slice A0 l0.length c0] w fun e w' => ∃ v0_ : Value, e = .returned (v0_) ∧ Kd.R (Kd.int .u8) 5 w' w.heap.size (fun _ => True) v0_ r ∧ Below w.heap.size w w' := by
  unfold slices_Clone_byte_byte.f at h
  by_cases hb : l0.length < 140737488355328
  · rw [if_pos hb] at h
    obtain rfl := Option.some.inj h
    clear h
    rcases A0 with _ | ad
    · have hl : l0.length = 0 := by
        rcases Nat.eq_zero_or_pos l0.length with k | k
        · exact k
        · obtain ⟨ad, e, -⟩ := hr0.2.2 k; cases e
      obtain rfl : l0 = [] := List.eq_nil_of_length_eq_zero hl
      clear hr0 hc0 hl hb
      go_enter Try.func31, Try.ntmps31
      have hq : ∀ W, (binOp .eql 27 (.slice none 0 c0) (.slice none 0 0)).run Try.prog W = .ok (.bool true) W := fun W => Lib.run_eql_slice_nil W 27 5 none 0 c0 0 0 Try.underlying27
      go_wp2
      go_ret
      exact ⟨_, rfl, Kd.R_nil _ _ _ _ _, Below.refl _ _⟩
    · have HR0 := Aside0.mk hr0
      have HC0 := Aside0.mk hc0
      have HM := Aside0.mk hb
      clear hr0 hc0 hb
      have hq : ∀ W, (binOp .eql 27 (.slice (some ad) l0.length c0) (.slice none 0 0)).run Try.prog W = .ok (.bool false) W := fun W => Lib.run_eql_slice_nil W 27 5 (some ad) l0.length c0 0 0 Try.underlying27
      go_enter Try.func31, Try.ntmps31
      go_wp2_with (first | ((with_reducible refine gate_dst (N := 5) rfl ?_); refine Kd.R_lit (Kd.int .u8) _ 5 ?hg (N := 5) ?hd (xs := ([] : List Int)) (inner := []) (ok := fun _ => True) (okp := fun _ => True) ?hr ?hp (fun _ hk => hk) trivial (Below.refl _ _) (Nat.le_refl _) (by simp) ?_; (case hd => rfl); (case hg => rfl); (case hr => first | (go_simp; done) | (go_simp; rfl)); (case hp => exact (Reps.none _ _)); intro v102 w3 ho4 hb hg_ hnew_; clear hg_ hnew_; have HO103 := Aside0.mk ho4; have HB := Aside0.mk hb; clear hb ho4) | ((with_reducible refine gate_builtin (b := .append) (xs := #[.tmp 5, .tmp 6]) rfl ?_); at_builtin; refine Kd.R_append_rows (Kd.int .u8) (w0 := w) w.heap.size rfl (.tmp 5) (.tmp 6) 27 5 (.int .u8 0) 1 rfl Try.underlying27 slices_Clone_byte_byte.info rfl (by decide) (by omega) v102 [] l0 _ _ _ (fun _ => True) (fun _ => False) rfl rfl ?aO ?aR (fun _ _ h => h) (fun _ h => h.elim) ?aF ?aB ?aS ?aL ?_; (case aR => exact (Kd.C_below HR0.out HB.out)); (case aB => exact HB.out); (case aF => exact (fun _ _ => trivial)); (case aO => exact HO103.out); (case aS => exact (below_size HB.out)); (case aL => have := HM.out; simp; omega); intro v105 w5 ho hb hg hat; have n0_ := Aside0.mk hb; have n1_ := Aside0.mk ho; clear HB; clear HO103; have HB := n0_; have HO106 := n1_; clear n0_ n1_; clear ho hb hg hat))
      go_ret
      exact ⟨_, rfl, by have := HO106.out; simpa using this, HB.out⟩
  · rw [if_neg hb] at h
    cases h

/-! ### pes_stamped: function 36 -/
def pes_stamped.f (a0 : Int) : Option (Int × Bool) := if a0 = 0 then (some (0, true)) else (if a0 = 128 then (some (5, true)) else (if a0 = 192 then (some (10, true)) else (some (0, false))))
set_option maxHeartbeats 8000000 in
set_option maxRecDepth 100000 in
theorem pes_stamped.calls (a0 : Int) (r1 : Int) (r2 : Bool) (w : World) (h : pes_stamped.f a0 = some (r1, r2)) :
    Calls Try.prog 36 #[.int .u8 a0] w fun e w' => e = .returned (.tuple #[.int .i64 r1, .bool r2]) ∧ Drawn0 w w' := by
  have H : (if a0 = 0 then (some (0, true)) else (if a0 = 128 then (some (5, true)) else (if a0 = 192 then (some (10, true)) else (some (0, false))))) = some (r1, r2) := h
  clear h
  by_cases c2 : a0 = 0
  · rw [if_pos c2] at H
    have c2b0 : (a0 == 0) = true := beq_iff_eq.mpr c2
    have c2b1 : (a0 != 0) = false := bne_eq_false_iff_eq.mpr c2
    clear c2
    simp only [Option.some.injEq, Prod.mk.injEq] at H
    obtain ⟨rfl, rfl⟩ := H
    go_enter Try.func36, Try.ntmps36
    go_wp2
    go_ret2
    exact ⟨by first | rfl | (simp; done) | (simp [*]; done), by repeat (first | exact Drawn0.refl _ | apply Drawn0.step)⟩
  · rw [if_neg c2] at H
    have c2b0 : (a0 == 0) = false := beq_eq_false_iff_ne.mpr c2
    have c2b1 : (a0 != 0) = true := bne_iff_ne.mpr c2
    by_cases c3 : a0 = 128
    · rw [if_pos c3] at H
      have c3b0 : (a0 == 128) = true := beq_iff_eq.mpr c3
      have c3b1 : (a0 != 128) = false := bne_eq_false_iff_eq.mpr c3
      clear c3
      simp only [Option.some.injEq, Prod.mk.injEq] at H
      obtain ⟨rfl, rfl⟩ := H
      go_enter Try.func36, Try.ntmps36
      go_wp2
      go_ret2
      exact ⟨by first | rfl | (simp; done) | (simp [*]; done), by repeat (first | exact Drawn0.refl _ | apply Drawn0.step)⟩
    · rw [if_neg c3] at H
      have c3b0 : (a0 == 128) = false := beq_eq_false_iff_ne.mpr c3
      have c3b1 : (a0 != 128) = true := bne_iff_ne.mpr c3
      by_cases c4 : a0 = 192
      · rw [if_pos c4] at H
        have c4b0 : (a0 == 192) = true := beq_iff_eq.mpr c4
        have c4b1 : (a0 != 192) = false := bne_eq_false_iff_eq.mpr c4
        clear c4
        simp only [Option.some.injEq, Prod.mk.injEq] at H
        obtain ⟨rfl, rfl⟩ := H
        go_enter Try.func36, Try.ntmps36
        go_wp2
        go_ret2
        exact ⟨by first | rfl | (simp; done) | (simp [*]; done), by repeat (first | exact Drawn0.refl _ | apply Drawn0.step)⟩
      · rw [if_neg c4] at H
        have c4b0 : (a0 == 192) = false := beq_eq_false_iff_ne.mpr c4
        have c4b1 : (a0 != 192) = true := bne_iff_ne.mpr c4
        simp only [Option.some.injEq, Prod.mk.injEq] at H
        obtain ⟨rfl, rfl⟩ := H
        go_enter Try.func36, Try.ntmps36
        go_wp2
        go_ret2
        exact ⟨by first | rfl | (simp; done) | (simp [*]; done), by repeat (first | exact Drawn0.refl _ | apply Drawn0.step)⟩

/-! ### pes_unstamp: function 37 -/
def pes_unstamp.f (l0 : List Int) (a1 : Int) : Option (Int × Bool) := if 0 < (l0.length : Int) then (if 1 < (l0.length : Int) then (if 2 < (l0.length : Int) then (if 3 < (l0.length : Int) then (if 4 < (l0.length : Int) then (if (wrap64 ((rd l0 0) / 16)) = a1 then (if (Go.bits .and .u8 (rd l0 0) 1) = 1 then (if (Go.bits .and .u8 (rd l0 2) 1) = 1 then (some (Go.bits .or .i64 (Go.bits .or .i64 (Go.bits .or .i64 (Go.bits .or .i64 (wrap64 ((wrap64 (Go.bits .and .u8 ((rd l0 0) / 2) 7)) * 1073741824)) (wrap64 ((wrap64 (rd l0 1)) * 4194304))) (wrap64 ((wrap64 ((rd l0 2) / 2)) * 32768))) (wrap64 ((wrap64 (rd l0 3)) * 128))) (wrap64 ((rd l0 4) / 2)), ((Go.bits .and .u8 (rd l0 4) 1) == 1))) else (some (Go.bits .or .i64 (Go.bits .or .i64 (Go.bits .or .i64 (Go.bits .or .i64 (wrap64 ((wrap64 (Go.bits .and .u8 ((rd l0 0) / 2) 7)) * 1073741824)) (wrap64 ((wrap64 (rd l0 1)) * 4194304))) (wrap64 ((wrap64 ((rd l0 2) / 2)) * 32768))) (wrap64 ((wrap64 (rd l0 3)) * 128))) (wrap64 ((rd l0 4) / 2)), false))) else (some (Go.bits .or .i64 (Go.bits .or .i64 (Go.bits .or .i64 (Go.bits .or .i64 (wrap64 ((wrap64 (Go.bits .and .u8 ((rd l0 0) / 2) 7)) * 1073741824)) (wrap64 ((wrap64 (rd l0 1)) * 4194304))) (wrap64 ((wrap64 ((rd l0 2) / 2)) * 32768))) (wrap64 ((wrap64 (rd l0 3)) * 128))) (wrap64 ((rd l0 4) / 2)), false))) else (some (Go.bits .or .i64 (Go.bits .or .i64 (Go.bits .or .i64 (Go.bits .or .i64 (wrap64 ((wrap64 (Go.bits .and .u8 ((rd l0 0) / 2) 7)) * 1073741824)) (wrap64 ((wrap64 (rd l0 1)) * 4194304))) (wrap64 ((wrap64 ((rd l0 2) / 2)) * 32768))) (wrap64 ((wrap64 (rd l0 3)) * 128))) (wrap64 ((rd l0 4) / 2)), false))) else (none)) else (none)) else (none)) else (none)) else (none)
set_option maxHeartbeats 8000000 in
set_option maxRecDepth 100000 in
theorem pes_unstamp.calls (A0 : Option Addr) (c0 : Nat) (l0 : List Int) (a1 : Int) (r1 : Int) (r2 : Bool) (w : World) (hr0 : Kd.C (Kd.int .u8) w A0 l0.length l0) (hc0 : l0.length ≤ c0) (h : pes_unstamp.f l0 a1 = some (r1, r2)) :
    Calls Try.prog 37 #[.slice A0 l0.length c0, .int .i64 a1] w fun e w' => e = .returned (.tuple #[.int .i64 r1, .bool r2]) ∧ Drawn0 w w' := by
  have HR0 := Aside0.mk hr0
  have HC0 := Aside0.mk hc0
  clear hr0 hc0
  have H : (if 0 < (l0.length : Int) then (if 1 < (l0.length : Int) then (if 2 < (l0.length : Int) then (if 3 < (l0.length : Int) then (if 4 < (l0.length : Int) then (if (wrap64 ((rd l0 0) / 16)) = a1 then (if (Go.bits .and .u8 (rd l0 0) 1) = 1 then (if (Go.bits .and .u8 (rd l0 2) 1) = 1 then (some (Go.bits .or .i64 (Go.bits .or .i64 (Go.bits .or .i64 (Go.bits .or .i64 (wrap64 ((wrap64 (Go.bits .and .u8 ((rd l0 0) / 2) 7)) * 1073741824)) (wrap64 ((wrap64 (rd l0 1)) * 4194304))) (wrap64 ((wrap64 ((rd l0 2) / 2)) * 32768))) (wrap64 ((wrap64 (rd l0 3)) * 128))) (wrap64 ((rd l0 4) / 2)), ((Go.bits .and .u8 (rd l0 4) 1) == 1))) else (some (Go.bits .or .i64 (Go.bits .or .i64 (Go.bits .or .i64 (Go.bits .or .i64 (wrap64 ((wrap64 (Go.bits .and .u8 ((rd l0 0) / 2) 7)) * 1073741824)) (wrap64 ((wrap64 (rd l0 1)) * 4194304))) (wrap64 ((wrap64 ((rd l0 2) / 2)) * 32768))) (wrap64 ((wrap64 (rd l0 3)) * 128))) (wrap64 ((rd l0 4) / 2)), false))) else (some (Go.bits .or .i64 (Go.bits .or .i64 (Go.bits .or .i64 (Go.bits .or .i64 (wrap64 ((wrap64 (Go.bits .and .u8 ((rd l0 0) / 2) 7)) * 1073741824)) (wrap64 ((wrap64 (rd l0 1)) * 4194304))) (wrap64 ((wrap64 ((rd l0 2) / 2)) * 32768))) (wrap64 ((wrap64 (rd l0 3)) * 128))) (wrap64 ((rd l0 4) / 2)), false))) else (some (Go.bits .or .i64 (Go.bits .or .i64 (Go.bits .or .i64 (Go.bits .or .i64 (wrap64 ((wrap64 (Go.bits .and .u8 ((rd l0 0) / 2) 7)) * 1073741824)) (wrap64 ((wrap64 (rd l0 1)) * 4194304))) (wrap64 ((wrap64 ((rd l0 2) / 2)) * 32768))) (wrap64 ((wrap64 (rd l0 3)) * 128))) (wrap64 ((rd l0 4) / 2)), false))) else (none)) else (none)) else (none)) else (none)) else (none)) = some (r1, r2) := h
  clear h
  by_cases c3 : 0 < (l0.length : Int)
  · rw [if_pos c3] at H
    have c3b0 : decide (0 < (l0.length : Int)) = true := decide_eq_true c3
    have c3b1 : decide (0 < l0.length) = true := decide_eq_true (by omega)
    clear c3
    by_cases c4 : 1 < (l0.length : Int)
    · rw [if_pos c4] at H
      have c4b0 : decide (1 < (l0.length : Int)) = true := decide_eq_true c4
      have c4b1 : decide (1 < l0.length) = true := decide_eq_true (by omega)
      clear c4
      by_cases c5 : 2 < (l0.length : Int)
      · rw [if_pos c5] at H
        have c5b0 : decide (2 < (l0.length : Int)) = true := decide_eq_true c5
        have c5b1 : decide (2 < l0.length) = true := decide_eq_true (by omega)
        clear c5
        by_cases c6 : 3 < (l0.length : Int)
        · rw [if_pos c6] at H
          have c6b0 : decide (3 < (l0.length : Int)) = true := decide_eq_true c6
          have c6b1 : decide (3 < l0.length) = true := decide_eq_true (by omega)
          clear c6
          by_cases c7 : 4 < (l0.length : Int)
          · rw [if_pos c7] at H
            have c7b0 : decide (4 < (l0.length : Int)) = true := decide_eq_true c7
            have c7b1 : decide (4 < l0.length) = true := decide_eq_true (by omega)
            clear c7
            by_cases c8 : (wrap64 ((rd l0 0) / 16)) = a1
            · rw [if_pos c8] at H
              have c8b0 : ((wrap64 ((rd l0 0) / 16)) == a1) = true := beq_iff_eq.mpr c8
              have c8b1 : ((wrap64 ((rd l0 0) / 16)) != a1) = false := bne_eq_false_iff_eq.mpr c8
              clear c8
              by_cases c9 : (Go.bits .and .u8 (rd l0 0) 1) = 1
              · rw [if_pos c9] at H
                have c9b0 : ((Go.bits .and .u8 (rd l0 0) 1) == 1) = true := beq_iff_eq.mpr c9
                have c9b1 : ((Go.bits .and .u8 (rd l0 0) 1) != 1) = false := bne_eq_false_iff_eq.mpr c9
                clear c9
                by_cases c10 : (Go.bits .and .u8 (rd l0 2) 1) = 1
                · rw [if_pos c10] at H
                  have c10b0 : ((Go.bits .and .u8 (rd l0 2) 1) == 1) = true := beq_iff_eq.mpr c10
                  have c10b1 : ((Go.bits .and .u8 (rd l0 2) 1) != 1) = false := bne_eq_false_iff_eq.mpr c10
                  clear c10
                  simp only [Option.some.injEq, Prod.mk.injEq] at H
                  obtain ⟨rfl, rfl⟩ := H
                  have p237 : 0 ≤ (0 : Int) := (by omega)
                  have q237 : 0 < (l0.length : Int) := of_decide_eq_true (by first | (with_reducible assumption) | assumption)
                  obtain ⟨ad237, e237, hx237_0⟩ := Kd.at_int HR0.out 0 p237 q237
                  cases e237
                  have qi237 : (0 < l0.length) = True := eq_true (by omega)
                  (try rw [show ((0 : Int)).toNat = 0 from rfl] at hx237_0)
                  (try rw [Addr.add_zero'] at hx237_0)
                  replace p237 := eq_true p237
                  replace q237 := eq_true q237
                  have p238 : 0 ≤ (1 : Int) := (by omega)
                  have q238 : 1 < (l0.length : Int) := of_decide_eq_true (by first | (with_reducible assumption) | assumption)
                  obtain ⟨ad238, e238, hx238_0⟩ := Kd.at_int HR0.out 1 p238 q238
                  obtain rfl : ad237 = ad238 := (by injection e238)
                  (try simp only [show (1 : Int).toNat = 1 from rfl, Nat.reduceMul, Nat.reduceEqDiff, Go.Addr.add, ↓reduceIte] at hx238_0)
                  have qi238 : (1 < l0.length) = True := eq_true (by omega)
                  (try rw [show ((1 : Int)).toNat = 1 from rfl] at hx238_0)
                  replace p238 := eq_true p238
                  replace q238 := eq_true q238
                  have p239 : 0 ≤ (2 : Int) := (by omega)
                  have q239 : 2 < (l0.length : Int) := of_decide_eq_true (by first | (with_reducible assumption) | assumption)
                  obtain ⟨ad239, e239, hx239_0⟩ := Kd.at_int HR0.out 2 p239 q239
                  obtain rfl : ad237 = ad239 := (by injection e239)
                  (try simp only [show (2 : Int).toNat = 2 from rfl, Nat.reduceMul, Nat.reduceEqDiff, Go.Addr.add, ↓reduceIte] at hx239_0)
                  have qi239 : (2 < l0.length) = True := eq_true (by omega)
                  (try rw [show ((2 : Int)).toNat = 2 from rfl] at hx239_0)
                  replace p239 := eq_true p239
                  replace q239 := eq_true q239
                  have p240 : 0 ≤ (3 : Int) := (by omega)
                  have q240 : 3 < (l0.length : Int) := of_decide_eq_true (by first | (with_reducible assumption) | assumption)
                  obtain ⟨ad240, e240, hx240_0⟩ := Kd.at_int HR0.out 3 p240 q240
                  obtain rfl : ad237 = ad240 := (by injection e240)
                  (try simp only [show (3 : Int).toNat = 3 from rfl, Nat.reduceMul, Nat.reduceEqDiff, Go.Addr.add, ↓reduceIte] at hx240_0)
                  have qi240 : (3 < l0.length) = True := eq_true (by omega)
                  (try rw [show ((3 : Int)).toNat = 3 from rfl] at hx240_0)
                  replace p240 := eq_true p240
                  replace q240 := eq_true q240
                  have p241 : 0 ≤ (4 : Int) := (by omega)
                  have q241 : 4 < (l0.length : Int) := of_decide_eq_true (by first | (with_reducible assumption) | assumption)
                  obtain ⟨ad241, e241, hx241_0⟩ := Kd.at_int HR0.out 4 p241 q241
                  obtain rfl : ad237 = ad241 := (by injection e241)
                  (try simp only [show (4 : Int).toNat = 4 from rfl, Nat.reduceMul, Nat.reduceEqDiff, Go.Addr.add, ↓reduceIte] at hx241_0)
                  have qi241 : (4 < l0.length) = True := eq_true (by omega)
                  (try rw [show ((4 : Int)).toNat = 4 from rfl] at hx241_0)
                  replace p241 := eq_true p241
                  replace q241 := eq_true q241
                  have p242 : 0 ≤ (0 : Int) := (by omega)
                  have q242 : 0 < (l0.length : Int) := of_decide_eq_true (by first | (with_reducible assumption) | assumption)
                  obtain ⟨ad242, e242, hx242_0⟩ := Kd.at_int HR0.out 0 p242 q242
                  obtain rfl : ad237 = ad242 := (by injection e242)
                  have qi242 : (0 < l0.length) = True := eq_true (by omega)
                  (try rw [show ((0 : Int)).toNat = 0 from rfl] at hx242_0)
                  (try rw [Addr.add_zero'] at hx242_0)
                  replace p242 := eq_true p242
                  replace q242 := eq_true q242
                  have p243 : 0 ≤ (0 : Int) := (by omega)
                  have q243 : 0 < (l0.length : Int) := of_decide_eq_true (by first | (with_reducible assumption) | assumption)
                  obtain ⟨ad243, e243, hx243_0⟩ := Kd.at_int HR0.out 0 p243 q243
                  obtain rfl : ad237 = ad243 := (by injection e243)
                  have qi243 : (0 < l0.length) = True := eq_true (by omega)
                  (try rw [show ((0 : Int)).toNat = 0 from rfl] at hx243_0)
                  (try rw [Addr.add_zero'] at hx243_0)
                  replace p243 := eq_true p243
                  replace q243 := eq_true q243
                  have p244 : 0 ≤ (2 : Int) := (by omega)
                  have q244 : 2 < (l0.length : Int) := of_decide_eq_true (by first | (with_reducible assumption) | assumption)
                  obtain ⟨ad244, e244, hx244_0⟩ := Kd.at_int HR0.out 2 p244 q244
                  obtain rfl : ad237 = ad244 := (by injection e244)
                  (try simp only [show (2 : Int).toNat = 2 from rfl, Nat.reduceMul, Nat.reduceEqDiff, Go.Addr.add, ↓reduceIte] at hx244_0)
                  have qi244 : (2 < l0.length) = True := eq_true (by omega)
                  (try rw [show ((2 : Int)).toNat = 2 from rfl] at hx244_0)
                  replace p244 := eq_true p244
                  replace q244 := eq_true q244
                  have p245 : 0 ≤ (4 : Int) := (by omega)
                  have q245 : 4 < (l0.length : Int) := of_decide_eq_true (by first | (with_reducible assumption) | assumption)
                  obtain ⟨ad245, e245, hx245_0⟩ := Kd.at_int HR0.out 4 p245 q245
                  obtain rfl : ad237 = ad245 := (by injection e245)
                  (try simp only [show (4 : Int).toNat = 4 from rfl, Nat.reduceMul, Nat.reduceEqDiff, Go.Addr.add, ↓reduceIte] at hx245_0)
                  have qi245 : (4 < l0.length) = True := eq_true (by omega)
                  (try rw [show ((4 : Int)).toNat = 4 from rfl] at hx245_0)
                  replace p245 := eq_true p245
                  replace q245 := eq_true q245
                  go_enter Try.func37, Try.ntmps37
                  go_wp2
                  repeat (go_quiet (fail); try go_wp2)
                  go_ret2
                  exact ⟨by first | rfl | (simp; done) | (simp [*]; done), by repeat (first | exact Drawn0.refl _ | apply Drawn0.step)⟩
                · rw [if_neg c10] at H
                  have c10b0 : ((Go.bits .and .u8 (rd l0 2) 1) == 1) = false := beq_eq_false_iff_ne.mpr c10
                  have c10b1 : ((Go.bits .and .u8 (rd l0 2) 1) != 1) = true := bne_iff_ne.mpr c10
                  simp only [Option.some.injEq, Prod.mk.injEq] at H
                  obtain ⟨rfl, rfl⟩ := H
                  have p237 : 0 ≤ (0 : Int) := (by omega)
                  have q237 : 0 < (l0.length : Int) := of_decide_eq_true (by first | (with_reducible assumption) | assumption)
                  obtain ⟨ad237, e237, hx237_0⟩ := Kd.at_int HR0.out 0 p237 q237
                  cases e237
                  have qi237 : (0 < l0.length) = True := eq_true (by omega)
                  (try rw [show ((0 : Int)).toNat = 0 from rfl] at hx237_0)
                  (try rw [Addr.add_zero'] at hx237_0)
                  replace p237 := eq_true p237
                  replace q237 := eq_true q237
                  have p238 : 0 ≤ (1 : Int) := (by omega)
                  have q238 : 1 < (l0.length : Int) := of_decide_eq_true (by first | (with_reducible assumption) | assumption)
                  obtain ⟨ad238, e238, hx238_0⟩ := Kd.at_int HR0.out 1 p238 q238
                  obtain rfl : ad237 = ad238 := (by injection e238)
                  (try simp only [show (1 : Int).toNat = 1 from rfl, Nat.reduceMul, Nat.reduceEqDiff, Go.Addr.add, ↓reduceIte] at hx238_0)
                  have qi238 : (1 < l0.length) = True := eq_true (by omega)
                  (try rw [show ((1 : Int)).toNat = 1 from rfl] at hx238_0)
                  replace p238 := eq_true p238
                  replace q238 := eq_true q238
                  have p239 : 0 ≤ (2 : Int) := (by omega)
                  have q239 : 2 < (l0.length : Int) := of_decide_eq_true (by first | (with_reducible assumption) | assumption)
                  obtain ⟨ad239, e239, hx239_0⟩ := Kd.at_int HR0.out 2 p239 q239
                  obtain rfl : ad237 = ad239 := (by injection e239)
                  (try simp only [show (2 : Int).toNat = 2 from rfl, Nat.reduceMul, Nat.reduceEqDiff, Go.Addr.add, ↓reduceIte] at hx239_0)
                  have qi239 : (2 < l0.length) = True := eq_true (by omega)
                  (try rw [show ((2 : Int)).toNat = 2 from rfl] at hx239_0)
                  replace p239 := eq_true p239
                  replace q239 := eq_true q239
                  have p240 : 0 ≤ (3 : Int) := (by omega)
                  have q240 : 3 < (l0.length : Int) := of_decide_eq_true (by first | (with_reducible assumption) | assumption)
                  obtain ⟨ad240, e240, hx240_0⟩ := Kd.at_int HR0.out 3 p240 q240
                  obtain rfl : ad237 = ad240 := (by injection e240)
                  (try simp only [show (3 : Int).toNat = 3 from rfl, Nat.reduceMul, Nat.reduceEqDiff, Go.Addr.add, ↓reduceIte] at hx240_0)
                  have qi240 : (3 < l0.length) = True := eq_true (by omega)
                  (try rw [show ((3 : Int)).toNat = 3 from rfl] at hx240_0)
                  replace p240 := eq_true p240
                  replace q240 := eq_true q240
                  have p241 : 0 ≤ (4 : Int) := (by omega)
                  have q241 : 4 < (l0.length : Int) := of_decide_eq_true (by first | (with_reducible assumption) | assumption)
                  obtain ⟨ad241, e241, hx241_0⟩ := Kd.at_int HR0.out 4 p241 q241
                  obtain rfl : ad237 = ad241 := (by injection e241)
                  (try simp only [show (4 : Int).toNat = 4 from rfl, Nat.reduceMul, Nat.reduceEqDiff, Go.Addr.add, ↓reduceIte] at hx241_0)
                  have qi241 : (4 < l0.length) = True := eq_true (by omega)
                  (try rw [show ((4 : Int)).toNat = 4 from rfl] at hx241_0)
                  replace p241 := eq_true p241
                  replace q241 := eq_true q241
                  have p242 : 0 ≤ (0 : Int) := (by omega)
                  have q242 : 0 < (l0.length : Int) := of_decide_eq_true (by first | (with_reducible assumption) | assumption)
                  obtain ⟨ad242, e242, hx242_0⟩ := Kd.at_int HR0.out 0 p242 q242
                  obtain rfl : ad237 = ad242 := (by injection e242)
                  have qi242 : (0 < l0.length) = True := eq_true (by omega)
                  (try rw [show ((0 : Int)).toNat = 0 from rfl] at hx242_0)
                  (try rw [Addr.add_zero'] at hx242_0)
                  replace p242 := eq_true p242
                  replace q242 := eq_true q242
                  have p243 : 0 ≤ (0 : Int) := (by omega)
                  have q243 : 0 < (l0.length : Int) := of_decide_eq_true (by first | (with_reducible assumption) | assumption)
                  obtain ⟨ad243, e243, hx243_0⟩ := Kd.at_int HR0.out 0 p243 q243
                  obtain rfl : ad237 = ad243 := (by injection e243)
                  have qi243 : (0 < l0.length) = True := eq_true (by omega)
                  (try rw [show ((0 : Int)).toNat = 0 from rfl] at hx243_0)
                  (try rw [Addr.add_zero'] at hx243_0)
                  replace p243 := eq_true p243
                  replace q243 := eq_true q243
                  have p244 : 0 ≤ (2 : Int) := (by omega)
                  have q244 : 2 < (l0.length : Int) := of_decide_eq_true (by first | (with_reducible assumption) | assumption)
                  obtain ⟨ad244, e244, hx244_0⟩ := Kd.at_int HR0.out 2 p244 q244
                  obtain rfl : ad237 = ad244 := (by injection e244)
                  (try simp only [show (2 : Int).toNat = 2 from rfl, Nat.reduceMul, Nat.reduceEqDiff, Go.Addr.add, ↓reduceIte] at hx244_0)
                  have qi244 : (2 < l0.length) = True := eq_true (by omega)
                  (try rw [show ((2 : Int)).toNat = 2 from rfl] at hx244_0)
                  replace p244 := eq_true p244
                  replace q244 := eq_true q244
                  go_enter Try.func37, Try.ntmps37
                  go_wp2
                  repeat (go_quiet (fail); try go_wp2)
                  go_ret2
                  exact ⟨by first | rfl | (simp; done) | (simp [*]; done), by repeat (first | exact Drawn0.refl _ | apply Drawn0.step)⟩
              · rw [if_neg c9] at H
                have c9b0 : ((Go.bits .and .u8 (rd l0 0) 1) == 1) = false := beq_eq_false_iff_ne.mpr c9
                have c9b1 : ((Go.bits .and .u8 (rd l0 0) 1) != 1) = true := bne_iff_ne.mpr c9
                simp only [Option.some.injEq, Prod.mk.injEq] at H
                obtain ⟨rfl, rfl⟩ := H
                have p237 : 0 ≤ (0 : Int) := (by omega)
                have q237 : 0 < (l0.length : Int) := of_decide_eq_true (by first | (with_reducible assumption) | assumption)
                obtain ⟨ad237, e237, hx237_0⟩ := Kd.at_int HR0.out 0 p237 q237
                cases e237
                have qi237 : (0 < l0.length) = True := eq_true (by omega)
                (try rw [show ((0 : Int)).toNat = 0 from rfl] at hx237_0)
                (try rw [Addr.add_zero'] at hx237_0)
                replace p237 := eq_true p237
                replace q237 := eq_true q237
                have p238 : 0 ≤ (1 : Int) := (by omega)
                have q238 : 1 < (l0.length : Int) := of_decide_eq_true (by first | (with_reducible assumption) | assumption)
                obtain ⟨ad238, e238, hx238_0⟩ := Kd.at_int HR0.out 1 p238 q238
                obtain rfl : ad237 = ad238 := (by injection e238)
                (try simp only [show (1 : Int).toNat = 1 from rfl, Nat.reduceMul, Nat.reduceEqDiff, Go.Addr.add, ↓reduceIte] at hx238_0)
                have qi238 : (1 < l0.length) = True := eq_true (by omega)
                (try rw [show ((1 : Int)).toNat = 1 from rfl] at hx238_0)
                replace p238 := eq_true p238
                replace q238 := eq_true q238
                have p239 : 0 ≤ (2 : Int) := (by omega)
                have q239 : 2 < (l0.length : Int) := of_decide_eq_true (by first | (with_reducible assumption) | assumption)
                obtain ⟨ad239, e239, hx239_0⟩ := Kd.at_int HR0.out 2 p239 q239
                obtain rfl : ad237 = ad239 := (by injection e239)
                (try simp only [show (2 : Int).toNat = 2 from rfl, Nat.reduceMul, Nat.reduceEqDiff, Go.Addr.add, ↓reduceIte] at hx239_0)
                have qi239 : (2 < l0.length) = True := eq_true (by omega)
                (try rw [show ((2 : Int)).toNat = 2 from rfl] at hx239_0)
                replace p239 := eq_true p239
                replace q239 := eq_true q239
                have p240 : 0 ≤ (3 : Int) := (by omega)
                have q240 : 3 < (l0.length : Int) := of_decide_eq_true (by first | (with_reducible assumption) | assumption)
                obtain ⟨ad240, e240, hx240_0⟩ := Kd.at_int HR0.out 3 p240 q240
                obtain rfl : ad237 = ad240 := (by injection e240)
                (try simp only [show (3 : Int).toNat = 3 from rfl, Nat.reduceMul, Nat.reduceEqDiff, Go.Addr.add, ↓reduceIte] at hx240_0)
                have qi240 : (3 < l0.length) = True := eq_true (by omega)
                (try rw [show ((3 : Int)).toNat = 3 from rfl] at hx240_0)
                replace p240 := eq_true p240
                replace q240 := eq_true q240
                have p241 : 0 ≤ (4 : Int) := (by omega)
                have q241 : 4 < (l0.length : Int) := of_decide_eq_true (by first | (with_reducible assumption) | assumption)
                obtain ⟨ad241, e241, hx241_0⟩ := Kd.at_int HR0.out 4 p241 q241
                obtain rfl : ad237 = ad241 := (by injection e241)
                (try simp only [show (4 : Int).toNat = 4 from rfl, Nat.reduceMul, Nat.reduceEqDiff, Go.Addr.add, ↓reduceIte] at hx241_0)
                have qi241 : (4 < l0.length) = True := eq_true (by omega)
                (try rw [show ((4 : Int)).toNat = 4 from rfl] at hx241_0)
                replace p241 := eq_true p241
                replace q241 := eq_true q241
                have p242 : 0 ≤ (0 : Int) := (by omega)
                have q242 : 0 < (l0.length : Int) := of_decide_eq_true (by first | (with_reducible assumption) | assumption)
                obtain ⟨ad242, e242, hx242_0⟩ := Kd.at_int HR0.out 0 p242 q242
                obtain rfl : ad237 = ad242 := (by injection e242)
                have qi242 : (0 < l0.length) = True := eq_true (by omega)
                (try rw [show ((0 : Int)).toNat = 0 from rfl] at hx242_0)
                (try rw [Addr.add_zero'] at hx242_0)
                replace p242 := eq_true p242
                replace q242 := eq_true q242
                have p243 : 0 ≤ (0 : Int) := (by omega)
                have q243 : 0 < (l0.length : Int) := of_decide_eq_true (by first | (with_reducible assumption) | assumption)
                obtain ⟨ad243, e243, hx243_0⟩ := Kd.at_int HR0.out 0 p243 q243
                obtain rfl : ad237 = ad243 := (by injection e243)
                have qi243 : (0 < l0.length) = True := eq_true (by omega)
                (try rw [show ((0 : Int)).toNat = 0 from rfl] at hx243_0)
                (try rw [Addr.add_zero'] at hx243_0)
                replace p243 := eq_true p243
                replace q243 := eq_true q243
                go_enter Try.func37, Try.ntmps37
                go_wp2
                repeat (go_quiet (fail); try go_wp2)
                go_ret2
                exact ⟨by first | rfl | (simp; done) | (simp [*]; done), by repeat (first | exact Drawn0.refl _ | apply Drawn0.step)⟩
            · rw [if_neg c8] at H
              have c8b0 : ((wrap64 ((rd l0 0) / 16)) == a1) = false := beq_eq_false_iff_ne.mpr c8
              have c8b1 : ((wrap64 ((rd l0 0) / 16)) != a1) = true := bne_iff_ne.mpr c8
              simp only [Option.some.injEq, Prod.mk.injEq] at H
              obtain ⟨rfl, rfl⟩ := H
              have p237 : 0 ≤ (0 : Int) := (by omega)
              have q237 : 0 < (l0.length : Int) := of_decide_eq_true (by first | (with_reducible assumption) | assumption)
              obtain ⟨ad237, e237, hx237_0⟩ := Kd.at_int HR0.out 0 p237 q237
              cases e237
              have qi237 : (0 < l0.length) = True := eq_true (by omega)
              (try rw [show ((0 : Int)).toNat = 0 from rfl] at hx237_0)
              (try rw [Addr.add_zero'] at hx237_0)
              replace p237 := eq_true p237
              replace q237 := eq_true q237
              have p238 : 0 ≤ (1 : Int) := (by omega)
              have q238 : 1 < (l0.length : Int) := of_decide_eq_true (by first | (with_reducible assumption) | assumption)
              obtain ⟨ad238, e238, hx238_0⟩ := Kd.at_int HR0.out 1 p238 q238
              obtain rfl : ad237 = ad238 := (by injection e238)
              (try simp only [show (1 : Int).toNat = 1 from rfl, Nat.reduceMul, Nat.reduceEqDiff, Go.Addr.add, ↓reduceIte] at hx238_0)
              have qi238 : (1 < l0.length) = True := eq_true (by omega)
              (try rw [show ((1 : Int)).toNat = 1 from rfl] at hx238_0)
              replace p238 := eq_true p238
              replace q238 := eq_true q238
              have p239 : 0 ≤ (2 : Int) := (by omega)
              have q239 : 2 < (l0.length : Int) := of_decide_eq_true (by first | (with_reducible assumption) | assumption)
              obtain ⟨ad239, e239, hx239_0⟩ := Kd.at_int HR0.out 2 p239 q239
              obtain rfl : ad237 = ad239 := (by injection e239)
              (try simp only [show (2 : Int).toNat = 2 from rfl, Nat.reduceMul, Nat.reduceEqDiff, Go.Addr.add, ↓reduceIte] at hx239_0)
              have qi239 : (2 < l0.length) = True := eq_true (by omega)
              (try rw [show ((2 : Int)).toNat = 2 from rfl] at hx239_0)
              replace p239 := eq_true p239
              replace q239 := eq_true q239
              have p240 : 0 ≤ (3 : Int) := (by omega)
              have q240 : 3 < (l0.length : Int) := of_decide_eq_true (by first | (with_reducible assumption) | assumption)
              obtain ⟨ad240, e240, hx240_0⟩ := Kd.at_int HR0.out 3 p240 q240
              obtain rfl : ad237 = ad240 := (by injection e240)
              (try simp only [show (3 : Int).toNat = 3 from rfl, Nat.reduceMul, Nat.reduceEqDiff, Go.Addr.add, ↓reduceIte] at hx240_0)
              have qi240 : (3 < l0.length) = True := eq_true (by omega)
              (try rw [show ((3 : Int)).toNat = 3 from rfl] at hx240_0)
              replace p240 := eq_true p240
              replace q240 := eq_true q240
              have p241 : 0 ≤ (4 : Int) := (by omega)
              have q241 : 4 < (l0.length : Int) := of_decide_eq_true (by first | (with_reducible assumption) | assumption)
              obtain ⟨ad241, e241, hx241_0⟩ := Kd.at_int HR0.out 4 p241 q241
              obtain rfl : ad237 = ad241 := (by injection e241)
              (try simp only [show (4 : Int).toNat = 4 from rfl, Nat.reduceMul, Nat.reduceEqDiff, Go.Addr.add, ↓reduceIte] at hx241_0)
              have qi241 : (4 < l0.length) = True := eq_true (by omega)
              (try rw [show ((4 : Int)).toNat = 4 from rfl] at hx241_0)
              replace p241 := eq_true p241
              replace q241 := eq_true q241
              have p242 : 0 ≤ (0 : Int) := (by omega)
              have q242 : 0 < (l0.length : Int) := of_decide_eq_true (by first | (with_reducible assumption) | assumption)
              obtain ⟨ad242, e242, hx242_0⟩ := Kd.at_int HR0.out 0 p242 q242
              obtain rfl : ad237 = ad242 := (by injection e242)
              have qi242 : (0 < l0.length) = True := eq_true (by omega)
              (try rw [show ((0 : Int)).toNat = 0 from rfl] at hx242_0)
              (try rw [Addr.add_zero'] at hx242_0)
              replace p242 := eq_true p242
              replace q242 := eq_true q242
              go_enter Try.func37, Try.ntmps37
              go_wp2
              repeat (go_quiet (fail); try go_wp2)
              go_ret2
              exact ⟨by first | rfl | (simp; done) | (simp [*]; done), by repeat (first | exact Drawn0.refl _ | apply Drawn0.step)⟩
          · rw [if_neg c7] at H
            exact absurd H (by simp)
        · rw [if_neg c6] at H
          exact absurd H (by simp)
      · rw [if_neg c5] at H
        exact absurd H (by simp)
    · rw [if_neg c4] at H
      exact absurd H (by simp)
  · rw [if_neg c3] at H
    exact absurd H (by simp)

end Go.Proofs.Ytdkibpdgnocgaaa.PPesPuts
