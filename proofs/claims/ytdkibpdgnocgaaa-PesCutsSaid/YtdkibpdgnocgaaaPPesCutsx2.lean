-- Written for this claim by a turned copy of the kit's print (wip/printx/mk.py). By an AI agent.
import Derived.Test.YtdkibpdgnocgaaaPPesCutsx0
import Derived.Test.YtdkibpdgnocgaaaPPesCutsx1
namespace Go.Proofs.Ytdkibpdgnocgaaa.PPesCuts
open Go.RowKit Go.Proofs.YtdkibpdgnocgaaaW.PrintWords Go.Proofs.YtdkibpdgnocgaaaW.PrintLast Go.Proofs.YtdkibpdgnocgaaaW.PrintMore
attribute [local go_sem] max2_int min2_int max_two min_two max_three min_three max_four min_four   -- for this text's walks alone
set_option linter.unusedVariables false
set_option linter.unusedSimpArgs false

/-! ### pes_Join: function 14 -/
def pes_Join.l0 : Nat → List Int → List Int → List (S30) → Int → Int → Option (List Int × List Int)
  | 0, _, _, _, _, _ => none
  | k + 1, x4, x5, x8, x9, x10 => if x10 < x9 then (if 0 ≤ x10 then (if x10 < (x8.length : Int) then (if ((rd_T30 x8 x10).f1) = (-1) then (if x4.length + ((rd_T30 x8 x10).f3).length < 140737488355328 then (pes_Join.l0 k (x4 ++ ((rd_T30 x8 x10).f3)) x5 x8 x9 (wrap64 (x10 + 1))) else (none)) else (if x5.length < 17592186044416 then (if x4.length + ((rd_T30 x8 x10).f3).length < 140737488355328 then (pes_Join.l0 k (x4 ++ ((rd_T30 x8 x10).f3)) (x5 ++ [(x4.length : Int)]) x8 x9 (wrap64 (x10 + 1))) else (none)) else (none))) else (none)) else (none)) else (some (x4, x5))
def pes_Join.f (k : Nat) (l0 : List (S30)) : Option (List Int × List Int) := pes_Join.l0 k ([] : List Int) ([] : List Int) l0 (l0.length : Int) 0
theorem pes_Join.mono_l : ∀ k, (∀ y0 y1 y2 y3 y4, LeO (pes_Join.l0 k y0 y1 y2 y3 y4) (pes_Join.l0 (k + 1) y0 y1 y2 y3 y4))
  | 0 => fun _ _ _ _ _ r h => by simp [pes_Join.l0] at h
  | k + 1 => by
    have ih0 := pes_Join.mono_l k
    · intro y0 y1 y2 y3 y4
      unfold pes_Join.l0
      repeat' first
      | (with_reducible exact ih0 _ _ _ _ _)
      | (with_reducible exact LeO.refl _)
      | (with_reducible exact LeO.none _)
      | (with_reducible refine LeO.ite ?_ ?_)
      | (with_reducible refine LeO.bind ?_ (fun _ => ?_))
      | exact ih0 _ _ _ _ _
      | exact LeO.none _
      | refine LeO.ite ?_ ?_
      | refine LeO.bind ?_ (fun _ => ?_)
theorem pes_Join.mono : ∀ a0 k, LeO (pes_Join.f k a0) (pes_Join.f (k + 1) a0) := by
  intro a0 k
  have ih0 := pes_Join.mono_l k
  unfold pes_Join.f
  repeat' first
      | (with_reducible exact ih0 _ _ _ _ _)
      | (with_reducible exact LeO.refl _)
      | (with_reducible exact LeO.none _)
      | (with_reducible refine LeO.ite ?_ ?_)
      | (with_reducible refine LeO.bind ?_ (fun _ => ?_))
      | exact ih0 _ _ _ _ _
      | exact LeO.none _
      | refine LeO.ite ?_ ?_
      | refine LeO.bind ?_ (fun _ => ?_)
set_option maxHeartbeats 8000000 in
set_option maxRecDepth 100000 in
theorem pes_Join.calls (k : Nat) (A0 : Option Addr) (c0 : Nat) (l0 : List (S30)) (r1 : List Int) (r2 : List Int) (w : World) (hr0 : Kd.C k30 w A0 l0.length l0) (hc0 : l0.length ≤ c0) (h : pes_Join.f k l0 = some (r1, r2)) :
    Calls Try.prog 14 #[.slice A0 l0.length c0] w fun e w' => ∃ v0_ v1_ : Value, e = .returned (.tuple #[v0_, v1_]) ∧ Kd.R (Kd.int .u8) 5 w' w.heap.size (fun _ => True) v0_ r1 ∧ Kd.R (Kd.int .i64) 3 w' w.heap.size (fun _ => True) v1_ r2 ∧ Below w.heap.size w w' := by
  have hu30 := Try.underlying30
  have HR0 := Aside0.mk hr0
  have HC0 := Aside0.mk hc0
  clear hr0 hc0
  have HB := Aside0.mk (Below.refl w.heap.size w)
  have H : (pes_Join.l0 k ([] : List Int) ([] : List Int) l0 (l0.length : Int) 0) = some (r1, r2) := h
  clear h
  have H' := Aside0.mk H
  clear H
  go_enter Try.func14, Try.ntmps14
  go_wp2
  go_loopg [4, 5, 10] k (fun kq v4 v5 v10 w' => ∃ (x4_1 : List Int) (x5_1 : List Int) (x10_1 : Int), v10 = .int .i64 x10_1 ∧ Aside0 (pes_Join.l0 kq x4_1 x5_1 l0 (l0.length : Int) x10_1 = some (r1, r2)) ∧ Aside0 (kq ≤ k) ∧ Aside0 (Kd.R (Kd.int .u8) 5 w' w.heap.size (fun _ => True) v4 x4_1) ∧ Aside0 (Kd.R (Kd.int .i64) 3 w' w.heap.size (fun _ => True) v5 x5_1) ∧ Aside0 (Below w.heap.size w w'))
  case atStart => exact ⟨(([] : List Int)), (([] : List Int)), (0), (by first | rfl | (simp; done) | (simp [*]; done)), H', ⟨Nat.le_refl _⟩, ⟨by first | exact Kd.R_nil _ _ _ _ _ | exact Kd.N_nil _ _ _ _ _ | exact Kd.V_nil _ _ _ _ _ | exact Kd.Q_nil _ _ _ _ _ | exact Kd.S_nil _ _ _ _ _⟩, ⟨by first | exact Kd.R_nil _ _ _ _ _ | exact Kd.N_nil _ _ _ _ _ | exact Kd.V_nil _ _ _ _ _ | exact Kd.Q_nil _ _ _ _ _ | exact Kd.S_nil _ _ _ _ _⟩, ⟨by repeat (first | (with_reducible first | exact HB.out | apply below_alloc | apply pw_below_drewN | apply below_drew1) | exact HB.out)⟩⟩
  case round =>
    clear H'
    try clear c1
    obtain ⟨x4_1, x5_1, x10_1, rfl, HA, HK1, HO_4, HO_5, HB⟩ := hrel
    cases gk with
    | zero => exact absurd HA.out (by simp [pes_Join.l0])
    | succ k1 =>
      have H := HA.out
      clear HA
      simp only [pes_Join.l0] at H
      by_cases c2 : x10_1 < (l0.length : Int)
      · rw [if_pos c2] at H
        have c2b0 : decide (x10_1 < (l0.length : Int)) = true := decide_eq_true c2
        clear c2
        by_cases c3 : 0 ≤ x10_1
        · rw [if_pos c3] at H
          have c3b0 : decide (0 ≤ x10_1) = true := decide_eq_true c3
          clear c3
          by_cases c4 : x10_1 < (l0.length : Int)
          · rw [if_pos c4] at H
            have c4b0 : decide (x10_1 < (l0.length : Int)) = true := decide_eq_true c4
            clear c4
            by_cases c5 : ((rd_T30 l0 x10_1).f1) = (-1)
            · rw [if_pos c5] at H
              have c5b0 : (((rd_T30 l0 x10_1).f1) == (-1)) = true := beq_iff_eq.mpr c5
              have c5b1 : (((rd_T30 l0 x10_1).f1) != (-1)) = false := bne_eq_false_iff_eq.mpr c5
              clear c5
              by_cases c6 : x4_1.length + ((rd_T30 l0 x10_1).f3).length < 140737488355328
              · rw [if_pos c6] at H
                have LMc6 := Aside0.mk c6
                clear c6
                obtain ⟨y156, hy156⟩ : ∃ y_ : List Int, y_ = (x4_1 ++ ((rd_T30 l0 x10_1).f3)) := ⟨_, rfl⟩
                replace H : (pes_Join.l0 k1 y156 x5_1 l0 (l0.length : Int) (wrap64 (x10_1 + 1))) = some (r1, r2) := by first | (rw [hy156]; with_reducible exact H) | (have H2_ := (Option.bind_some _ _).symm.trans H; rw [hy156]; with_reducible exact H2_) | (have H2_ := (Option.bind_some _ _).symm.trans H; with_reducible exact H2_) | with_reducible exact H | (rw [hy156]; exact H) | exact H
                have Ny156 := Aside0.mk hy156
                clear hy156
                have H' := Aside0.mk H
                clear H
                have p154 : 0 ≤ (x10_1 : Int) := of_decide_eq_true (by first | (with_reducible assumption) | assumption)
                have q154 : x10_1 < (l0.length : Int) := of_decide_eq_true (by first | (with_reducible assumption) | assumption)
                obtain ⟨ad154, A154_3, c154_3, e154, hx154_0, hx154_1, hx154_2, hx154_3, hl154_3, hi154_3⟩ := at_T30 HR0.out x10_1 p154 q154
                cases e154
                replace hx154_0 := (HB.out.cell (World.block_lt_of_cell? w _ hx154_0)).trans hx154_0
                replace hx154_1 := (HB.out.cell (World.block_lt_of_cell? w _ hx154_1)).trans hx154_1
                replace hx154_2 := (HB.out.cell (World.block_lt_of_cell? w _ hx154_2)).trans hx154_2
                replace hx154_3 := (HB.out.cell (World.block_lt_of_cell? w _ hx154_3)).trans hx154_3
                have HR154_3 := Aside0.mk hi154_3
                have HC154_3 := Aside0.mk hl154_3
                clear hi154_3 hl154_3
                replace p154 := eq_true p154
                replace q154 := eq_true q154
                go_wp2_with (first | ((with_reducible refine gate_dst (N := 7) rfl ?_); refine box_event ?hg (N := 7) ?hd (cs := #[.int .i64 0, .int .i64 0, .int .i64 0, .slice none 0 0]) (t := 30) ?hr ?_; (case hd => rfl); (case hg => rfl); (case hr => first | (go_simp; done) | (go_simp; rfl)); intro gb155 hg w7 hbox hb; have n0_ := Aside0.mk (Kd.R_below (by (with_reducible repeat (first | apply Kd.R_alloc | apply Kd.R_drewN | apply Kd.R_drew)); exact HO_4.out) hb); have n1_ := Aside0.mk (Kd.R_below (by (with_reducible repeat (first | apply Kd.R_alloc | apply Kd.R_drewN | apply Kd.R_drew)); exact HO_5.out) hb); have n2_ := Aside0.mk (below_step (by repeat (first | (with_reducible first | exact HB.out | apply below_alloc | apply pw_below_drewN | apply below_drew1) | exact HB.out)) hb); have n3_ := Aside0.mk (hbox); have n4_ := Aside0.mk ((by rw [hg]; exact (below_size (by repeat (first | (with_reducible first | exact HB.out | apply below_alloc | apply pw_below_drewN | apply below_drew1) | exact HB.out))) : w.heap.size ≤ gb155)); have n5_ := Aside0.mk ((by rw [hg]; exact (below_size (by repeat (first | (with_reducible first | exact HB.out | apply below_alloc | apply pw_below_drewN | apply below_drew1) | exact HB.out))) : w.heap.size ≤ gb155)); clear HO_4; clear HO_5; clear HB; have HO_4 := n0_; have HO_5 := n1_; have HB := n2_; have BK155 := n3_; have GW155 := n4_; have GE155 := n5_; clear n0_ n1_ n2_ n3_ n4_ n5_; clear hb hbox hg; have hcz8_0 : w7.cell? ⟨gb155, 0, none⟩ = some (.int .i64 0) := (blk_cell BK155.out 0).trans rfl; have hcz8_1 : w7.cell? ⟨gb155, 1, none⟩ = some (.int .i64 0) := (blk_cell BK155.out 1).trans rfl; have hcz8_2 : w7.cell? ⟨gb155, 2, none⟩ = some (.int .i64 0) := (blk_cell BK155.out 2).trans rfl; have hcz8_3 : w7.cell? ⟨gb155, 3, none⟩ = some (.slice none 0 0) := (blk_cell BK155.out 3).trans rfl; have hfz8_0 := blk_frozen BK155.out 0; have hfz8_1 := blk_frozen BK155.out 1; have hfz8_2 := blk_frozen BK155.out 2; have hfz8_3 := blk_frozen BK155.out 3) | ((with_reducible refine gate_builtin (b := .append) (xs := #[.tmp 22, .tmp 24]) rfl ?_); at_builtin; refine Kd.R_append_rows (Kd.int .u8) (w0 := w) w.heap.size rfl (.tmp 22) (.tmp 24) 27 5 (.int .u8 0) 1 rfl Try.underlying27 info5 rfl (by decide) (by omega) u4 x4_1 ((rd_T30 l0 x10_1).f3) _ _ _ (fun _ => True) (fun _ => False) rfl rfl ?aO ?aR (fun _ _ h => h) (fun _ h => h.elim) ?aF ?aB ?aS ?aL ?_; (case aR => exact Kd.C_below HR154_3.out (by repeat (first | (with_reducible first | exact HB.out | apply below_alloc | apply pw_below_drewN | apply below_drew1 | refine below_set ?_ GE155.out) | exact HB.out))); (case aB => exact (by repeat (first | (with_reducible first | exact HB.out | apply below_alloc | apply pw_below_drewN | apply below_drew1 | refine below_set ?_ GE155.out) | exact HB.out))); (case aF => exact (fun _ _ => trivial)); (case aO => exact (by (with_reducible repeat (first | apply Kd.R_alloc | apply Kd.R_drewN | apply Kd.R_drew)); exact Kd.R_mono (Kd.R_far (p := ⟨gb155, 3, none⟩) (Kd.R_far (p := ⟨gb155, 2, none⟩) (Kd.R_far (p := ⟨gb155, 1, none⟩) (Kd.R_far (p := ⟨gb155, 0, none⟩) (Kd.R_types HO_4.out BK155.out (by decide)) (fun _ hk => hk.2) (.int .i64 ((rd_T30 l0 x10_1).f0))) (fun _ hk => hk.2) (.int .i64 ((rd_T30 l0 x10_1).f1))) (fun _ hk => hk.2) (.int .i64 ((rd_T30 l0 x10_1).f2))) (fun _ hk => hk.2) (.slice A154_3 ((rd_T30 l0 x10_1).f3).length c154_3)) (fun _ hk => trivial))); (case aS => exact (below_size (by repeat (first | (with_reducible first | exact HB.out | apply below_alloc | apply pw_below_drewN | apply below_drew1 | refine below_set ?_ GE155.out) | exact HB.out)))); (case aL => have := LMc6.out; omega); intro v157 w9 ho hb hg hat; rw [← Ny156.out] at ho; have n0_ := Aside0.mk (Kd.R_over' (by (with_reducible repeat (first | apply Kd.R_alloc | apply Kd.R_drewN | apply Kd.R_drew)); exact (Kd.R_mono (Kd.R_far (p := ⟨gb155, 3, none⟩) (Kd.R_far (p := ⟨gb155, 2, none⟩) (Kd.R_far (p := ⟨gb155, 1, none⟩) (Kd.R_far (p := ⟨gb155, 0, none⟩) (Kd.R_types HO_5.out BK155.out (by decide)) (fun _ hk => hk.2) (.int .i64 ((rd_T30 l0 x10_1).f0))) (fun _ hk => hk.2) (.int .i64 ((rd_T30 l0 x10_1).f1))) (fun _ hk => hk.2) (.int .i64 ((rd_T30 l0 x10_1).f2))) (fun _ hk => hk.2) (.slice A154_3 ((rd_T30 l0 x10_1).f3).length c154_3)) (fun _ h_ => h_.1))) (Kd.R_typed (by (with_reducible repeat (first | apply Kd.R_alloc | apply Kd.R_drewN | apply Kd.R_drew)); exact (Kd.R_mono (Kd.R_far (p := ⟨gb155, 3, none⟩) (Kd.R_far (p := ⟨gb155, 2, none⟩) (Kd.R_far (p := ⟨gb155, 1, none⟩) (Kd.R_far (p := ⟨gb155, 0, none⟩) (Kd.R_types HO_4.out BK155.out (by decide)) (fun _ hk => hk.2) (.int .i64 ((rd_T30 l0 x10_1).f0))) (fun _ hk => hk.2) (.int .i64 ((rd_T30 l0 x10_1).f1))) (fun _ hk => hk.2) (.int .i64 ((rd_T30 l0 x10_1).f2))) (fun _ hk => hk.2) (.slice A154_3 ((rd_T30 l0 x10_1).f3).length c154_3)) (fun _ h_ => h_.1)))) (by decide) hg); have n1_ := Aside0.mk (blk_grown (g := gb155) (o := .cells #[.int .i64 ((rd_T30 l0 x10_1).f0), .int .i64 ((rd_T30 l0 x10_1).f1), .int .i64 ((rd_T30 l0 x10_1).f2), .slice A154_3 ((rd_T30 l0 x10_1).f3).length c154_3] 30 (0, 0)) (by (with_reducible repeat (first | refine blk_drewN ?_ _ | refine blk_drew ?_ | refine blk_alloc ?_ _)); refine blk_put (cs := #[.int .i64 ((rd_T30 l0 x10_1).f0), .int .i64 ((rd_T30 l0 x10_1).f1), .int .i64 ((rd_T30 l0 x10_1).f2), .slice none 0 0]) ?_ 3 _ rfl; (with_reducible repeat (first | refine blk_drewN ?_ _ | refine blk_drew ?_ | refine blk_alloc ?_ _)); refine blk_put (cs := #[.int .i64 ((rd_T30 l0 x10_1).f0), .int .i64 ((rd_T30 l0 x10_1).f1), .int .i64 0, .slice none 0 0]) ?_ 2 _ rfl; (with_reducible repeat (first | refine blk_drewN ?_ _ | refine blk_drew ?_ | refine blk_alloc ?_ _)); refine blk_put (cs := #[.int .i64 ((rd_T30 l0 x10_1).f0), .int .i64 0, .int .i64 0, .slice none 0 0]) ?_ 1 _ rfl; (with_reducible repeat (first | refine blk_drewN ?_ _ | refine blk_drew ?_ | refine blk_alloc ?_ _)); refine blk_put (cs := #[.int .i64 0, .int .i64 0, .int .i64 0, .slice none 0 0]) ?_ 0 _ rfl; (with_reducible repeat (first | refine blk_drewN ?_ _ | refine blk_drew ?_ | refine blk_alloc ?_ _)); exact BK155.out) hg (Kd.R_ne HO_4.out BK155.out (by decide))); have n2_ := Aside0.mk (hb); have n3_ := Aside0.mk (ho); clear HO_5; clear BK155; clear HB; clear HO_4; have HO_5 := n0_; have BK155 := n1_; have HB := n2_; have HO158 := n3_; clear n0_ n1_ n2_ n3_; clear ho hb hg hat))
                go_roundg k1
                case measure => have := HK1.out; omega
                case rel => exact ⟨(y156), (x5_1), (wrap64 (x10_1 + 1)), (by first | rfl | (simp; done) | (simp [*]; done)), H', ⟨by have := HK1.out; omega⟩, ⟨by (with_reducible repeat (first | apply Kd.R_alloc | apply Kd.R_drewN | apply Kd.R_drew)); exact HO158.out⟩, ⟨by (with_reducible repeat (first | apply Kd.R_alloc | apply Kd.R_drewN | apply Kd.R_drew)); exact HO_5.out⟩, ⟨by repeat (first | (with_reducible first | exact HB.out | apply below_alloc | apply pw_below_drewN | apply below_drew1 | refine below_set ?_ GE155.out) | exact HB.out)⟩⟩
              · rw [if_neg c6] at H
                exact absurd H (by simp)
            · rw [if_neg c5] at H
              have c5b0 : (((rd_T30 l0 x10_1).f1) == (-1)) = false := beq_eq_false_iff_ne.mpr c5
              have c5b1 : (((rd_T30 l0 x10_1).f1) != (-1)) = true := bne_iff_ne.mpr c5
              by_cases c10 : x5_1.length < 17592186044416
              · rw [if_pos c10] at H
                have LMc10 := Aside0.mk c10
                clear c10
                obtain ⟨y159, hy159⟩ : ∃ y_ : List Int, y_ = (x5_1 ++ [(x4_1.length : Int)]) := ⟨_, rfl⟩
                replace H : (if x4_1.length + ((rd_T30 l0 x10_1).f3).length < 140737488355328 then (pes_Join.l0 k1 (x4_1 ++ ((rd_T30 l0 x10_1).f3)) y159 l0 (l0.length : Int) (wrap64 (x10_1 + 1))) else (none)) = some (r1, r2) := by first | (rw [hy159]; with_reducible exact H) | (have H2_ := (Option.bind_some _ _).symm.trans H; rw [hy159]; with_reducible exact H2_) | (have H2_ := (Option.bind_some _ _).symm.trans H; with_reducible exact H2_) | with_reducible exact H | (rw [hy159]; exact H) | exact H
                have Ny159 := Aside0.mk hy159
                clear hy159
                by_cases c11 : x4_1.length + ((rd_T30 l0 x10_1).f3).length < 140737488355328
                · rw [if_pos c11] at H
                  have LMc11 := Aside0.mk c11
                  clear c11
                  obtain ⟨y162, hy162⟩ : ∃ y_ : List Int, y_ = (x4_1 ++ ((rd_T30 l0 x10_1).f3)) := ⟨_, rfl⟩
                  replace H : (pes_Join.l0 k1 y162 y159 l0 (l0.length : Int) (wrap64 (x10_1 + 1))) = some (r1, r2) := by first | (rw [hy162]; with_reducible exact H) | (have H2_ := (Option.bind_some _ _).symm.trans H; rw [hy162]; with_reducible exact H2_) | (have H2_ := (Option.bind_some _ _).symm.trans H; with_reducible exact H2_) | with_reducible exact H | (rw [hy162]; exact H) | exact H
                  have Ny162 := Aside0.mk hy162
                  clear hy162
                  have H' := Aside0.mk H
                  clear H
                  have p154 : 0 ≤ (x10_1 : Int) := of_decide_eq_true (by first | (with_reducible assumption) | assumption)
                  have q154 : x10_1 < (l0.length : Int) := of_decide_eq_true (by first | (with_reducible assumption) | assumption)
                  obtain ⟨ad154, A154_3, c154_3, e154, hx154_0, hx154_1, hx154_2, hx154_3, hl154_3, hi154_3⟩ := at_T30 HR0.out x10_1 p154 q154
                  cases e154
                  replace hx154_0 := (HB.out.cell (World.block_lt_of_cell? w _ hx154_0)).trans hx154_0
                  replace hx154_1 := (HB.out.cell (World.block_lt_of_cell? w _ hx154_1)).trans hx154_1
                  replace hx154_2 := (HB.out.cell (World.block_lt_of_cell? w _ hx154_2)).trans hx154_2
                  replace hx154_3 := (HB.out.cell (World.block_lt_of_cell? w _ hx154_3)).trans hx154_3
                  have HR154_3 := Aside0.mk hi154_3
                  have HC154_3 := Aside0.mk hl154_3
                  clear hi154_3 hl154_3
                  replace p154 := eq_true p154
                  replace q154 := eq_true q154
                  go_wp2_with (first | ((with_reducible refine gate_dst (N := 7) rfl ?_); refine box_event ?hg (N := 7) ?hd (cs := #[.int .i64 0, .int .i64 0, .int .i64 0, .slice none 0 0]) (t := 30) ?hr ?_; (case hd => rfl); (case hg => rfl); (case hr => first | (go_simp; done) | (go_simp; rfl)); intro gb155 hg w12 hbox hb; have n0_ := Aside0.mk (Kd.R_below (by (with_reducible repeat (first | apply Kd.R_alloc | apply Kd.R_drewN | apply Kd.R_drew)); exact HO_4.out) hb); have n1_ := Aside0.mk (Kd.R_below (by (with_reducible repeat (first | apply Kd.R_alloc | apply Kd.R_drewN | apply Kd.R_drew)); exact HO_5.out) hb); have n2_ := Aside0.mk (below_step (by repeat (first | (with_reducible first | exact HB.out | apply below_alloc | apply pw_below_drewN | apply below_drew1) | exact HB.out)) hb); have n3_ := Aside0.mk (hbox); have n4_ := Aside0.mk ((by rw [hg]; exact (below_size (by repeat (first | (with_reducible first | exact HB.out | apply below_alloc | apply pw_below_drewN | apply below_drew1) | exact HB.out))) : w.heap.size ≤ gb155)); have n5_ := Aside0.mk ((by rw [hg]; exact (below_size (by repeat (first | (with_reducible first | exact HB.out | apply below_alloc | apply pw_below_drewN | apply below_drew1) | exact HB.out))) : w.heap.size ≤ gb155)); clear HO_4; clear HO_5; clear HB; have HO_4 := n0_; have HO_5 := n1_; have HB := n2_; have BK155 := n3_; have GW155 := n4_; have GE155 := n5_; clear n0_ n1_ n2_ n3_ n4_ n5_; clear hb hbox hg; have hcz13_0 : w12.cell? ⟨gb155, 0, none⟩ = some (.int .i64 0) := (blk_cell BK155.out 0).trans rfl; have hcz13_1 : w12.cell? ⟨gb155, 1, none⟩ = some (.int .i64 0) := (blk_cell BK155.out 1).trans rfl; have hcz13_2 : w12.cell? ⟨gb155, 2, none⟩ = some (.int .i64 0) := (blk_cell BK155.out 2).trans rfl; have hcz13_3 : w12.cell? ⟨gb155, 3, none⟩ = some (.slice none 0 0) := (blk_cell BK155.out 3).trans rfl; have hfz13_0 := blk_frozen BK155.out 0; have hfz13_1 := blk_frozen BK155.out 1; have hfz13_2 := blk_frozen BK155.out 2; have hfz13_3 := blk_frozen BK155.out 3; obtain ⟨Ao14, co14, eo14⟩ := Kd.R_slice HO_4.out; subst eo14) | ((with_reducible refine gate_builtin (b := .append) (xs := #[.tmp 17, .tmp 20]) rfl ?_); at_builtin; refine Kd.R_append (Kd.int .i64) (w0 := w) w.heap.size rfl (.tmp 17) (.tmp 20) 32 3 (.int .i64 0) 8 rfl Try.underlying32 info3 rfl (by decide) (by omega) u5 x5_1 (x4_1.length : Int) [.int .i64 (x4_1.length : Int)] (fun _ => True) (fun _ => False) rfl (by first | (go_simp; done) | (go_simp; rfl)) ?aP (fun _ hk => hk.elim) ?aF ?aO ?aB ?aS ?aL ?_; (case aP => exact rfl); (case aB => exact (by repeat (first | (with_reducible first | exact HB.out | apply below_alloc | apply pw_below_drewN | apply below_drew1 | refine below_set ?_ GE155.out) | exact HB.out))); (case aF => exact (fun _ _ => trivial)); (case aO => exact (by (with_reducible repeat (first | apply Kd.R_alloc | apply Kd.R_drewN | apply Kd.R_drew)); exact Kd.R_mono (Kd.R_far (p := ⟨gb155, 3, none⟩) (Kd.R_far (p := ⟨gb155, 2, none⟩) (Kd.R_far (p := ⟨gb155, 1, none⟩) (Kd.R_far (p := ⟨gb155, 0, none⟩) (Kd.R_types HO_5.out BK155.out (by decide)) (fun _ hk => hk.2) (.int .i64 ((rd_T30 l0 x10_1).f0))) (fun _ hk => hk.2) (.int .i64 ((rd_T30 l0 x10_1).f1))) (fun _ hk => hk.2) (.int .i64 ((rd_T30 l0 x10_1).f2))) (fun _ hk => hk.2) (.slice A154_3 ((rd_T30 l0 x10_1).f3).length c154_3)) (fun _ hk => trivial))); (case aS => exact (below_size (by repeat (first | (with_reducible first | exact HB.out | apply below_alloc | apply pw_below_drewN | apply below_drew1 | refine below_set ?_ GE155.out) | exact HB.out)))); (case aL => have := LMc10.out; omega); intro v160 w15 ho hb hg hat; rw [← Ny159.out] at ho; have n0_ := Aside0.mk (Kd.R_over' (by (with_reducible repeat (first | apply Kd.R_alloc | apply Kd.R_drewN | apply Kd.R_drew)); exact (Kd.R_mono (Kd.R_far (p := ⟨gb155, 3, none⟩) (Kd.R_far (p := ⟨gb155, 2, none⟩) (Kd.R_far (p := ⟨gb155, 1, none⟩) (Kd.R_far (p := ⟨gb155, 0, none⟩) (Kd.R_types HO_4.out BK155.out (by decide)) (fun _ hk => hk.2) (.int .i64 ((rd_T30 l0 x10_1).f0))) (fun _ hk => hk.2) (.int .i64 ((rd_T30 l0 x10_1).f1))) (fun _ hk => hk.2) (.int .i64 ((rd_T30 l0 x10_1).f2))) (fun _ hk => hk.2) (.slice A154_3 ((rd_T30 l0 x10_1).f3).length c154_3)) (fun _ h_ => h_.1))) (Kd.R_typed (by (with_reducible repeat (first | apply Kd.R_alloc | apply Kd.R_drewN | apply Kd.R_drew)); exact (Kd.R_mono (Kd.R_far (p := ⟨gb155, 3, none⟩) (Kd.R_far (p := ⟨gb155, 2, none⟩) (Kd.R_far (p := ⟨gb155, 1, none⟩) (Kd.R_far (p := ⟨gb155, 0, none⟩) (Kd.R_types HO_5.out BK155.out (by decide)) (fun _ hk => hk.2) (.int .i64 ((rd_T30 l0 x10_1).f0))) (fun _ hk => hk.2) (.int .i64 ((rd_T30 l0 x10_1).f1))) (fun _ hk => hk.2) (.int .i64 ((rd_T30 l0 x10_1).f2))) (fun _ hk => hk.2) (.slice A154_3 ((rd_T30 l0 x10_1).f3).length c154_3)) (fun _ h_ => h_.1)))) (by decide) hg); have n1_ := Aside0.mk (blk_grown (g := gb155) (o := .cells #[.int .i64 ((rd_T30 l0 x10_1).f0), .int .i64 ((rd_T30 l0 x10_1).f1), .int .i64 ((rd_T30 l0 x10_1).f2), .slice A154_3 ((rd_T30 l0 x10_1).f3).length c154_3] 30 (0, 0)) (by (with_reducible repeat (first | refine blk_drewN ?_ _ | refine blk_drew ?_ | refine blk_alloc ?_ _)); refine blk_put (cs := #[.int .i64 ((rd_T30 l0 x10_1).f0), .int .i64 ((rd_T30 l0 x10_1).f1), .int .i64 ((rd_T30 l0 x10_1).f2), .slice none 0 0]) ?_ 3 _ rfl; (with_reducible repeat (first | refine blk_drewN ?_ _ | refine blk_drew ?_ | refine blk_alloc ?_ _)); refine blk_put (cs := #[.int .i64 ((rd_T30 l0 x10_1).f0), .int .i64 ((rd_T30 l0 x10_1).f1), .int .i64 0, .slice none 0 0]) ?_ 2 _ rfl; (with_reducible repeat (first | refine blk_drewN ?_ _ | refine blk_drew ?_ | refine blk_alloc ?_ _)); refine blk_put (cs := #[.int .i64 ((rd_T30 l0 x10_1).f0), .int .i64 0, .int .i64 0, .slice none 0 0]) ?_ 1 _ rfl; (with_reducible repeat (first | refine blk_drewN ?_ _ | refine blk_drew ?_ | refine blk_alloc ?_ _)); refine blk_put (cs := #[.int .i64 0, .int .i64 0, .int .i64 0, .slice none 0 0]) ?_ 0 _ rfl; (with_reducible repeat (first | refine blk_drewN ?_ _ | refine blk_drew ?_ | refine blk_alloc ?_ _)); exact BK155.out) hg (Kd.R_ne HO_5.out BK155.out (by decide))); have n2_ := Aside0.mk (hb); have n3_ := Aside0.mk (ho); clear HO_4; clear BK155; clear HB; clear HO_5; have HO_4 := n0_; have BK155 := n1_; have HB := n2_; have HO161 := n3_; clear n0_ n1_ n2_ n3_; clear ho hb hg hat; have hcz16_0 : w15.cell? ⟨gb155, 0, none⟩ = some (.int .i64 ((rd_T30 l0 x10_1).f0)) := (blk_cell BK155.out 0).trans rfl; have hcz16_1 : w15.cell? ⟨gb155, 1, none⟩ = some (.int .i64 ((rd_T30 l0 x10_1).f1)) := (blk_cell BK155.out 1).trans rfl; have hcz16_2 : w15.cell? ⟨gb155, 2, none⟩ = some (.int .i64 ((rd_T30 l0 x10_1).f2)) := (blk_cell BK155.out 2).trans rfl; have hcz16_3 : w15.cell? ⟨gb155, 3, none⟩ = some (.slice A154_3 ((rd_T30 l0 x10_1).f3).length c154_3) := (blk_cell BK155.out 3).trans rfl; have hfz16_0 := blk_frozen BK155.out 0; have hfz16_1 := blk_frozen BK155.out 1; have hfz16_2 := blk_frozen BK155.out 2; have hfz16_3 := blk_frozen BK155.out 3) | ((with_reducible refine gate_builtin (b := .append) (xs := #[.tmp 22, .tmp 24]) rfl ?_); at_builtin; refine Kd.R_append_rows (Kd.int .u8) (w0 := w) w.heap.size rfl (.tmp 22) (.tmp 24) 27 5 (.int .u8 0) 1 rfl Try.underlying27 info5 rfl (by decide) (by omega) (.slice Ao14 x4_1.length co14) x4_1 ((rd_T30 l0 x10_1).f3) _ _ _ (fun _ => True) (fun _ => False) rfl rfl ?aO ?aR (fun _ _ h => h) (fun _ h => h.elim) ?aF ?aB ?aS ?aL ?_; (case aR => repeat (first | exact (Kd.C_below HR154_3.out HB.out) | (with_reducible refine Kd.C_alloc ?_ _) | (with_reducible refine Kd.C_drewN ?_ _) | (with_reducible refine Kd.C_drew ?_))); (case aB => exact (by repeat (first | (with_reducible first | exact HB.out | apply below_alloc | apply pw_below_drewN | apply below_drew1 | refine below_set ?_ GE155.out) | exact HB.out))); (case aF => exact (fun _ _ => trivial)); (case aO => exact (by (with_reducible repeat (first | apply Kd.R_alloc | apply Kd.R_drewN | apply Kd.R_drew)); exact HO_4.out)); (case aS => exact (below_size (by repeat (first | (with_reducible first | exact HB.out | apply below_alloc | apply pw_below_drewN | apply below_drew1 | refine below_set ?_ GE155.out) | exact HB.out)))); (case aL => have := LMc11.out; omega); intro v163 w17 ho hb hg hat; rw [← Ny162.out] at ho; have n0_ := Aside0.mk (blk_grown (g := gb155) (o := .cells #[.int .i64 ((rd_T30 l0 x10_1).f0), .int .i64 ((rd_T30 l0 x10_1).f1), .int .i64 ((rd_T30 l0 x10_1).f2), .slice A154_3 ((rd_T30 l0 x10_1).f3).length c154_3] 30 (0, 0)) (by (with_reducible repeat (first | refine blk_drewN ?_ _ | refine blk_drew ?_ | refine blk_alloc ?_ _)); exact BK155.out) hg (Kd.R_ne HO_4.out BK155.out (by decide))); have n1_ := Aside0.mk (Kd.R_over' (by (with_reducible repeat (first | apply Kd.R_alloc | apply Kd.R_drewN | apply Kd.R_drew)); exact HO161.out) (Kd.R_typed (by (with_reducible repeat (first | apply Kd.R_alloc | apply Kd.R_drewN | apply Kd.R_drew)); exact HO_4.out)) (by decide) hg); have n2_ := Aside0.mk (hb); have n3_ := Aside0.mk (ho); clear BK155; clear HO161; clear HB; clear HO_4; have BK155 := n0_; have HO161 := n1_; have HB := n2_; have HO164 := n3_; clear n0_ n1_ n2_ n3_; clear ho hb hg hat))
                  go_roundg k1
                  case measure => have := HK1.out; omega
                  case rel => exact ⟨(y162), (y159), (wrap64 (x10_1 + 1)), (by first | rfl | (simp; done) | (simp [*]; done)), H', ⟨by have := HK1.out; omega⟩, ⟨by (with_reducible repeat (first | apply Kd.R_alloc | apply Kd.R_drewN | apply Kd.R_drew)); exact HO164.out⟩, ⟨by (with_reducible repeat (first | apply Kd.R_alloc | apply Kd.R_drewN | apply Kd.R_drew)); exact HO161.out⟩, ⟨by repeat (first | (with_reducible first | exact HB.out | apply below_alloc | apply pw_below_drewN | apply below_drew1 | refine below_set ?_ GE155.out) | exact HB.out)⟩⟩
                · rw [if_neg c11] at H
                  exact absurd H (by simp)
              · rw [if_neg c10] at H
                exact absurd H (by simp)
          · rw [if_neg c4] at H
            exact absurd H (by simp)
        · rw [if_neg c3] at H
          exact absurd H (by simp)
      · rw [if_neg c2] at H
        have c2b0 : decide (x10_1 < (l0.length : Int)) = false := decide_eq_false c2
        clear c2
        simp only [Option.some.injEq, Prod.mk.injEq] at H
        obtain ⟨rfl, rfl⟩ := H
        go_wp2
        go_ret2
        exact ⟨_, _, by first | rfl | (simp [errW_none, errW_some] <;> rfl) | (simp [*, errW_none, errW_some] <;> rfl), by (with_reducible repeat (first | apply Kd.R_alloc | apply Kd.R_drewN | apply Kd.R_drew)); exact HO_4.out, by (with_reducible repeat (first | apply Kd.R_alloc | apply Kd.R_drewN | apply Kd.R_drew)); exact HO_5.out, by repeat (first | (with_reducible first | exact HB.out | apply below_alloc | apply pw_below_drewN | apply below_drew1) | exact HB.out)⟩

-- NOT PRINTED: function 30 (pes_parts)


/-! ### slices_Clone_byte_byte: function 31 -/
theorem slices_Clone_byte_byte.info : (Try.prog.info? 5).map (fun i => (i.zero, i.size, i.bytes)) = some (some (.int .u8 0), 1, 1) := by kernel_rfl
def slices_Clone_byte_byte.f (l0 : List Int) : Option (List Int) := if l0.length < 140737488355328 then some l0 else none
set_option maxHeartbeats 1000000 in
set_option maxRecDepth 100000 in
theorem slices_Clone_byte_byte.calls (A0 : Option Addr) (c0 : Nat) (l0 : List Int) (r : List Int) (w : World) (hr0 : Kd.C (Kd.int .u8) w A0 l0.length l0) (hc0 : l0.length ≤ c0) (h : slices_Clone_byte_byte.f l0 = some r) :
    Calls Try.prog 31 #[.slice A0 l0.length c0] w fun e w' => ∃ v0_ : Value, e = .returned (v0_) ∧ Kd.R (Kd.int .u8) 5 w' w.heap.size (fun _ => True) v0_ r ∧ Below w.heap.size w w' := by
  unfold slices_Clone_byte_byte.f at h
  by_cases hb : l0.length < 140737488355328
  · rw [if_pos hb] at h
    obtain rfl := Option.some.inj h
    clear h
    rcases A0 with _ | ad
    · have hl : l0.length = 0 := by
        rcases Nat.eq_zero_or_pos l0.length with k | k
        · exact k
        · obtain ⟨ad, e, -⟩ := hr0.2.2 k; cases e
      obtain rfl : l0 = [] := List.eq_nil_of_length_eq_zero hl
      clear hr0 hc0 hl hb
      go_enter Try.func31, Try.ntmps31
      have hq : ∀ W, (binOp .eql 27 (.slice none 0 c0) (.slice none 0 0)).run Try.prog W = .ok (.bool true) W := fun W => Lib.run_eql_slice_nil W 27 5 none 0 c0 0 0 Try.underlying27
      go_wp2
      go_ret
      exact ⟨_, rfl, Kd.R_nil _ _ _ _ _, Below.refl _ _⟩
    · have HR0 := Aside0.mk hr0
      have HC0 := Aside0.mk hc0
      have HM := Aside0.mk hb
      clear hr0 hc0 hb
      have hq : ∀ W, (binOp .eql 27 (.slice (some ad) l0.length c0) (.slice none 0 0)).run Try.prog W = .ok (.bool false) W := fun W => Lib.run_eql_slice_nil W 27 5 (some ad) l0.length c0 0 0 Try.underlying27
      go_enter Try.func31, Try.ntmps31
      go_wp2_with (first | ((with_reducible refine gate_dst (N := 5) rfl ?_); refine Kd.R_lit (Kd.int .u8) _ 5 ?hg (N := 5) ?hd (xs := ([] : List Int)) (inner := []) (ok := fun _ => True) (okp := fun _ => True) ?hr ?hp (fun _ hk => hk) trivial (Below.refl _ _) (Nat.le_refl _) (by simp) ?_; (case hd => rfl); (case hg => rfl); (case hr => first | (go_simp; done) | (go_simp; rfl)); (case hp => exact (Reps.none _ _)); intro v102 w3 ho4 hb hg_ hnew_; clear hg_ hnew_; have HO103 := Aside0.mk ho4; have HB := Aside0.mk hb; clear hb ho4) | ((with_reducible refine gate_builtin (b := .append) (xs := #[.tmp 5, .tmp 6]) rfl ?_); at_builtin; refine Kd.R_append_rows (Kd.int .u8) (w0 := w) w.heap.size rfl (.tmp 5) (.tmp 6) 27 5 (.int .u8 0) 1 rfl Try.underlying27 slices_Clone_byte_byte.info rfl (by decide) (by omega) v102 [] l0 _ _ _ (fun _ => True) (fun _ => False) rfl rfl ?aO ?aR (fun _ _ h => h) (fun _ h => h.elim) ?aF ?aB ?aS ?aL ?_; (case aR => exact (Kd.C_below HR0.out HB.out)); (case aB => exact HB.out); (case aF => exact (fun _ _ => trivial)); (case aO => exact HO103.out); (case aS => exact (below_size HB.out)); (case aL => have := HM.out; simp; omega); intro v105 w5 ho hb hg hat; have n0_ := Aside0.mk hb; have n1_ := Aside0.mk ho; clear HB; clear HO103; have HB := n0_; have HO106 := n1_; clear n0_ n1_; clear ho hb hg hat))
      go_ret
      exact ⟨_, rfl, by have := HO106.out; simpa using this, HB.out⟩
  · rw [if_neg hb] at h
    cases h


/-! ### pes_Cut: function 17 -/
section
open Go.Shelf
attribute [local go_sem] Oper.semAt_some
/-- The address of data[a:b:b]. -/
def cutA (A : Option Addr) (a b : Nat) : Option Addr := if b = a then A else A.map (·.add a)
/-- Where round i ends. -/
def cutTo (len size i : Nat) : Nat := min (i * size + size) len
/-- What round i is handed: where it begins, and its bytes. -/
def cutVals (A : Option Addr) (p q : Nat) : Array Value := #[.int .i64 (p : Int), .slice (cutA A p q) (q - p) (q - p)]
def cutArgs (A : Option Addr) (len size i : Nat) : Array Value := cutVals A (i * size) (cutTo len size i)

theorem cut_q1 {p size len q : Nat} (hq : min (p + size) len = q) (h : (len : Int) < (p : Int) + (size : Int)) : (q : Int) = (len : Int) := by omega
theorem cut_q2 {p size len q : Nat} (hq : min (p + size) len = q) (h : ¬ (len : Int) < (p : Int) + (size : Int)) : (q : Int) = (p : Int) + (size : Int) := by omega
theorem cut_meas {p size len : Nat} {s : Int} (hs : 1 ≤ size) (hp : p < len) (h : (p : Int) + (size : Int) = s) : (len + size) - s.toNat < (len + size) - ((p : Int)).toNat := by omega
theorem cut_sum {p size : Nat} {s : Int} (h : (p : Int) + (size : Int) = s) : s = ((p + size : Nat) : Int) := by omega
theorem cut_slice (W : World) (A : Option Addr) (len c p q : Nat) (hl : len ≤ c) (h1 : p ≤ q) (h2 : q ≤ len) :
    (Instr.slice 27 (.slice A len c) (some (.int .i64 (p : Int))) (some (.int .i64 (q : Int))) (some (.int .i64 (q : Int)))).run Try.prog W =
      .ok (.slice (cutA A p q) (q - p) (q - p)) W := by
  obtain ⟨i0, hi0, hz0, hz1, hz2⟩ := info_parts info5
  have hel : Try.prog.elem 27 = 5 := by simp [Program.elem, Try.underlying27]
  have hu : Try.prog.underlying 27 = some (.slice (Try.prog.elem 27)) := by rw [hel]; exact Try.underlying27
  rw [run_slice_lhh W 27 A len c hu .i64 .i64 .i64 _ _ (by omega) (by omega) (by omega), hel]
  simp [sizeOf, typeInfo, hi0, hz1, sliced, Result.andThen, cutA]

/-- What the iterator reads between two rounds: its two boxes. -/
def KpB (b0 b1 : Nat) (W W' : World) : Prop := ∀ b, b = b0 ∨ b = b1 → W'.heap[b]? = W.heap[b]?
theorem KpB.refl (b0 b1 : Nat) (W : World) : KpB b0 b1 W W := fun _ _ => rfl
theorem KpB.trans {b0 b1 : Nat} {A B C : World} (h : KpB b0 b1 A B) (k : KpB b0 b1 B C) : KpB b0 b1 A C := fun b hb => (k b hb).trans (h b hb)
theorem KpB.cell {b0 b1 b : Nat} {A B : World} (h : KpB b0 b1 A B) (hb : b = b0 ∨ b = b1) : B.cell? ⟨b, 0, none⟩ = A.cell? ⟨b, 0, none⟩ := by simp [World.cell?, h b hb]

set_option maxRecDepth 100000 in
set_option maxHeartbeats 2000000 in
theorem parts1_in (F : Fence) (n : Nat) (h50 : F.fn 50) (hro : F.round = none) (hn : 1 ≤ n) (l b0 b1 : Nat) (A : Option Addr) (len c size K : Nat)
    (hs : 1 ≤ size) (hs2 : size ≤ 60000) (hl : len ≤ c) (hlen : len < 140737488355328) (hK : ∀ i, i < K ↔ (i = 0 ∨ i * size < len)) (J Jx : List Nat → World → Prop)
    (hY : ∀ pre x W, x < K → J pre W → pre.length < K → YieldAt F (n - 1) Try.prog l (cutArgs A len size x) W fun e W' =>
      (e = .returned (.bool true) ∧ J (pre ++ [x]) W' ∧ KpB b0 b1 W W') ∨ (e = .returned (.bool false) ∧ Jx (pre ++ [x]) W'))
    (W : World) (hd : W.cell? ⟨b0, 0, none⟩ = some (.slice A len c)) (hz : W.cell? ⟨b1, 0, none⟩ = some (.int .i64 (size : Int))) (h0 : J [] W) :
    CallsIn F n Try.prog 50 #[.func (.yield l) #[] #[], .pointer (some ⟨b0, 0, none⟩), .pointer (some ⟨b1, 0, none⟩)] W fun e W' => (∃ v, e = .returned v) ∧
      ((∃ ys, ys = List.range K ∧ J ys W') ∨ (∃ pre, True ∧ Jx pre W')) := by
  refine callsIn_of_wp Try.func50 rfl h50 ?_ hro
  simp only [Try.ntmps50, List.size_toArray, List.length_cons, List.length_nil, Nat.reduceAdd, Nat.reduceSub, Array.replicate_succ, Array.replicate_zero, List.push_toArray, List.append_toArray, List.nil_append, List.cons_append]
  gi_wp2
  gi_loopw [4] (fun v wr => ∃ k p : Nat, p = k * size ∧ k ≤ K ∧ v = .int .i64 (p : Int) ∧ J (List.range k) wr ∧ KpB b0 b1 W wr)
    (fun v _ => (len + size) - (intOf v).toNat)
  case atStart => exact ⟨0, 0, by simp, Nat.zero_le _, by simp, h0, KpB.refl _ _ _⟩
  case round =>
    obtain ⟨k, p, hp, hk, rfl, hJs, hnx⟩ := hrel
    have hd1 := (hnx.cell (.inl rfl)).trans hd
    have hz1 := (hnx.cell (.inr rfl)).trans hz
    by_cases hlt : k < K
    · have hkl : p ≤ len := by
        rcases (hK k).1 hlt with rfl | h
        · simp at hp; omega
        · omega
      have hY1 := hY _ k wr hlt hJs (by simpa using hlt)
      rw [cutArgs, cutTo, ← hp, cutVals] at hY1
      obtain ⟨q, hq⟩ : ∃ q, min (p + size) len = q := ⟨_, rfl⟩
      rw [hq] at hY1
      have hsl := cut_slice wr A len c p q hl (by omega) (by omega)
      obtain ⟨B, hB⟩ : ∃ B, cutA A p q = B := ⟨_, rfl⟩
      obtain ⟨m, hm⟩ : ∃ m, q - p = m := ⟨_, rfl⟩
      rw [hB, hm] at hY1 hsl
      clear hB hm hd hz
      have hpl : p = 0 ∨ p < len := by
        rcases (hK k).1 hlt with rfl | h
        · left; simp at hp; exact hp
        · right; omega
      clear hK hY
      have hsz1 : wrap64 ((p : Int) + (size : Int)) = (p : Int) + (size : Int) := by unfold wrap64; omega
      have HQ := Aside0.mk hq
      have HQ1 := Aside0.mk (cut_q1 hq)
      have HQ2 := Aside0.mk (cut_q2 hq)
      have HP := Aside0.mk hp
      have HW := Aside0.mk hsz1
      clear hq hp
      by_cases hp0 : p = 0
      · subst hp0
        clear hpl
        simp only [Int.natCast_zero, Int.zero_add] at hY1 hsl hsz1 ⊢
        by_cases hlq : (len : Int) < (size : Int)
        · rw [show (q : Int) = (len : Int) from HQ1.out (by simpa using hlq)] at hsl
          obtain ⟨fn, tmps, assign, body, hy, hR⟩ := hY1
          gi_wp2
          refine hR.mono ?_
          rintro e W3 (⟨rfl, hJ3, hk3⟩ | ⟨rfl, hJx3⟩)
          · have hz3 := (hk3.cell (.inr rfl)).trans hz1
            gi_wp2
            go_roundw
            case rel => exact ⟨k + 1, size, by rw [Nat.add_mul, Nat.one_mul, ← HP.out, Nat.zero_add], hlt, by simp [hsz1], by rw [List.range_succ]; exact hJ3, hnx.trans hk3⟩
            case measure => simp [intOf, hsz1]; omega
          · gi_wp2
            refine bodyPost_ret (results_none rfl _ _ _) rfl ?_
            exact ⟨⟨_, rfl⟩, .inr ⟨_, trivial, hJx3⟩⟩
        · rw [show (q : Int) = (size : Int) from (HQ2.out (by simpa using hlq)).trans (by simp)] at hsl
          obtain ⟨fn, tmps, assign, body, hy, hR⟩ := hY1
          gi_wp2
          refine hR.mono ?_
          rintro e W3 (⟨rfl, hJ3, hk3⟩ | ⟨rfl, hJx3⟩)
          · have hz3 := (hk3.cell (.inr rfl)).trans hz1
            gi_wp2
            go_roundw
            case rel => exact ⟨k + 1, size, by rw [Nat.add_mul, Nat.one_mul, ← HP.out, Nat.zero_add], hlt, by simp [hsz1], by rw [List.range_succ]; exact hJ3, hnx.trans hk3⟩
            case measure => simp [intOf, hsz1]; omega
          · gi_wp2
            refine bodyPost_ret (results_none rfl _ _ _) rfl ?_
            exact ⟨⟨_, rfl⟩, .inr ⟨_, trivial, hJx3⟩⟩
      · have hpl' : p < len := hpl.resolve_left hp0
        clear hpl
        obtain ⟨s, hs3⟩ : ∃ s : Int, (p : Int) + (size : Int) = s := ⟨_, rfl⟩
        have HM := Aside0.mk (cut_meas (len := len) hs hpl' hs3)
        have HS := Aside0.mk (cut_sum hs3)
        have h1 := HQ1.out
        have h2 := HQ2.out
        rw [hs3] at hsz1 h1 h2
        clear HQ HQ1 HQ2 HW
        by_cases hlq : (len : Int) < s
        · rw [h1 hlq] at hsl
          clear h1 h2
          obtain ⟨fn, tmps, assign, body, hy, hR⟩ := hY1
          gi_wp2
          refine hR.mono ?_
          rintro e W3 (⟨rfl, hJ3, hk3⟩ | ⟨rfl, hJx3⟩)
          · have hz3 := (hk3.cell (.inr rfl)).trans hz1
            gi_wp2
            go_roundw
            case rel => exact ⟨k + 1, p + size, by rw [HP.out, Nat.add_mul, Nat.one_mul], hlt, by simp only [HS.out], by rw [List.range_succ]; exact hJ3, hnx.trans hk3⟩
            case measure => simpa [intOf, hsz1] using HM.out
          · gi_wp2
            refine bodyPost_ret (results_none rfl _ _ _) rfl ?_
            exact ⟨⟨_, rfl⟩, .inr ⟨_, trivial, hJx3⟩⟩
        · rw [h2 hlq] at hsl
          clear h1 h2
          obtain ⟨fn, tmps, assign, body, hy, hR⟩ := hY1
          gi_wp2
          refine hR.mono ?_
          rintro e W3 (⟨rfl, hJ3, hk3⟩ | ⟨rfl, hJx3⟩)
          · have hz3 := (hk3.cell (.inr rfl)).trans hz1
            gi_wp2
            go_roundw
            case rel => exact ⟨k + 1, p + size, by rw [HP.out, Nat.add_mul, Nat.one_mul], hlt, by simp only [HS.out], by rw [List.range_succ]; exact hJ3, hnx.trans hk3⟩
            case measure => simpa [intOf, hsz1] using HM.out
          · gi_wp2
            refine bodyPost_ret (results_none rfl _ _ _) rfl ?_
            exact ⟨⟨_, rfl⟩, .inr ⟨_, trivial, hJx3⟩⟩
    · have hke : k = K := by omega
      subst hke
      have hp0 : ¬ (p = 0) := by
        intro h
        have h1 : ¬ (k = 0 ∨ k * size < len) := fun hh => hlt ((hK k).2 hh)
        subst h
        rcases Nat.mul_eq_zero.1 hp.symm with h2 | h2
        · exact h1 (.inl h2)
        · omega
      have hp1 : ¬ (p < len) := fun h => hlt ((hK k).2 (.inr (by omega)))
      clear hK hp hY
      gi_wp2
      go_end0
      exact ⟨⟨_, rfl⟩, .inl ⟨_, rfl, hJs⟩⟩
/-- append(v, x) within a fence. -/
theorem R_append_in {F : Fence} {n : Nat} {P : Program} {ops : Array Oper} {rest : List Oper} {o : Oper} {a : Act} {Q : Exit → Act → World → Prop} {α : Type} (d : Kd α) {w0 W : World} (base : Nat) (hgd : o.guard = none) (s x : Operand) (t e : TypeId) (z : Value) (bytes : Nat)
    (ho : o.op = .call { callee := .builtin .append, args := #[s, x], argTypes := #[t, t] })
    (ht : P.underlying t = some (.slice e)) (hinfo : (P.info? e).map (fun i => (i.zero, i.size, i.bytes)) = some (some z, d.sz, bytes)) (hz : z.cells.size = d.sz) (hs0 : 0 < d.sz) (hb0 : 0 < bytes)
    (v : Value) (xs : List α) (p : α) (cs : List Value) (ok okp : Nat → Prop) (hs : a.eval s = v) (hx : a.eval x = .slice (some ⟨W.heap.size, 0, none⟩) 1 1) (hp : d.M W base okp p cs) (hokp : ∀ k, okp k → ok k ∧ some k ≠ v.ownBlock) (hfresh : ∀ k, W.heap.size ≤ k → ok k)
    (HO : d.R e W base ok v xs) (HB : Below base w0 W) (hbase : base ≤ W.heap.size) (hl : (xs.length + 1) * bytes ≤ 140737488355328)
    (h : ∀ v1 w1, d.R e w1 base ok v1 (xs ++ [p]) → Below base w0 w1 → W.grownBy w1 v.ownBlock → (v1.ownBlock = v.ownBlock ∨ ∃ b, v1.ownBlock = some b ∧ W.heap.size ≤ b) → wpListIn F n P ops Q rest (a.put o.dst v1) w1) :
    wpListIn F n P ops Q (o :: rest) a (W.alloc (.cells cs.toArray e)) := by
  obtain ⟨h0, inner, hown, hr⟩ := HO
  obtain ⟨i0, hi, hzz⟩ := Option.map_eq_some_iff.1 hinfo
  simp only [Prod.mk.injEq] at hzz
  obtain ⟨hz0, hz1, hz2⟩ := hzz
  have hlen : xs.length + 1 ≤ 140737488355328 := Nat.le_trans (Nat.le_mul_of_pos_right _ hb0) hl
  have hcs : cs.length = d.sz := d.K_len (d.K_of_M hp)
  refine wpListIn_plain hgd fun K hK' => ?_
  obtain ⟨v', w', hrun, r1, r2, r3, r4⟩ := run_append_own_at (P := P) (w := W.alloc (.cells cs.toArray e)) base t o.type e i0 z d.sz bytes ht hi hz0 hz1 hz2 hz hs0 v xs.length inner (hown.alloc _) ⟨W.heap.size, 0, none⟩ 1 1 cs (by rw [hcs]; simp)
    (by simpa using World.news_of_block (cs := cs.toArray) (t := e) (fr := (0, 0)) (heap_alloc_new W (.cells cs.toArray e))) (d.K_one (d.K_of_M hp)) (by simp only [maxLen]; omega) hl (by simp; omega)
  unfold Oper.wpIn
  refine ⟨?_, ?_⟩
  · simp [Oper.about, ho, resolve, Target.leads, Sem.run_pure]
  · rw [Oper.semAt_plain F _ _ (by rw [ho]; intro c hc'; cases hc')]
    simp [execOp, ho, resolve, invoke, builtin, hs, hx, hrun, Result.andThen]
    have hat : v'.ownBlock = v.ownBlock ∨ ∃ b, v'.ownBlock = some b ∧ W.heap.size ≤ b := by
      rcases r4 with hat | hat
      · exact .inl hat
      · exact .inr ⟨_, hat, by simp⟩
    have hg := World.grownBy.trans (World.grownBy_alloc W (.cells cs.toArray e) _) r2
    exact hK' _ _ (h v' w' (Kd.R_appended h0 hr hp hokp hfresh r1 hg hat) ((HB.alloc hbase _).grown r2 (by simp; omega) (own_base hown)) hg hat)

/-- parts(data, size): the two boxed, the closure. -/
theorem parts_in (F : Fence) (n : Nat) (h30 : F.fn 30) (hro : F.round = none) (A : Option Addr) (len c : Nat) (s : Int) (w : World) :
    CallsIn F n Try.prog 30 #[.slice A len c, .int .i64 s] w fun e w' => e = .returned (.func (.func 50) #[] #[.pointer (some ⟨w.heap.size, 0, none⟩), .pointer (some ⟨w.heap.size + 1, 0, none⟩)]) ∧ w' = (w.alloc (.cells #[.slice A len c] 27)).alloc (.cells #[.int .i64 s] 3) := by
  refine callsIn_of_wp Try.func30 rfl h30 ?_ hro
  simp only [Try.ntmps30, List.size_toArray, List.length_cons, List.length_nil, Nat.reduceAdd, Nat.reduceSub, Array.replicate_succ, Array.replicate_zero, List.push_toArray, List.append_toArray, List.nil_append, List.cons_append]
  gi_wp2
  go_ret
  exact ⟨by simp, by simp⟩

theorem parts_stops (F : Fence) (n : Nat) (h50 : F.fn 50) (hro : F.round = none) (hn : 1 ≤ n) (b0 b1 : Nat) (A : Option Addr) (len c size K : Nat)
    (hs : 1 ≤ size) (hs2 : size ≤ 60000) (hl : len ≤ c) (hlen : len < 140737488355328) (hK : ∀ i, i < K ↔ (i = 0 ∨ i * size < len)) (w : World) (hb0 : b0 < w.heap.size) (hb1 : b1 < w.heap.size)
    (hd : w.cell? ⟨b0, 0, none⟩ = some (.slice A len c)) (hz : w.cell? ⟨b1, 0, none⟩ = some (.int .i64 (size : Int))) :
    SeqStopsK F n Try.prog 50 #[.pointer (some ⟨b0, 0, none⟩), .pointer (some ⟨b1, 0, none⟩)] (fun i : Fin K => cutArgs A len size i.1) (KpB b0 b1) (fun ys => ys.map (fun i => i.1) = List.range K) (fun _ => True) K w := fun l J Jx W hW _ _ hY h0 => by
  refine (parts1_in F n h50 hro hn l b0 b1 A len c size K hs hs2 hl hlen hK (fun pre W => ∃ p : List (Fin K), p.map (fun i => i.1) = pre ∧ J p W) (fun pre W => ∃ p : List (Fin K), p.map (fun i => i.1) = pre ∧ Jx p W) ?_ W ((hW.cell (p := ⟨b0, 0, none⟩) hb0).trans hd) ((hW.cell (p := ⟨b1, 0, none⟩) hb1).trans hz) ⟨[], rfl, h0⟩).mono ?_
  · rintro pre x W1 hx ⟨p, rfl, hj⟩ hlen1
    refine (hY p ⟨x, hx⟩ W1 hj (by simpa using hlen1)).mono ?_
    rintro e W2 (⟨he, h1, h2⟩ | ⟨he, h1⟩)
    · exact .inl ⟨he, ⟨p ++ [⟨x, hx⟩], by simp, h1⟩, h2⟩
    · exact .inr ⟨he, ⟨p ++ [⟨x, hx⟩], by simp, h1⟩⟩
  · rintro e W2 ⟨he, ⟨ys, rfl, p, hp, hj⟩ | ⟨pre, -, p, hp, hj⟩⟩
    · exact ⟨he, .inl ⟨p, hp, hj⟩⟩
    · exact ⟨he, .inr ⟨p, trivial, hj⟩⟩
def cutK (len size : Nat) : Nat := if len = 0 then 1 else (len + size - 1) / size
def cutRow (a0 a2 a3 : Int) (size : Nat) (l : List Int) (i : Nat) : S30 := ⟨a0, if i = 0 then a2 else -1, if i = 0 then a3 else -1, (l.take (cutTo l.length size i)).drop (i * size)⟩
theorem cutK_iff {len size : Nat} (hs : 1 ≤ size) (i : Nat) : i < cutK len size ↔ (i = 0 ∨ i * size < len) := by
  unfold cutK
  split
  · rename_i h
    subst h
    simp
  · rename_i h
    rw [Nat.lt_div_iff_mul_lt hs]
    constructor
    · intro h1
      right
      omega
    · rintro (rfl | h1)
      · omega
      · omega
theorem cutK_le {len size : Nat} (hs : 1 ≤ size) : cutK len size ≤ len + 1 := by
  unfold cutK
  split
  · omega
  · have := Nat.div_le_self (len + size - 1) size
    have : (len + size - 1) / size < len + 1 := by
      rw [Nat.div_lt_iff_lt_mul hs]
      have : len * 1 ≤ len * size := Nat.mul_le_mul_left _ hs
      rw [Nat.add_mul]
      omega
    omega
/-- The chunk is read. -/
theorem cut_C {W : World} {A : Option Addr} {c p q : Nat} {l : List Int} (h : Kd.C (Kd.int .u8) W A l.length l) (h1 : p ≤ q) (h2 : q ≤ l.length) (hc : l.length ≤ c) :
    Kd.C (Kd.int .u8) W (cutA A p q) ((l.take q).drop p).length ((l.take q).drop p) := by
  have hl : ((l.take q).drop p).length = q - p := by rw [List.length_drop, List.length_take]; omega
  rcases Nat.eq_or_lt_of_le h1 with rfl | hlt
  · have : ((l.take p).drop p) = [] := List.eq_nil_of_length_eq_zero (by rw [hl]; omega)
    rw [this]
    exact ⟨rfl, by simp, fun h => absurd h (Nat.lt_irrefl 0)⟩
  · have := Kd.C_mid (c := c) h h1 h2 hc
    rw [if_neg (by omega)] at this
    unfold cutA
    rw [if_neg (by omega)]
    simpa [show (Kd.int .u8).sz = 1 from rfl] using this

def pes_Cut.f (a0 : Int) (l1 : List Int) (a2 : Int) (a3 : Int) (a4 : Int) : Option (List S30 × Int) :=
  if a4 < 1 then some ([], 1) else if a4 > 60000 then some ([], 1) else (pes_valid.f a0 a2 a3 ([] : List Int)).bind fun t => if t = true then (if l1.length < 2932031007402 then some ((List.range (cutK l1.length a4.toNat)).map (cutRow a0 a2 a3 a4.toNat l1), 0) else none) else some ([], 1)

theorem cut_keeps {w1 W W3 w4 : World} {N : Nat} {v v' : Value} (hN : N + 3 ≤ W.heap.size) (hb : Below W.heap.size W W3) (hg : W3.grownBy w4 v.ownBlock) (hv : ∀ k, v.ownBlock = some k → N + 3 ≤ k)
    (ht : ∀ k, v.ownBlock = some k → ∃ cells q, W.heap[k]? = some (.cells cells q (0, 0))) (hB : Below N w1 W) :
    KeepsFrom (N + 3) W (w4.setCell ⟨N, 0, none⟩ v') ∧ KpB (N + 1) (N + 2) W (w4.setCell ⟨N, 0, none⟩ v') ∧ Below N w1 (w4.setCell ⟨N, 0, none⟩ v') := by
  have hs3 := hb.size
  have hs4 := hg.size
  have step : ∀ k, k < W.heap.size → k ≠ N → some k ≠ v.ownBlock → (w4.setCell ⟨N, 0, none⟩ v').heap[k]? = W.heap[k]? := fun k hk hkN hkv =>
    (Below.heap_setCell _ _ _ k hkN).trans ((hg.block k (by omega) hkv).trans (hb.block k hk))
  refine ⟨⟨by have := (KeepsWalks.setCell w4 ⟨N, 0, none⟩ v').size; omega, fun k o hk ho hc => ?_⟩, fun b hb1 => ?_, ?_⟩
  · have hlt := (Array.getElem?_eq_some_iff.1 ho).1
    refine (step k hlt (by omega) fun e => ?_).trans ho
    obtain ⟨cells, q, hcell⟩ := ht k e.symm
    rw [hcell] at ho
    cases ho
    cases hc
  · refine step b (by omega) (by omega) fun e => ?_
    have := hv b e.symm
    omega
  · exact ((hB.trans (hb.mono (by omega))).grown hg (by omega) (fun j ej => by have := hv j ej; omega)).setCell (p := ⟨N, 0, none⟩) (Nat.le_refl _) _

theorem cut_ownFrom {β : Type} (N B : Nat) (hNB : N < B) (ok : Nat → Prop) (f : β → List S30) : OwnFrom B (fun (s : β) W => ∃ v, Boxed W N 26 v ∧ Kd.R k30 30 W N ok v (f s)) := by
  rintro s X Y row ⟨v, hv, hr⟩ hg hrow
  refine ⟨v, hv.kept hg (fun e => ?_), Kd.R_mono (Kd.R_step (Kd.R_bound hr) (fun k hk hlt => hg.block k hlt (fun e => ?_))) (fun k hk => hk.1)⟩
  · have := (hrow N e.symm).1
    omega
  · obtain ⟨_, o, ho, hc⟩ := hrow k e.symm
    obtain ⟨_, _, _, q, _, cells, hcell⟩ := hk
    rw [hcell] at ho
    cases ho
    cases hc

theorem cut_mid1 {W W2 : World} {o : Obj} {v : Value} {ch : List Int} (hR2 : (Kd.int .u8).R 5 W2 W.drew.heap.size (fun _ => True) v ch) (hb2 : Below W.drew.heap.size W.drew W2) :
    W.heap.size ≤ W2.heap.size ∧ (Kd.int .u8).R 5 (W2.alloc o) W.heap.size (fun k => k ≠ W2.heap.size) v ch ∧ Below W.heap.size W (W2.alloc o) :=
  ⟨hb2.size, Kd.R_mono (Kd.R_alloc (Kd.R_bound hR2) o) (fun k hk => by have := hk.2.2.1; omega), below_alloc (below_step (below_drew (Below.refl W.heap.size W)) hb2) o⟩
theorem cut_mid2 {W W2 : World} {z : Obj} {v : Value} {ch : List Int} (hR2 : (Kd.int .u8).R 5 W2 (W.alloc z).drew.heap.size (fun _ => True) v ch) (hb2 : Below (W.alloc z).drew.heap.size (W.alloc z).drew W2) (u0 u1 u2 u3 : Value) :
    (Kd.int .u8).R 5 ((((W2.setCell ⟨W.heap.size, 0, none⟩ u0).setCell ⟨W.heap.size, 1, none⟩ u1).setCell ⟨W.heap.size, 2, none⟩ u2).setCell ⟨W.heap.size, 3, none⟩ u3) W.heap.size (fun k => k ≠ W.heap.size) v ch ∧
      Below W.heap.size W ((((W2.setCell ⟨W.heap.size, 0, none⟩ u0).setCell ⟨W.heap.size, 1, none⟩ u1).setCell ⟨W.heap.size, 2, none⟩ u2).setCell ⟨W.heap.size, 3, none⟩ u3) := by
  have h0 : (Kd.int .u8).R 5 W2 W.heap.size (fun k => k ≠ W.heap.size) v ch := Kd.R_mono (Kd.R_lower (Kd.R_bound hR2) (by simp [World.drew])) (fun k hk => by have := hk.2.1; simp [World.drew] at this; omega)
  have hb : Below W.heap.size W W2 := below_step (below_drew (below_alloc (Below.refl W.heap.size W) z)) hb2
  exact ⟨Kd.R_far (Kd.R_far (Kd.R_far (Kd.R_far h0 (fun _ h => h) _) (fun _ h => h) _) (fun _ h => h) _) (fun _ h => h) _,
    below_set (below_set (below_set (below_set hb (by simp)) (by simp)) (by simp)) (by simp)⟩

theorem info30 : (Try.prog.info? 30).map (fun i => (i.zero, i.size, i.bytes)) = some (some (.agg #[(.int .i64 0), (.int .i64 0), (.int .i64 0), (.slice none 0 0)]), 4, 48) := by kernel_rfl
theorem cut_tail {F : Fence} {n : Nat} {ops : Array Oper} {rest : List Oper} {o : Oper} {a : Act} {Q : Exit → Act → World → Prop} {w1 W wf : World} {a0 : Int} {A' : Option Addr} {c' pb : Nat} {ch : List Int} {v : Value} {rows : List S30}
    (hBW : Below w1.heap.size w1 W) (hNW : w1.heap.size + 3 ≤ W.heap.size) (hRR : Kd.R k30 30 W w1.heap.size (fun k => w1.heap.size + 3 ≤ k) v rows) (hbW : Below W.heap.size W wf)
    (hR3 : Kd.R (Kd.int .u8) 5 wf W.heap.size (fun k => k ≠ pb) (.slice A' ch.length c') ch) (hvl : Boxed wf w1.heap.size 26 v) (x2 x3 : Int)
    (hgd : o.guard = none) (ho : o.op = .call { callee := .builtin .append, args := #[.tmp 45, .tmp 47], argTypes := #[26, 26] })
    (hs : a.eval (.tmp 45) = v) (hx : a.eval (.tmp 47) = .slice (some ⟨wf.heap.size, 0, none⟩) 1 1) (hl : rows.length < 2932031007402)
    (h : ∀ v4 w4, Kd.R k30 30 w4 w1.heap.size (fun k => w1.heap.size + 3 ≤ k) v4 (rows ++ [(⟨a0, x2, x3, ch⟩ : S30)]) → Below w1.heap.size w1 w4 → wf.grownBy w4 v.ownBlock → Boxed w4 w1.heap.size 26 v →
      (KeepsFrom (w1.heap.size + 3) W (w4.setCell ⟨w1.heap.size, 0, none⟩ v4) ∧ KpB (w1.heap.size + 1) (w1.heap.size + 2) W (w4.setCell ⟨w1.heap.size, 0, none⟩ v4) ∧
        (∃ u, Boxed (w4.setCell ⟨w1.heap.size, 0, none⟩ v4) w1.heap.size 26 u ∧ Kd.R k30 30 (w4.setCell ⟨w1.heap.size, 0, none⟩ v4) w1.heap.size (fun k => w1.heap.size + 3 ≤ k) u (rows ++ [(⟨a0, x2, x3, ch⟩ : S30)])) ∧ Below w1.heap.size w1 (w4.setCell ⟨w1.heap.size, 0, none⟩ v4) ∧ w1.heap.size + 3 ≤ (w4.setCell ⟨w1.heap.size, 0, none⟩ v4).heap.size) →
      wpListIn F n Try.prog ops Q rest (a.put o.dst v4) w4) :
    wpListIn F n Try.prog ops Q (o :: rest) a (wf.alloc (.cells #[.int .i64 a0, .int .i64 x2, .int .i64 x3, .slice A' ch.length c'] 30)) := by
  have hs1 := hbW.size
  have hM : k30.M wf w1.heap.size (fun k => W.heap.size ≤ k) (⟨a0, x2, x3, ch⟩ : S30) [.int .i64 a0, .int .i64 x2, .int .i64 x3, .slice A' ch.length c'] :=
    k30_mkM wf _ _ (⟨a0, x2, x3, ch⟩ : S30) (Kd.R_lower (Kd.R_mono (Kd.R_bound hR3) (fun k hk => hk.2.1)) (by omega))
  refine R_append_in k30 (w0 := w1) w1.heap.size hgd (.tmp 45) (.tmp 47) 26 30 _ 48 ho Try.underlying26 info30 rfl (by decide) (by omega) v rows _ [.int .i64 a0, .int .i64 x2, .int .i64 x3, .slice A' ch.length c'] (fun k => w1.heap.size + 3 ≤ k) (fun k => W.heap.size ≤ k) hs hx hM ?_ ?_ (Kd.R_below hRR hbW) (below_step hBW hbW) (by omega) (by omega) ?_
  · intro k hk
    exact ⟨by omega, fun e => by have := Kd.R_lt hRR k e.symm; omega⟩
  · intro k hk
    omega
  · intro v4 w4 hR5 hB5 hg5 hat5
    have hne : some w1.heap.size ≠ v.ownBlock := fun e => by have := hRR.1 _ e.symm; omega
    have hb4 := hvl.kept hg5 hne
    refine h v4 w4 hR5 hB5 hg5 hb4 ?_
    obtain ⟨k1, k2, k3⟩ := cut_keeps (v := v) (v' := v4) hNW hbW hg5 (fun k hk => hRR.1 k hk) (fun k hk => by obtain ⟨cells, hc⟩ := Kd.R_typed hRR k hk; exact ⟨cells, 30, hc⟩) hBW
    exact ⟨k1, k2, ⟨v4, hb4.set v4, Kd.R_far hR5 (fun k hk => by simp; omega) _⟩, k3, Nat.le_trans hNW k1.size⟩

set_option maxRecDepth 100000 in
set_option maxHeartbeats 2000000 in
theorem pes_Cut.calls (a0 : Int) (A1 : Option Addr) (c1 : Nat) (l1 : List Int) (a2 : Int) (a3 : Int) (a4 : Int) (r1 : List S30) (r2 : Int) (w : World) (hr1 : Kd.C (Kd.int .u8) w A1 l1.length l1) (hc1 : l1.length ≤ c1) (h : pes_Cut.f a0 l1 a2 a3 a4 = some (r1, r2)) :
    Calls Try.prog 17 #[.int .i64 a0, .slice A1 l1.length c1, .int .i64 a2, .int .i64 a3, .int .i64 a4] w fun e w' => ∃ v0_ : Value, e = .returned (.tuple #[v0_, .int .i64 r2]) ∧ Kd.R k30 30 w' w.heap.size (fun _ => True) v0_ r1 ∧ Below w.heap.size w w' := by
  refine (callsIn_wide (n := 6)).1 ?_
  have hro : Fence.wide.round = none := rfl
  unfold pes_Cut.f at h
  by_cases hlo : a4 < 1
  · rw [if_pos hlo] at h
    obtain ⟨rfl, rfl⟩ : [] = r1 ∧ (1 : Int) = r2 := by simpa using h
    clear h hr1 hc1
    refine callsIn_of_wp_marks Try.func17 rfl trivial ?_ hro
    simp only [Try.ntmps17, List.size_toArray, List.length_cons, List.length_nil, Nat.reduceAdd, Nat.reduceSub, Array.replicate_succ, Array.replicate_zero, List.push_toArray, List.append_toArray, List.nil_append, List.cons_append]
    have HB := Aside0.mk (below_alloc (below_alloc (below_alloc (Below.refl w.heap.size w) (Obj.cells #[Value.int IntKind.i64 a0] 3)) (Obj.cells #[Value.int IntKind.i64 a2] 2)) (Obj.cells #[Value.int IntKind.i64 a3] 2))
    gi_wp2
    refine ⟨trivial, ?_⟩
    gi_wp2
    exact ⟨_, results_tmp2 rfl _ _ _, _, rfl, Kd.R_nil _ _ _ _ _, HB.out⟩
  rw [if_neg hlo] at h
  by_cases hhi : a4 > 60000
  · rw [if_pos hhi] at h
    obtain ⟨rfl, rfl⟩ : [] = r1 ∧ (1 : Int) = r2 := by simpa using h
    clear h hr1 hc1
    refine callsIn_of_wp_marks Try.func17 rfl trivial ?_ hro
    simp only [Try.ntmps17, List.size_toArray, List.length_cons, List.length_nil, Nat.reduceAdd, Nat.reduceSub, Array.replicate_succ, Array.replicate_zero, List.push_toArray, List.append_toArray, List.nil_append, List.cons_append]
    have HB := Aside0.mk (below_alloc (below_alloc (below_alloc (Below.refl w.heap.size w) (Obj.cells #[Value.int IntKind.i64 a0] 3)) (Obj.cells #[Value.int IntKind.i64 a2] 2)) (Obj.cells #[Value.int IntKind.i64 a3] 2))
    gi_wp2
    refine ⟨trivial, ?_⟩
    gi_wp2
    exact ⟨_, results_tmp2 rfl _ _ _, _, rfl, Kd.R_nil _ _ _ _ _, HB.out⟩
  rw [if_neg hhi] at h
  cases hv : pes_valid.f a0 a2 a3 ([] : List Int) with
  | none => rw [hv] at h; cases h
  | some t =>
  rw [hv] at h
  replace h : (if t = true then (if l1.length < 2932031007402 then some ((List.range (cutK l1.length a4.toNat)).map (cutRow a0 a2 a3 a4.toNat l1), (0 : Int)) else none) else some ([], 1)) = some (r1, r2) := h
  have hval := fun W => pes_valid.calls a0 a2 a3 none 0 [] t W (Kd.C_nil (Kd.int .u8) W) (Nat.le_refl _) hv
  by_cases ht : t = true
  · rw [if_pos ht] at h
    by_cases hlen : l1.length < 2932031007402
    · rw [if_pos hlen] at h
      obtain ⟨rfl, rfl⟩ : (List.range (cutK l1.length a4.toNat)).map (cutRow a0 a2 a3 a4.toNat l1) = r1 ∧ (0 : Int) = r2 := by simpa using h
      subst ht
      obtain ⟨size, rfl⟩ : ∃ size : Nat, a4 = (size : Int) := ⟨a4.toNat, by omega⟩
      rw [Int.toNat_natCast]
      have hs1 : 1 ≤ size := by omega
      have hs2 : size ≤ 60000 := by omega
      have HR := Aside0.mk hr1
      have HC := Aside0.mk hc1
      have HL := Aside0.mk hlen
      have HS1 := Aside0.mk hs1
      have HS2 := Aside0.mk hs2
      clear h hr1 hc1 hv hlen hs1 hs2
      have HV := Aside0.mk hval
      clear hval
      refine callsIn_of_wp_marks Try.func17 rfl trivial ?_ hro
      simp only [Try.ntmps17, List.size_toArray, List.length_cons, List.length_nil, Nat.reduceAdd, Nat.reduceSub, Array.replicate_succ, Array.replicate_zero, List.push_toArray, List.append_toArray, List.nil_append, List.cons_append]
      have HB := Aside0.mk (below_alloc (below_alloc (below_alloc (Below.refl w.heap.size w) (Obj.cells #[Value.int IntKind.i64 a0] 3)) (Obj.cells #[Value.int IntKind.i64 a2] 2)) (Obj.cells #[Value.int IntKind.i64 a3] 2))
      gi_wp2
      refine ⟨trivial, (callsIn_wide.2 (HV.out _)).mono ?_⟩
      intro e w1 hh
      obtain ⟨rfl, hb⟩ := hh
      obtain ⟨w0, hw0⟩ : ∃ w0, ((w.alloc (Obj.cells #[Value.int IntKind.i64 a0] 3)).alloc (Obj.cells #[Value.int IntKind.i64 a2] 2)).alloc (Obj.cells #[Value.int IntKind.i64 a3] 2) = w0 := ⟨_, rfl⟩
      have b5 : Boxed w0 w.heap.size 3 (.int .i64 a0) := by rw [← hw0]; exact ((Boxed.new w 3 (.int .i64 a0)).alloc _).alloc _
      have b7 : Boxed w0 (w.heap.size + 1) 2 (.int .i64 a2) := by
        rw [← hw0]
        have := (Boxed.new (w.alloc (Obj.cells #[Value.int IntKind.i64 a0] 3)) 2 (.int .i64 a2)).alloc (Obj.cells #[Value.int IntKind.i64 a3] 2)
        simpa using this
      have b8 : Boxed w0 (w.heap.size + 2) 2 (.int .i64 a3) := by
        rw [← hw0]
        have := (Boxed.new ((w.alloc (Obj.cells #[Value.int IntKind.i64 a0] 3)).alloc (Obj.cells #[Value.int IntKind.i64 a2] 2)) 2 (.int .i64 a3))
        simpa using this
      have hsz0 : w0.heap.size = w.heap.size + 3 := by rw [← hw0]; simp
      rw [hw0] at hb HB
      have b5' : Boxed w1 w.heap.size 3 (.int .i64 a0) := (hb.block _ b5.lt).trans b5
      have b7' : Boxed w1 (w.heap.size + 1) 2 (.int .i64 a2) := (hb.block _ b7.lt).trans b7
      have b8' : Boxed w1 (w.heap.size + 2) 2 (.int .i64 a3) := (hb.block _ b8.lt).trans b8
      have n_ := Aside0.mk (below_step HB.out hb)
      clear HB
      have HB := n_
      have hle1 : w.heap.size + 3 ≤ w1.heap.size := by have := hb.size; omega
      clear n_ hb b5 b7 b8 hsz0 hw0
      gi_wp2
      refine ⟨trivial, (parts_in Fence.wide _ trivial rfl _ _ _ _ _).mono ?_⟩
      rintro e w' ⟨rfl, rfl⟩
      gi_wp2
      have hd : (((w1.alloc (Obj.cells #[Value.slice none 0 0] 26)).alloc (Obj.cells #[Value.slice A1 l1.length c1] 27)).alloc (Obj.cells #[Value.int IntKind.i64 (size : Int)] 3)).cell? ⟨w1.heap.size + 1, 0, none⟩ = some (.slice A1 l1.length c1) := by
        simpa using ((Boxed.new (w1.alloc (Obj.cells #[Value.slice none 0 0] 26)) 27 (.slice A1 l1.length c1)).alloc (Obj.cells #[Value.int IntKind.i64 (size : Int)] 3)).cell
      have hz : (((w1.alloc (Obj.cells #[Value.slice none 0 0] 26)).alloc (Obj.cells #[Value.slice A1 l1.length c1] 27)).alloc (Obj.cells #[Value.int IntKind.i64 (size : Int)] 3)).cell? ⟨w1.heap.size + 1 + 1, 0, none⟩ = some (.int .i64 (size : Int)) := by
        simpa using (Boxed.new ((w1.alloc (Obj.cells #[Value.slice none 0 0] 26)).alloc (Obj.cells #[Value.slice A1 l1.length c1] 27)) 3 (.int .i64 (size : Int))).cell
      have bL := ((Boxed.new w1 26 (.slice none 0 0)).alloc (Obj.cells #[Value.slice A1 l1.length c1] 27)).alloc (Obj.cells #[Value.int IntKind.i64 (size : Int)] 3)
      have hBC := below_alloc (below_alloc (below_alloc (Below.refl w1.heap.size w1) (Obj.cells #[Value.slice none 0 0] 26)) (Obj.cells #[Value.slice A1 l1.length c1] 27)) (Obj.cells #[Value.int IntKind.i64 (size : Int)] 3)
      obtain ⟨WC, hWC⟩ : ∃ WC, ((w1.alloc (Obj.cells #[Value.slice none 0 0] 26)).alloc (Obj.cells #[Value.slice A1 l1.length c1] 27)).alloc (Obj.cells #[Value.int IntKind.i64 (size : Int)] 3) = WC := ⟨_, rfl⟩
      have hszC : WC.heap.size = w1.heap.size + 3 := by rw [← hWC]; simp
      rw [hWC] at hd hz bL hBC ⊢
      clear hWC
      refine wpIn_rangeFunc_ownG rfl (by omega) (gf := 50) (lb := #[.pointer (some ⟨w1.heap.size + 1, 0, none⟩), .pointer (some ⟨w1.heap.size + 1 + 1, 0, none⟩)]) rfl trivial (enters_of Try.func50 (by kernel_rfl) rfl)
        (parts_stops Fence.wide (6 - 1) trivial rfl (by omega) (w1.heap.size + 1) (w1.heap.size + 1 + 1) A1 l1.length c1 size (cutK l1.length size) HS1.out HS2.out HC.out (by have := HL.out; omega) (cutK_iff HS1.out) _ (by omega) (by omega) hd hz)
        (fun h k => KpB.trans h k) (fun W l o o' hl _ _ _ b hb => World.putObj_heap_other (by omega)) (Below.refl _ _) (fun _ => rfl)
        (fun (pre : List (Fin (cutK l1.length size))) W => (∃ v, Boxed W w1.heap.size 26 v ∧ Kd.R k30 30 W w1.heap.size (fun k => w1.heap.size + 3 ≤ k) v (pre.map fun i => cutRow a0 a2 a3 size l1 i.1)) ∧ Below w1.heap.size w1 W ∧ w1.heap.size + 3 ≤ W.heap.size)
        (fun _ _ _ => False)
        (OwnFrom.and (cut_ownFrom w1.heap.size WC.heap.size (by omega) (fun k => w1.heap.size + 3 ≤ k) (fun (pre : List (Fin (cutK l1.length size))) => pre.map fun i => cutRow a0 a2 a3 size l1 i.1)) (OwnFrom.and (ownFrom_below (Nat.le_refl _) (by omega)) (fun s A B row h hg hr => Nat.le_trans h hg.size)))
        (fun _ _ _ _ _ hs _ _ => hs)
        ⟨⟨_, bL, Kd.R_nil _ _ _ _ _⟩, hBC, by omega⟩
        (fun x => { tmps := #[.int .i64 a0, .slice A1 l1.length c1, .int .i64 a2, .int .i64 a3, .int .i64 (size : Int), .pointer (some ⟨w.heap.size, 0, none⟩), undef, .pointer (some ⟨w.heap.size + 1, 0, none⟩), .pointer (some ⟨w.heap.size + 1 + 1, 0, none⟩), undef, .slice none 0 0, .int .i64 0, .pointer (some ⟨w1.heap.size, 0, none⟩),
          .int .i64 ((x.1 * size : Nat) : Int), .slice (cutA A1 (x.1 * size) (cutTo l1.length size x.1)) (cutTo l1.length size x.1 - x.1 * size) (cutTo l1.length size x.1 - x.1 * size), undef,
          .int .i64 (size : Int), .bool false, .bool false, .int .i64 (size : Int), .bool false, .bool false, .bool false, .int .i64 a0, .int .i64 a2, .int .i64 a3, .agg #[.int .i64 a0, .int .i64 a2, .int .i64 a3, .slice none 0 0], .bool true, .bool false, .bool false, .slice A1 l1.length c1, .int .i64 (size : Int),
          .func (.func 50) #[] #[.pointer (some ⟨w1.heap.size + 1, 0, none⟩), .pointer (some ⟨w1.heap.size + 1 + 1, 0, none⟩)],
          .int .i64 ((x.1 * size : Nat) : Int), .slice (cutA A1 (x.1 * size) (cutTo l1.length size x.1)) (cutTo l1.length size x.1 - x.1 * size) (cutTo l1.length size x.1 - x.1 * size), undef, undef, undef, undef, undef, undef, undef, undef, undef, undef, undef, undef, undef, undef, undef], defers := [] }) ?assign ?body ?done ?stop
      case assign =>
        intro l x W K hK
        unfold cutArgs cutVals
        generalize ((x.1 * size : Nat) : Int) = P at hK ⊢
        gi_wp2
        exact hK
      case body =>
        rintro l pre i W ⟨⟨v, hv, hR⟩, hB, hNW⟩ hlt
        have hmx : Try.prog.follows .mixedOrders = true := by kernel_rfl
        have h31 : Fence.wide.fn 31 := trivial
        have hi := (cutK_iff HS1.out i.1).1 i.2
        have hrow : ∃ p q ch, i.1 * size = p ∧ cutTo l1.length size i.1 = q ∧ (l1.take q).drop p = ch ∧ ch.length = q - p ∧ p ≤ q ∧ q ≤ l1.length ∧ cutRow a0 a2 a3 size l1 i.1 = ⟨a0, if i.1 = 0 then a2 else -1, if i.1 = 0 then a3 else -1, ch⟩ ∧ (i.1 = 0 ∧ p = 0 ∨ i.1 ≠ 0 ∧ p ≠ 0) := by
          have h1 : i.1 * size ≤ cutTo l1.length size i.1 := by unfold cutTo; rcases hi with h | h <;> first | (rw [h]; omega) | omega
          have h2 : cutTo l1.length size i.1 ≤ l1.length := by unfold cutTo; omega
          refine ⟨_, _, _, rfl, rfl, rfl, by rw [List.length_drop, List.length_take]; omega, h1, h2, rfl, ?_⟩
          rcases Nat.eq_zero_or_pos i.1 with h | h
          · exact .inl ⟨h, by rw [h]; simp⟩
          · refine .inr ⟨by omega, ?_⟩
            have := Nat.mul_pos h HS1.out
            omega
        obtain ⟨p, q, ch, hp, hq, hch, hchl, hpq, hql, hrow, hcase⟩ := hrow
        rw [hp, hq]
        have HCL := Aside0.mk (fun (W' : World) (hb : Below w.heap.size w W') => (show Calls Try.prog 31 #[.slice (cutA A1 p q) (q - p) (q - p)] W' _ by
          have := slices_Clone_byte_byte.calls (cutA A1 p q) (q - p) ch ch W' (by have := cut_C (Kd.C_below HR.out hb) hpq hql HC.out; rwa [hch] at this) (by omega) (by unfold slices_Clone_byte_byte.f; rw [if_pos (by have := HL.out; omega)])
          rw [hchl] at this
          exact this))
        have HX := Aside0.mk (fun (W' : World) (hb : Below w1.heap.size w1 W') => And.intro ((hb.block _ b5'.lt).trans b5') (And.intro ((hb.block _ b7'.lt).trans b7') ((hb.block _ b8'.lt).trans b8')))
        have HRow := Aside0.mk hrow
        have hc5 := Boxed.cell (HX.out W hB).1
        have hne0 : ¬ (w.heap.size = W.heap.size) := by have := hB.size; omega
        have hne1 : ¬ (W.heap.size = w.heap.size) := by have := hB.size; omega
        have hlt0 : w.heap.size < W.heap.size := by have := hB.size; omega
        have hc5a := (fun o : Obj => Boxed.cell (HX.out (W.drew.alloc o) (below_alloc (below_drew hB) o)).1)
        clear hi hp hq hch hchl hpq hql hrow b5' b7' b8' hd hz bL hBC
        have HBW := Aside0.mk hB
        have HRR := Aside0.mk hR
        clear hB hR
        rcases hcase with ⟨hi0, rfl⟩ | ⟨hi0, hp0⟩
        · simp only [Int.natCast_zero]
          obtain ⟨CA, hCA⟩ : ∃ CA, cutA A1 0 q = CA := ⟨_, rfl⟩
          obtain ⟨CM, hCM⟩ : ∃ CM, q - 0 = CM := ⟨_, rfl⟩
          rw [hCA, hCM] at HCL ⊢
          clear hCA hCM
          gi_wp2
          refine wpIn_mono (Q := Exit.then (fun a' w' => ∃ (A' : Option Addr) (c' pb : Nat), a' = { tmps := #[.int .i64 a0, .slice A1 l1.length c1, .int .i64 a2, .int .i64 a3, .int .i64 (size : Int), .pointer (some ⟨w.heap.size, 0, none⟩), undef, .pointer (some ⟨w.heap.size + 1, 0, none⟩), .pointer (some ⟨w.heap.size + 1 + 1, 0, none⟩), undef, .slice none 0 0, .int .i64 0, .pointer (some ⟨w1.heap.size, 0, none⟩), .int .i64 0, .slice CA CM CM, .pointer (some ⟨pb, 0, none⟩), .int .i64 (size : Int), .bool false, .bool false, .int .i64 (size : Int), .bool false, .bool false, .bool false, .int .i64 a0, .int .i64 a2, .int .i64 a3, .agg #[.int .i64 a0, .int .i64 a2, .int .i64 a3, .slice none 0 0], .bool true, .bool false, .bool false, .slice A1 l1.length c1, .int .i64 (size : Int), .func (.func 50) #[] #[.pointer (some ⟨w1.heap.size + 1, 0, none⟩), .pointer (some ⟨w1.heap.size + 1 + 1, 0, none⟩)], .int .i64 0, .slice CA CM CM, .int .i64 a0, .slice CA CM CM, .slice A' ch.length c', .agg #[.int .i64 a0, .int .i64 (-1), .int .i64 (-1), .slice A' ch.length c'], undef, undef, undef, undef, undef, undef, undef, undef, undef, undef, undef], defers := [] } ∧ w'.heap[pb]? = some (.cells #[.int .i64 a0, .int .i64 (-1), .int .i64 (-1), .slice A' ch.length c'] 30 (0, 0)) ∧ W.heap.size ≤ pb ∧ Kd.R (Kd.int .u8) 5 w' W.heap.size (fun k => k ≠ pb) (.slice A' ch.length c') ch ∧ Below W.heap.size W w') (fun _ _ _ => False)) ?_ ?_
          · gi_region_with_o (gi_at_call 31; refine (CallsIn.inRound l (callsIn_wide.2 (HCL.out _ ?hbc))).mono ?_; (case hbc => repeat (first | exact below_step HB.out HBW.out | (with_reducible refine below_alloc ?_ _) | (with_reducible refine below_drew ?_))); rintro e W2 ⟨v0, rfl, hR2, hb2⟩; obtain ⟨A', c', rfl⟩ := Kd.R_slice hR2; have hb3 : Below w1.heap.size w1 W2 := (by first | exact below_step (below_drew HBW.out) hb2 | exact below_step (below_alloc (below_drew HBW.out) _) hb2); have hc5b := Boxed.cell (HX.out W2 hb3).1; have hc5c := (fun o : Obj => Boxed.cell (HX.out (W2.alloc o) (below_alloc hb3 o)).1); have HB3 := Aside0.mk hb3; clear hb3; (try (have hpn := (hb2.block W.heap.size (by simp)).trans (World.alloc_heap_new (World.drew W) _); have hcn := blk_cell hpn; have hfn := blk_frozen hpn; have HPN := Aside0.mk hpn; clear hpn)); have HR2 := Aside0.mk hR2; have HB2 := Aside0.mk hb2; clear hR2 hb2)
            all_goals first
              | (have hq_ := blk_set (blk_set (blk_set (blk_set HPN.out 0 (.int .i64 a0)) 1 (.int .i64 (-1))) 2 (.int .i64 (-1))) 3 (.slice A' ch.length c'); have hm_ := cut_mid2 HR2.out HB2.out (.int .i64 a0) (.int .i64 (-1)) (.int .i64 (-1)) (.slice A' ch.length c'); exact ⟨A', c', W.heap.size, rfl, hq_, Nat.le_refl _, hm_.1, hm_.2⟩)
              | (have hm_ := cut_mid1 (o := .cells #[.int .i64 a0, .int .i64 (-1), .int .i64 (-1), .slice A' ch.length c'] 30) HR2.out HB2.out; exact ⟨A', c', W2.heap.size, rfl, blk_new _ _, hm_.1, hm_.2.1, hm_.2.2⟩)
          · rintro e a' w' he
            cases e <;> first | exact he.elim | skip
            obtain ⟨A', c', pb, rfl, hpb, hle, hR', hb'⟩ := he
            have hbN : Below w1.heap.size w1 w' := below_step HBW.out hb'
            have hc7 := Boxed.cell (HX.out w' hbN).2.1
            have hc8 := Boxed.cell (HX.out w' hbN).2.2
            have hcp := blk_cell hpb
            have hfp := blk_frozen hpb
            have HPB := Aside0.mk hpb
            have HR2 := Aside0.mk hR'
            have HB2 := Aside0.mk hb'
            have HBN := Aside0.mk hbN
            clear hpb hR' hb' hbN
            obtain ⟨Av, cv, hveq⟩ := Kd.R_slice HRR.out
            rw [List.length_map] at hveq
            subst hveq
            gi_wp2
            gi_region_with_o (fail)
            all_goals (
              have hbW := below_drew (below_set (j := 2) (v := .int .i64 a3) (below_set (j := 1) (v := .int .i64 a2) HB2.out hle) hle)
              have hpb2 := blk_drew (blk_set (blk_set HPB.out 1 (.int .i64 a2)) 2 (.int .i64 a3))
              have hR3 := Kd.R_drew (Kd.R_far (p := ⟨pb, 2, none⟩) (Kd.R_far (p := ⟨pb, 1, none⟩) HR2.out (fun _ h => h) (.int .i64 a2)) (fun _ h => h) (.int .i64 a3))
              generalize hwf : ((w'.setCell ⟨pb, 1, none⟩ (Value.int IntKind.i64 a2)).setCell ⟨pb, 2, none⟩ (Value.int IntKind.i64 a3)).drew = wf at hbW hpb2 hR3 ⊢
              clear hwf hcp hfp
              have hrw : cutRow a0 a2 a3 size l1 i.1 = ⟨a0, a2, a3, ch⟩ := by rw [HRow.out, if_pos hi0, if_pos hi0]
              have hcp2 := blk_cell hpb2
              have hvl : Boxed wf w1.heap.size 26 _ := (hbW.block _ hv.lt).trans hv
              have hcl := hvl.cell
              have hR4 := Kd.R_below HRR.out hbW
              have H1_ := Aside0.mk hbW
              have H2_ := Aside0.mk hR3
              have H3_ := Aside0.mk hvl
              clear hR3 hR4 hbW hpb2 hvl
              gi_wp2_with (gi_at_builtin; refine cut_tail (w1 := w1) (a0 := a0) (A' := A') (c' := c') HBW.out hNW HRR.out H1_.out H2_.out H3_.out a2 a3 rfl rfl rfl rfl (by rw [List.length_map]; have := HL.out; have := cutK_le (len := l1.length) HS1.out; omega) (fun v4 w4 hR5 hB5 hg5 hb4 hend => ?_); obtain ⟨A4, c4, rfl⟩ := Kd.R_slice hR5; have hc4 := hb4.cell; have hf4 := hb4.frozen; have HE := Aside0.mk hend; have HR5 := Aside0.mk hR5; clear hend hR5 hB5 hg5 hb4)
              rw [hszC]
              have he := HE.out
              simp only [List.length_append, List.length_map, List.length_cons, List.length_nil, Nat.zero_add] at he
              obtain ⟨e1, e2, ⟨u, e3, e4⟩, e5, e6⟩ := he
              exact ⟨e1, e2, ⟨u, e3, by rw [List.map_append, List.map_cons, List.map_nil, hrw]; exact e4⟩, e5, e6⟩)
        · obtain ⟨CA, hCA⟩ : ∃ CA, cutA A1 p q = CA := ⟨_, rfl⟩
          obtain ⟨CM, hCM⟩ : ∃ CM, q - p = CM := ⟨_, rfl⟩
          rw [hCA, hCM] at HCL ⊢
          clear hCA hCM
          gi_wp2
          refine wpIn_mono (Q := Exit.then (fun a' w' => ∃ (A' : Option Addr) (c' pb : Nat), a' = { tmps := #[.int .i64 a0, .slice A1 l1.length c1, .int .i64 a2, .int .i64 a3, .int .i64 (size : Int), .pointer (some ⟨w.heap.size, 0, none⟩), undef, .pointer (some ⟨w.heap.size + 1, 0, none⟩), .pointer (some ⟨w.heap.size + 1 + 1, 0, none⟩), undef, .slice none 0 0, .int .i64 0, .pointer (some ⟨w1.heap.size, 0, none⟩), .int .i64 (p : Int), .slice CA CM CM, .pointer (some ⟨pb, 0, none⟩), .int .i64 (size : Int), .bool false, .bool false, .int .i64 (size : Int), .bool false, .bool false, .bool false, .int .i64 a0, .int .i64 a2, .int .i64 a3, .agg #[.int .i64 a0, .int .i64 a2, .int .i64 a3, .slice none 0 0], .bool true, .bool false, .bool false, .slice A1 l1.length c1, .int .i64 (size : Int), .func (.func 50) #[] #[.pointer (some ⟨w1.heap.size + 1, 0, none⟩), .pointer (some ⟨w1.heap.size + 1 + 1, 0, none⟩)], .int .i64 (p : Int), .slice CA CM CM, .int .i64 a0, .slice CA CM CM, .slice A' ch.length c', .agg #[.int .i64 a0, .int .i64 (-1), .int .i64 (-1), .slice A' ch.length c'], undef, undef, undef, undef, undef, undef, undef, undef, undef, undef, undef], defers := [] } ∧ w'.heap[pb]? = some (.cells #[.int .i64 a0, .int .i64 (-1), .int .i64 (-1), .slice A' ch.length c'] 30 (0, 0)) ∧ W.heap.size ≤ pb ∧ Kd.R (Kd.int .u8) 5 w' W.heap.size (fun k => k ≠ pb) (.slice A' ch.length c') ch ∧ Below W.heap.size W w') (fun _ _ _ => False)) ?_ ?_
          · gi_region_with_o (gi_at_call 31; refine (CallsIn.inRound l (callsIn_wide.2 (HCL.out _ ?hbc))).mono ?_; (case hbc => repeat (first | exact below_step HB.out HBW.out | (with_reducible refine below_alloc ?_ _) | (with_reducible refine below_drew ?_))); rintro e W2 ⟨v0, rfl, hR2, hb2⟩; obtain ⟨A', c', rfl⟩ := Kd.R_slice hR2; have hb3 : Below w1.heap.size w1 W2 := (by first | exact below_step (below_drew HBW.out) hb2 | exact below_step (below_alloc (below_drew HBW.out) _) hb2); have hc5b := Boxed.cell (HX.out W2 hb3).1; have hc5c := (fun o : Obj => Boxed.cell (HX.out (W2.alloc o) (below_alloc hb3 o)).1); have HB3 := Aside0.mk hb3; clear hb3; (try (have hpn := (hb2.block W.heap.size (by simp)).trans (World.alloc_heap_new (World.drew W) _); have hcn := blk_cell hpn; have hfn := blk_frozen hpn; have HPN := Aside0.mk hpn; clear hpn)); have HR2 := Aside0.mk hR2; have HB2 := Aside0.mk hb2; clear hR2 hb2)
            all_goals first
              | (have hq_ := blk_set (blk_set (blk_set (blk_set HPN.out 0 (.int .i64 a0)) 1 (.int .i64 (-1))) 2 (.int .i64 (-1))) 3 (.slice A' ch.length c'); have hm_ := cut_mid2 HR2.out HB2.out (.int .i64 a0) (.int .i64 (-1)) (.int .i64 (-1)) (.slice A' ch.length c'); exact ⟨A', c', W.heap.size, rfl, hq_, Nat.le_refl _, hm_.1, hm_.2⟩)
              | (have hm_ := cut_mid1 (o := .cells #[.int .i64 a0, .int .i64 (-1), .int .i64 (-1), .slice A' ch.length c'] 30) HR2.out HB2.out; exact ⟨A', c', W2.heap.size, rfl, blk_new _ _, hm_.1, hm_.2.1, hm_.2.2⟩)
          · rintro e a' w' he
            cases e <;> first | exact he.elim | skip
            obtain ⟨A', c', pb, rfl, hpb, hle, hR', hb'⟩ := he
            have hbN : Below w1.heap.size w1 w' := below_step HBW.out hb'
            have hc7 := Boxed.cell (HX.out w' hbN).2.1
            have hc8 := Boxed.cell (HX.out w' hbN).2.2
            have hcp := blk_cell hpb
            have hfp := blk_frozen hpb
            have HPB := Aside0.mk hpb
            have HR2 := Aside0.mk hR'
            have HB2 := Aside0.mk hb'
            have HBN := Aside0.mk hbN
            clear hpb hR' hb' hbN
            obtain ⟨Av, cv, hveq⟩ := Kd.R_slice HRR.out
            rw [List.length_map] at hveq
            subst hveq
            have hbW := HB2.out
            have hpb2 := HPB.out
            have hR3 := HR2.out
            clear hcp hfp
            have hrw : cutRow a0 a2 a3 size l1 i.1 = ⟨a0, -1, -1, ch⟩ := by rw [HRow.out, if_neg hi0, if_neg hi0]
            have hcp2 := blk_cell hpb2
            have hvl : Boxed w' w1.heap.size 26 _ := (hbW.block _ hv.lt).trans hv
            have hcl := hvl.cell
            have hR4 := Kd.R_below HRR.out hbW
            have H1_ := Aside0.mk hbW
            have H2_ := Aside0.mk hR3
            have H3_ := Aside0.mk hvl
            clear hR3 hR4 hbW hpb2 hvl
            gi_wp2_with (gi_at_builtin; refine cut_tail (w1 := w1) (a0 := a0) (A' := A') (c' := c') HBW.out hNW HRR.out H1_.out H2_.out H3_.out (-1) (-1) rfl rfl rfl rfl (by rw [List.length_map]; have := HL.out; have := cutK_le (len := l1.length) HS1.out; omega) (fun v4 w4 hR5 hB5 hg5 hb4 hend => ?_); obtain ⟨A4, c4, rfl⟩ := Kd.R_slice hR5; have hc4 := hb4.cell; have hf4 := hb4.frozen; have HE := Aside0.mk hend; have HR5 := Aside0.mk hR5; clear hend hR5 hB5 hg5 hb4)
            rw [hszC]
            have he := HE.out
            simp only [List.length_append, List.length_map, List.length_cons, List.length_nil, Nat.zero_add] at he
            obtain ⟨e1, e2, ⟨u, e3, e4⟩, e5, e6⟩ := he
            exact ⟨e1, e2, ⟨u, e3, by rw [List.map_append, List.map_cons, List.map_nil, hrw]; exact e4⟩, e5, e6⟩
      case done =>
        rintro D ys W hD hys ⟨⟨v, hv, hR⟩, hB1, -⟩ hK
        have hc := hv.cell
        gi_wp2
        refine ⟨by simp, .inl ⟨_, _, rfl, run_takeDeferred hK, ?_⟩⟩
        refine ⟨_, results_tmp2 rfl _ _ _, v, rfl, ?_, (below_step HB.out hB1).trans (belowK_b (w := w) (Nat.le_refl _) W D _ _ (by omega) hK rfl rfl)⟩
        have e : ys.map (fun i => cutRow a0 a2 a3 size l1 i.1) = (List.range (cutK l1.length size)).map (cutRow a0 a2 a3 size l1) := by rw [← hys, List.map_map]; rfl
        rw [← e]
        refine Kd.R_mono (Kd.R_lower (Kd.R_step (Kd.R_bound hR) (fun k hk hlt => World.putObj_heap_other fun e => ?_)) (by omega)) (fun _ _ => trivial)
        obtain ⟨_, _, _, qq, _, cells, hcell⟩ := hk
        subst e
        rw [hcell] at hK
        cases hK
      case stop =>
        rintro D c pre W _ _ h _
        exact h.elim
    · rw [if_neg hlen] at h
      cases h
  · rw [if_neg ht] at h
    obtain ⟨rfl, rfl⟩ : [] = r1 ∧ (1 : Int) = r2 := by simpa using h
    obtain rfl : t = false := by simpa using ht
    clear h hr1 hc1 ht hv
    have HV := Aside0.mk hval
    clear hval
    refine callsIn_of_wp_marks Try.func17 rfl trivial ?_ hro
    simp only [Try.ntmps17, List.size_toArray, List.length_cons, List.length_nil, Nat.reduceAdd, Nat.reduceSub, Array.replicate_succ, Array.replicate_zero, List.push_toArray, List.append_toArray, List.nil_append, List.cons_append]
    have HB := Aside0.mk (below_alloc (below_alloc (below_alloc (Below.refl w.heap.size w) (Obj.cells #[Value.int IntKind.i64 a0] 3)) (Obj.cells #[Value.int IntKind.i64 a2] 2)) (Obj.cells #[Value.int IntKind.i64 a3] 2))
    gi_wp2
    refine ⟨trivial, (callsIn_wide.2 (HV.out _)).mono ?_⟩
    intro e w1 hh
    obtain ⟨rfl, hb⟩ := hh
    have n_ := Aside0.mk (below_step HB.out hb)
    clear HB hb
    have HB := n_
    clear n_
    gi_wp2
    exact ⟨_, results_tmp2 rfl _ _ _, _, rfl, Kd.R_nil _ _ _ _ _, HB.out⟩
end

/-! ### cutroomref16_stamp: function 51 -/
def cutroomref16_stamp.f (a0 : Int) : Option (Bool) := if a0 ≥ (-1) then (some (decide (a0 < 8589934592))) else (some false)
set_option maxHeartbeats 8000000 in
set_option maxRecDepth 100000 in
theorem cutroomref16_stamp.calls (a0 : Int) (r : Bool) (w : World) (h : cutroomref16_stamp.f a0 = some r) :
    Calls Try.prog 51 #[.int .i64 a0] w fun e w' => e = .returned (.bool r) ∧ Drawn0 w w' := by
  have H : (if a0 ≥ (-1) then (some (decide (a0 < 8589934592))) else (some false)) = some r := h
  clear h
  by_cases c2 : a0 ≥ (-1)
  · rw [if_pos c2] at H
    have c2b0 : decide ((-1) ≤ a0) = true := decide_eq_true c2
    clear c2
    obtain rfl := Option.some.inj H
    go_enter Try.func51, Try.ntmps51
    go_wp2
    go_ret
    exact ⟨by first | rfl | (simp; done) | (simp [*]; done), by repeat (first | exact Drawn0.refl _ | apply Drawn0.step)⟩
  · rw [if_neg c2] at H
    have c2b0 : decide ((-1) ≤ a0) = false := decide_eq_false c2
    clear c2
    obtain rfl := Option.some.inj H
    go_enter Try.func51, Try.ntmps51
    go_wp2
    go_ret
    exact ⟨by first | rfl | (simp; done) | (simp [*]; done), by repeat (first | exact Drawn0.refl _ | apply Drawn0.step)⟩

end Go.Proofs.Ytdkibpdgnocgaaa.PPesCuts
