-- Written for this claim by a turned copy of the kit's print (wip/printx/mk.py). By an AI agent.
import Derived.Test.YtdkibpdgnocgaaaPPesTakesx0
import Derived.Test.YtdkibpdgnocgaaaPPesTakesx1
import Derived.Test.YtdkibpdgnocgaaaPPesTakesx2
namespace Go.Proofs.Ytdkibpdgnocgaaa.PPesTakes
open Go.RowKit Go.Proofs.YtdkibpdgnocgaaaW.PrintWords Go.Proofs.YtdkibpdgnocgaaaW.PrintLast Go.Proofs.YtdkibpdgnocgaaaW.PrintMore
attribute [local go_sem] max2_int min2_int max_two min_two max_three min_three max_four min_four   -- for this text's walks alone
set_option linter.unusedVariables false
set_option linter.unusedSimpArgs false

/-! ### pes_Take: function 22 -/
mutual
def pes_Take.j0 : Nat → List Int → Int → Int → Bool → Option (Int × Int × Int × List Int × Int × Int)
  | 0, _, _, _, _ => none
  | k + 1, x0, x5, x6, x84 => if x84 = true then (some (0, 0, 0, ([] : List Int), 0, 3)) else (if (x0.length : Int) < (wrap64 (6 + x5)) then (some (0, 0, 0, ([] : List Int), 0, 4)) else (if 3 < (x0.length : Int) then (if 7 < (x0.length : Int) then (if (rd x0 7) = 128 then (if 9 ≤ (x0.length : Int) then ((pes_unstamp.f (x0.drop 9) 2).bind fun bt183 => (pes_Take.j1 k x0 x6 (wrap64 (6 + x5)) bt183.2 true (wrap64 (rd x0 3)) bt183.1 (-1))) else (none)) else (if (rd x0 7) = 192 then (if 9 ≤ (x0.length : Int) then ((pes_unstamp.f (x0.drop 9) 3).bind fun bt186 => (if 14 ≤ (x0.length : Int) then ((pes_unstamp.f (x0.drop 14) 1).bind fun bt189 => (pes_Take.j1 k x0 x6 (wrap64 (6 + x5)) bt186.2 bt189.2 (wrap64 (rd x0 3)) bt186.1 bt189.1)) else (none))) else (none)) else (pes_Take.j1 k x0 x6 (wrap64 (6 + x5)) true true (wrap64 (rd x0 3)) (-1) (-1)))) else (none)) else (none)))
def pes_Take.j1 : Nat → List Int → Int → Int → Bool → Bool → Int → Int → Int → Option (Int × Int × Int × List Int × Int × Int)
  | 0, _, _, _, _, _, _, _, _ => none
  | k + 1, x0, x6, x8, x10, x11, x181000, x181001, x181002 => if x10 = true then (if x11 = true then (if 0 ≤ (wrap64 (9 + x6)) then (if (wrap64 (9 + x6)) ≤ x8 then (if x8 ≤ (x0.length : Int) then ((slices_Clone_byte_byte.f ((x0.take (x8 : Int).toNat).drop ((wrap64 (9 + x6)) : Int).toNat)).bind fun t192 => (some (x181000, x181001, x181002, t192, x8, 0))) else (none)) else (none)) else (none)) else (some (0, 0, 0, ([] : List Int), 0, 3))) else (some (0, 0, 0, ([] : List Int), 0, 3))
end
def pes_Take.f (k : Nat) (l0 : List Int) : Option (Int × Int × Int × List Int × Int × Int) := if (l0.length : Int) < 9 then (some (0, 0, 0, ([] : List Int), 0, 4)) else (if 4 < (l0.length : Int) then (if 5 < (l0.length : Int) then (if 7 < (l0.length : Int) then ((pes_stamped.f (rd l0 7)).bind fun bt170 => (if bt170.2 = true then (if 0 < (l0.length : Int) then (if (rd l0 0) = 0 then (if 1 < (l0.length : Int) then (if (rd l0 1) = 0 then (if 2 < (l0.length : Int) then (if (rd l0 2) = 1 then (if 3 < (l0.length : Int) then (if (rd l0 3) < 192 then (pes_Take.j0 k l0 (Go.bits .or .i64 (wrap64 ((wrap64 (rd l0 4)) * 256)) (wrap64 (rd l0 5))) bt170.1 true) else (if (rd l0 3) > 239 then (pes_Take.j0 k l0 (Go.bits .or .i64 (wrap64 ((wrap64 (rd l0 4)) * 256)) (wrap64 (rd l0 5))) bt170.1 true) else (if 6 < (l0.length : Int) then (if (rd l0 6) = 128 then (if 8 < (l0.length : Int) then (if (wrap64 (rd l0 8)) = bt170.1 then (pes_Take.j0 k l0 (Go.bits .or .i64 (wrap64 ((wrap64 (rd l0 4)) * 256)) (wrap64 (rd l0 5))) bt170.1 (decide ((Go.bits .or .i64 (wrap64 ((wrap64 (rd l0 4)) * 256)) (wrap64 (rd l0 5))) < (wrap64 (3 + bt170.1))))) else (pes_Take.j0 k l0 (Go.bits .or .i64 (wrap64 ((wrap64 (rd l0 4)) * 256)) (wrap64 (rd l0 5))) bt170.1 true)) else (none)) else (pes_Take.j0 k l0 (Go.bits .or .i64 (wrap64 ((wrap64 (rd l0 4)) * 256)) (wrap64 (rd l0 5))) bt170.1 true)) else (none)))) else (none)) else (pes_Take.j0 k l0 (Go.bits .or .i64 (wrap64 ((wrap64 (rd l0 4)) * 256)) (wrap64 (rd l0 5))) bt170.1 true)) else (none)) else (pes_Take.j0 k l0 (Go.bits .or .i64 (wrap64 ((wrap64 (rd l0 4)) * 256)) (wrap64 (rd l0 5))) bt170.1 true)) else (none)) else (pes_Take.j0 k l0 (Go.bits .or .i64 (wrap64 ((wrap64 (rd l0 4)) * 256)) (wrap64 (rd l0 5))) bt170.1 true)) else (none)) else (pes_Take.j0 k l0 (Go.bits .or .i64 (wrap64 ((wrap64 (rd l0 4)) * 256)) (wrap64 (rd l0 5))) bt170.1 true))) else (none)) else (none)) else (none))
theorem pes_Take.mono_l : ∀ k, (∀ y0 y1 y2 y3, LeO (pes_Take.j0 k y0 y1 y2 y3) (pes_Take.j0 (k + 1) y0 y1 y2 y3)) ∧ (∀ y0 y1 y2 y3 y4 y5 y6 y7, LeO (pes_Take.j1 k y0 y1 y2 y3 y4 y5 y6 y7) (pes_Take.j1 (k + 1) y0 y1 y2 y3 y4 y5 y6 y7))
  | 0 => ⟨fun _ _ _ _ r h => by simp [pes_Take.j0] at h, fun _ _ _ _ _ _ _ _ r h => by simp [pes_Take.j1] at h⟩
  | k + 1 => by
    obtain ⟨ih0, ih1⟩ := pes_Take.mono_l k
    refine ⟨?_, ?_⟩
    · intro y0 y1 y2 y3
      unfold pes_Take.j0
      repeat' first
      | (with_reducible exact ih0 _ _ _ _)
      | (with_reducible exact ih1 _ _ _ _ _ _ _ _)
      | (with_reducible exact LeO.refl _)
      | (with_reducible exact LeO.none _)
      | (with_reducible refine LeO.ite ?_ ?_)
      | (with_reducible refine LeO.bind ?_ (fun _ => ?_))
      | exact ih0 _ _ _ _
      | exact ih1 _ _ _ _ _ _ _ _
      | exact LeO.none _
      | refine LeO.ite ?_ ?_
      | refine LeO.bind ?_ (fun _ => ?_)
    · intro y0 y1 y2 y3 y4 y5 y6 y7
      unfold pes_Take.j1
      repeat' first
      | (with_reducible exact ih0 _ _ _ _)
      | (with_reducible exact ih1 _ _ _ _ _ _ _ _)
      | (with_reducible exact LeO.refl _)
      | (with_reducible exact LeO.none _)
      | (with_reducible refine LeO.ite ?_ ?_)
      | (with_reducible refine LeO.bind ?_ (fun _ => ?_))
      | exact ih0 _ _ _ _
      | exact ih1 _ _ _ _ _ _ _ _
      | exact LeO.none _
      | refine LeO.ite ?_ ?_
      | refine LeO.bind ?_ (fun _ => ?_)
theorem pes_Take.mono : ∀ a0 k, LeO (pes_Take.f k a0) (pes_Take.f (k + 1) a0) := by
  intro a0 k
  obtain ⟨ih0, ih1⟩ := pes_Take.mono_l k
  unfold pes_Take.f
  repeat' first
      | (with_reducible exact ih0 _ _ _ _)
      | (with_reducible exact ih1 _ _ _ _ _ _ _ _)
      | (with_reducible exact LeO.refl _)
      | (with_reducible exact LeO.none _)
      | (with_reducible refine LeO.ite ?_ ?_)
      | (with_reducible refine LeO.bind ?_ (fun _ => ?_))
      | exact ih0 _ _ _ _
      | exact ih1 _ _ _ _ _ _ _ _
      | exact LeO.none _
      | refine LeO.ite ?_ ?_
      | refine LeO.bind ?_ (fun _ => ?_)
set_option maxHeartbeats 8000000 in
set_option maxRecDepth 100000 in
theorem pes_Take.calls (k : Nat) (A0 : Option Addr) (c0 : Nat) (l0 : List Int) (r1 : Int) (r2 : Int) (r3 : Int) (r4 : List Int) (r5 : Int) (r6 : Int) (w : World) (hr0 : Kd.C (Kd.int .u8) w A0 l0.length l0) (hc0 : l0.length ≤ c0) (h : pes_Take.f k l0 = some (r1, r2, r3, r4, r5, r6)) :
    Calls Try.prog 22 #[.slice A0 l0.length c0] w fun e w' => ∃ v3_ : Value, e = .returned (.tuple #[.agg #[.int .i64 r1, .int .i64 r2, .int .i64 r3, v3_], .int .i64 r5, .int .i64 r6]) ∧ Kd.R (Kd.int .u8) 5 w' w.heap.size (fun _ => True) v3_ r4 ∧ Below w.heap.size w w' := by
  have hu30 := Try.underlying30
  have HR0 := Aside0.mk hr0
  have HC0 := Aside0.mk hc0
  clear hr0 hc0
  have HB := Aside0.mk (Below.refl w.heap.size w)
  have H : (if (l0.length : Int) < 9 then (some (0, 0, 0, ([] : List Int), 0, 4)) else (if 4 < (l0.length : Int) then (if 5 < (l0.length : Int) then (if 7 < (l0.length : Int) then ((pes_stamped.f (rd l0 7)).bind fun bt170 => (if bt170.2 = true then (if 0 < (l0.length : Int) then (if (rd l0 0) = 0 then (if 1 < (l0.length : Int) then (if (rd l0 1) = 0 then (if 2 < (l0.length : Int) then (if (rd l0 2) = 1 then (if 3 < (l0.length : Int) then (if (rd l0 3) < 192 then (pes_Take.j0 k l0 (Go.bits .or .i64 (wrap64 ((wrap64 (rd l0 4)) * 256)) (wrap64 (rd l0 5))) bt170.1 true) else (if (rd l0 3) > 239 then (pes_Take.j0 k l0 (Go.bits .or .i64 (wrap64 ((wrap64 (rd l0 4)) * 256)) (wrap64 (rd l0 5))) bt170.1 true) else (if 6 < (l0.length : Int) then (if (rd l0 6) = 128 then (if 8 < (l0.length : Int) then (if (wrap64 (rd l0 8)) = bt170.1 then (pes_Take.j0 k l0 (Go.bits .or .i64 (wrap64 ((wrap64 (rd l0 4)) * 256)) (wrap64 (rd l0 5))) bt170.1 (decide ((Go.bits .or .i64 (wrap64 ((wrap64 (rd l0 4)) * 256)) (wrap64 (rd l0 5))) < (wrap64 (3 + bt170.1))))) else (pes_Take.j0 k l0 (Go.bits .or .i64 (wrap64 ((wrap64 (rd l0 4)) * 256)) (wrap64 (rd l0 5))) bt170.1 true)) else (none)) else (pes_Take.j0 k l0 (Go.bits .or .i64 (wrap64 ((wrap64 (rd l0 4)) * 256)) (wrap64 (rd l0 5))) bt170.1 true)) else (none)))) else (none)) else (pes_Take.j0 k l0 (Go.bits .or .i64 (wrap64 ((wrap64 (rd l0 4)) * 256)) (wrap64 (rd l0 5))) bt170.1 true)) else (none)) else (pes_Take.j0 k l0 (Go.bits .or .i64 (wrap64 ((wrap64 (rd l0 4)) * 256)) (wrap64 (rd l0 5))) bt170.1 true)) else (none)) else (pes_Take.j0 k l0 (Go.bits .or .i64 (wrap64 ((wrap64 (rd l0 4)) * 256)) (wrap64 (rd l0 5))) bt170.1 true)) else (none)) else (pes_Take.j0 k l0 (Go.bits .or .i64 (wrap64 ((wrap64 (rd l0 4)) * 256)) (wrap64 (rd l0 5))) bt170.1 true))) else (none)) else (none)) else (none))) = some (r1, r2, r3, r4, r5, r6) := h
  clear h
  by_cases c2 : (l0.length : Int) < 9
  · rw [if_pos c2] at H
    have c2b0 : decide ((l0.length : Int) < 9) = true := decide_eq_true c2
    have c2b1 : decide (l0.length < 9) = true := decide_eq_true (by omega)
    clear c2
    simp only [Option.some.injEq, Prod.mk.injEq] at H
    obtain ⟨rfl, rfl, rfl, rfl, rfl, rfl⟩ := H
    go_enter Try.func22, Try.ntmps22
    go_wp2_with (first | ((with_reducible refine gate_dst (N := 2) rfl ?_); refine box_event ?hg (N := 2) ?hd (cs := #[.int .i64 0, .int .i64 0, .int .i64 0, .slice none 0 0]) (t := 30) ?hr ?_; (case hd => rfl); (case hg => rfl); (case hr => first | (go_simp; done) | (go_simp; rfl)); intro gb166 hg w3 hbox hb; have n0_ := Aside0.mk (below_step (by repeat (first | (with_reducible first | exact HB.out | apply below_alloc | apply pw_below_drewN | apply below_drew1) | exact HB.out)) hb); have n1_ := Aside0.mk (hbox); have n2_ := Aside0.mk ((by rw [hg]; exact (below_size (by repeat (first | (with_reducible first | exact HB.out | apply below_alloc | apply pw_below_drewN | apply below_drew1) | exact HB.out))) : w.heap.size ≤ gb166)); have n3_ := Aside0.mk ((by rw [hg]; exact (below_size (by repeat (first | (with_reducible first | exact HB.out | apply below_alloc | apply pw_below_drewN | apply below_drew1) | exact HB.out))) : w.heap.size ≤ gb166)); clear HB; have HB := n0_; have BK166 := n1_; have GW166 := n2_; have GE166 := n3_; clear n0_ n1_ n2_ n3_; clear hb hbox hg; have hcz4_0 : w3.cell? ⟨gb166, 0, none⟩ = some (.int .i64 0) := (blk_cell BK166.out 0).trans rfl; have hcz4_1 : w3.cell? ⟨gb166, 1, none⟩ = some (.int .i64 0) := (blk_cell BK166.out 1).trans rfl; have hcz4_2 : w3.cell? ⟨gb166, 2, none⟩ = some (.int .i64 0) := (blk_cell BK166.out 2).trans rfl; have hcz4_3 : w3.cell? ⟨gb166, 3, none⟩ = some (.slice none 0 0) := (blk_cell BK166.out 3).trans rfl; have hfz4_0 := blk_frozen BK166.out 0; have hfz4_1 := blk_frozen BK166.out 1; have hfz4_2 := blk_frozen BK166.out 2; have hfz4_3 := blk_frozen BK166.out 3))
    repeat (go_quiet (first | ((with_reducible refine gate_dst (N := 2) rfl ?_); refine box_event ?hg (N := 2) ?hd (cs := #[.int .i64 0, .int .i64 0, .int .i64 0, .slice none 0 0]) (t := 30) ?hr ?_; (case hd => rfl); (case hg => rfl); (case hr => first | (go_simp; done) | (go_simp; rfl)); intro gb166 hg w3 hbox hb; have n0_ := Aside0.mk (below_step (by repeat (first | (with_reducible first | exact HB.out | apply below_alloc | apply pw_below_drewN | apply below_drew1) | exact HB.out)) hb); have n1_ := Aside0.mk (hbox); have n2_ := Aside0.mk ((by rw [hg]; exact (below_size (by repeat (first | (with_reducible first | exact HB.out | apply below_alloc | apply pw_below_drewN | apply below_drew1) | exact HB.out))) : w.heap.size ≤ gb166)); have n3_ := Aside0.mk ((by rw [hg]; exact (below_size (by repeat (first | (with_reducible first | exact HB.out | apply below_alloc | apply pw_below_drewN | apply below_drew1) | exact HB.out))) : w.heap.size ≤ gb166)); clear HB; have HB := n0_; have BK166 := n1_; have GW166 := n2_; have GE166 := n3_; clear n0_ n1_ n2_ n3_; clear hb hbox hg; have hcz4_0 : w3.cell? ⟨gb166, 0, none⟩ = some (.int .i64 0) := (blk_cell BK166.out 0).trans rfl; have hcz4_1 : w3.cell? ⟨gb166, 1, none⟩ = some (.int .i64 0) := (blk_cell BK166.out 1).trans rfl; have hcz4_2 : w3.cell? ⟨gb166, 2, none⟩ = some (.int .i64 0) := (blk_cell BK166.out 2).trans rfl; have hcz4_3 : w3.cell? ⟨gb166, 3, none⟩ = some (.slice none 0 0) := (blk_cell BK166.out 3).trans rfl; have hfz4_0 := blk_frozen BK166.out 0; have hfz4_1 := blk_frozen BK166.out 1; have hfz4_2 := blk_frozen BK166.out 2; have hfz4_3 := blk_frozen BK166.out 3)); try go_wp2_with (first | ((with_reducible refine gate_dst (N := 2) rfl ?_); refine box_event ?hg (N := 2) ?hd (cs := #[.int .i64 0, .int .i64 0, .int .i64 0, .slice none 0 0]) (t := 30) ?hr ?_; (case hd => rfl); (case hg => rfl); (case hr => first | (go_simp; done) | (go_simp; rfl)); intro gb166 hg w3 hbox hb; have n0_ := Aside0.mk (below_step (by repeat (first | (with_reducible first | exact HB.out | apply below_alloc | apply pw_below_drewN | apply below_drew1) | exact HB.out)) hb); have n1_ := Aside0.mk (hbox); have n2_ := Aside0.mk ((by rw [hg]; exact (below_size (by repeat (first | (with_reducible first | exact HB.out | apply below_alloc | apply pw_below_drewN | apply below_drew1) | exact HB.out))) : w.heap.size ≤ gb166)); have n3_ := Aside0.mk ((by rw [hg]; exact (below_size (by repeat (first | (with_reducible first | exact HB.out | apply below_alloc | apply pw_below_drewN | apply below_drew1) | exact HB.out))) : w.heap.size ≤ gb166)); clear HB; have HB := n0_; have BK166 := n1_; have GW166 := n2_; have GE166 := n3_; clear n0_ n1_ n2_ n3_; clear hb hbox hg; have hcz4_0 : w3.cell? ⟨gb166, 0, none⟩ = some (.int .i64 0) := (blk_cell BK166.out 0).trans rfl; have hcz4_1 : w3.cell? ⟨gb166, 1, none⟩ = some (.int .i64 0) := (blk_cell BK166.out 1).trans rfl; have hcz4_2 : w3.cell? ⟨gb166, 2, none⟩ = some (.int .i64 0) := (blk_cell BK166.out 2).trans rfl; have hcz4_3 : w3.cell? ⟨gb166, 3, none⟩ = some (.slice none 0 0) := (blk_cell BK166.out 3).trans rfl; have hfz4_0 := blk_frozen BK166.out 0; have hfz4_1 := blk_frozen BK166.out 1; have hfz4_2 := blk_frozen BK166.out 2; have hfz4_3 := blk_frozen BK166.out 3)))
    refine bodyPost_ret (results_ctt rfl _ _ gb166 30 #[.int .i64 0, .int .i64 0, .int .i64 0, .slice none 0 0] (0, 0) _ rfl (by (with_reducible repeat (first | refine blk_drewN ?_ _ | refine blk_drew ?_ | refine blk_alloc ?_ _)); refine blk_put (cs := #[.int .i64 0, .int .i64 0, .int .i64 0, .slice none 0 0]) ?_ 3 _ rfl; (with_reducible repeat (first | refine blk_drewN ?_ _ | refine blk_drew ?_ | refine blk_alloc ?_ _)); refine blk_put (cs := #[.int .i64 0, .int .i64 0, .int .i64 0, .slice none 0 0]) ?_ 2 _ rfl; (with_reducible repeat (first | refine blk_drewN ?_ _ | refine blk_drew ?_ | refine blk_alloc ?_ _)); refine blk_put (cs := #[.int .i64 0, .int .i64 0, .int .i64 0, .slice none 0 0]) ?_ 1 _ rfl; (with_reducible repeat (first | refine blk_drewN ?_ _ | refine blk_drew ?_ | refine blk_alloc ?_ _)); refine blk_put (cs := #[.int .i64 0, .int .i64 0, .int .i64 0, .slice none 0 0]) ?_ 0 _ rfl; (with_reducible repeat (first | refine blk_drewN ?_ _ | refine blk_drew ?_ | refine blk_alloc ?_ _)); exact BK166.out) Try.underlying30 rfl (by kernel_rfl)) rfl ?_
    exact ⟨_, by first | rfl | (simp [errW_none, errW_some] <;> rfl) | (simp [*, errW_none, errW_some] <;> rfl), by first | exact Kd.R_nil _ _ _ _ _ | exact Kd.N_nil _ _ _ _ _ | exact Kd.V_nil _ _ _ _ _ | exact Kd.Q_nil _ _ _ _ _ | exact Kd.S_nil _ _ _ _ _, by repeat (first | (with_reducible first | exact HB.out | apply below_alloc | apply pw_below_drewN | apply below_drew1 | refine below_set ?_ GE166.out) | exact HB.out)⟩
  · rw [if_neg c2] at H
    have c2b0 : decide ((l0.length : Int) < 9) = false := decide_eq_false c2
    have c2b1 : decide (l0.length < 9) = false := decide_eq_false (by omega)
    clear c2
    by_cases c5 : 4 < (l0.length : Int)
    · rw [if_pos c5] at H
      have c5b0 : decide (4 < (l0.length : Int)) = true := decide_eq_true c5
      have c5b1 : decide (4 < l0.length) = true := decide_eq_true (by omega)
      clear c5
      by_cases c6 : 5 < (l0.length : Int)
      · rw [if_pos c6] at H
        have c6b0 : decide (5 < (l0.length : Int)) = true := decide_eq_true c6
        have c6b1 : decide (5 < l0.length) = true := decide_eq_true (by omega)
        clear c6
        by_cases c7 : 7 < (l0.length : Int)
        · rw [if_pos c7] at H
          have c7b0 : decide (7 < (l0.length : Int)) = true := decide_eq_true c7
          have c7b1 : decide (7 < l0.length) = true := decide_eq_true (by omega)
          clear c7
          replace H := Option.bind_eq_some_iff.mp H
          obtain ⟨⟨t170, t171⟩, A80, H⟩ := H
          replace H : (if t171 = true then (if 0 < (l0.length : Int) then (if (rd l0 0) = 0 then (if 1 < (l0.length : Int) then (if (rd l0 1) = 0 then (if 2 < (l0.length : Int) then (if (rd l0 2) = 1 then (if 3 < (l0.length : Int) then (if (rd l0 3) < 192 then (pes_Take.j0 k l0 (Go.bits .or .i64 (wrap64 ((wrap64 (rd l0 4)) * 256)) (wrap64 (rd l0 5))) t170 true) else (if (rd l0 3) > 239 then (pes_Take.j0 k l0 (Go.bits .or .i64 (wrap64 ((wrap64 (rd l0 4)) * 256)) (wrap64 (rd l0 5))) t170 true) else (if 6 < (l0.length : Int) then (if (rd l0 6) = 128 then (if 8 < (l0.length : Int) then (if (wrap64 (rd l0 8)) = t170 then (pes_Take.j0 k l0 (Go.bits .or .i64 (wrap64 ((wrap64 (rd l0 4)) * 256)) (wrap64 (rd l0 5))) t170 (decide ((Go.bits .or .i64 (wrap64 ((wrap64 (rd l0 4)) * 256)) (wrap64 (rd l0 5))) < (wrap64 (3 + t170))))) else (pes_Take.j0 k l0 (Go.bits .or .i64 (wrap64 ((wrap64 (rd l0 4)) * 256)) (wrap64 (rd l0 5))) t170 true)) else (none)) else (pes_Take.j0 k l0 (Go.bits .or .i64 (wrap64 ((wrap64 (rd l0 4)) * 256)) (wrap64 (rd l0 5))) t170 true)) else (none)))) else (none)) else (pes_Take.j0 k l0 (Go.bits .or .i64 (wrap64 ((wrap64 (rd l0 4)) * 256)) (wrap64 (rd l0 5))) t170 true)) else (none)) else (pes_Take.j0 k l0 (Go.bits .or .i64 (wrap64 ((wrap64 (rd l0 4)) * 256)) (wrap64 (rd l0 5))) t170 true)) else (none)) else (pes_Take.j0 k l0 (Go.bits .or .i64 (wrap64 ((wrap64 (rd l0 4)) * 256)) (wrap64 (rd l0 5))) t170 true)) else (none)) else (pes_Take.j0 k l0 (Go.bits .or .i64 (wrap64 ((wrap64 (rd l0 4)) * 256)) (wrap64 (rd l0 5))) t170 true)) = some (r1, r2, r3, r4, r5, r6) := H
          have A8 := Aside0.mk A80
          clear A80
          have HC9 := Aside0.mk H
          clear H
          go_enter Try.func22, Try.ntmps22
          go_upto_region 5 with (first | ((with_reducible refine gate_dst (N := 2) rfl ?_); refine box_event ?hg (N := 2) ?hd (cs := #[.int .i64 0, .int .i64 0, .int .i64 0, .slice none 0 0]) (t := 30) ?hr ?_; (case hd => rfl); (case hg => rfl); (case hr => first | (go_simp; done) | (go_simp; rfl)); intro gb166 hg w10 hbox hb; have n0_ := Aside0.mk (below_step (by repeat (first | (with_reducible first | exact HB.out | apply below_alloc | apply pw_below_drewN | apply below_drew1) | exact HB.out)) hb); have n1_ := Aside0.mk (hbox); have n2_ := Aside0.mk ((by rw [hg]; exact (below_size (by repeat (first | (with_reducible first | exact HB.out | apply below_alloc | apply pw_below_drewN | apply below_drew1) | exact HB.out))) : w.heap.size ≤ gb166)); have n3_ := Aside0.mk ((by rw [hg]; exact (below_size (by repeat (first | (with_reducible first | exact HB.out | apply below_alloc | apply pw_below_drewN | apply below_drew1) | exact HB.out))) : w.heap.size ≤ gb166)); clear HB; have HB := n0_; have BK166 := n1_; have GW166 := n2_; have GE166 := n3_; clear n0_ n1_ n2_ n3_; clear hb hbox hg; have p167 : 0 ≤ (4 : Int) := (by omega); have q167 : 4 < (l0.length : Int) := of_decide_eq_true (by first | (with_reducible assumption) | assumption); obtain ⟨ad167, e167, hx167_0⟩ := Kd.at_int HR0.out 4 p167 q167; cases e167; (try simp only [show (4 : Int).toNat = 4 from rfl, Nat.reduceMul, Nat.reduceEqDiff, Go.Addr.add, ↓reduceIte] at hx167_0); have qi167 : (4 < l0.length) = True := eq_true (by omega); (try rw [show ((4 : Int)).toNat = 4 from rfl] at hx167_0); replace hx167_0 := (HB.out.cell (World.block_lt_of_cell? w _ hx167_0)).trans hx167_0; replace p167 := eq_true p167; replace q167 := eq_true q167; have p168 : 0 ≤ (5 : Int) := (by omega); have q168 : 5 < (l0.length : Int) := of_decide_eq_true (by first | (with_reducible assumption) | assumption); obtain ⟨ad168, e168, hx168_0⟩ := Kd.at_int HR0.out 5 p168 q168; obtain rfl : ad167 = ad168 := (by injection e168); (try simp only [show (5 : Int).toNat = 5 from rfl, Nat.reduceMul, Nat.reduceEqDiff, Go.Addr.add, ↓reduceIte] at hx168_0); have qi168 : (5 < l0.length) = True := eq_true (by omega); (try rw [show ((5 : Int)).toNat = 5 from rfl] at hx168_0); replace hx168_0 := (HB.out.cell (World.block_lt_of_cell? w _ hx168_0)).trans hx168_0; replace p168 := eq_true p168; replace q168 := eq_true q168; have p169 : 0 ≤ (7 : Int) := (by omega); have q169 : 7 < (l0.length : Int) := of_decide_eq_true (by first | (with_reducible assumption) | assumption); obtain ⟨ad169, e169, hx169_0⟩ := Kd.at_int HR0.out 7 p169 q169; obtain rfl : ad167 = ad169 := (by injection e169); (try simp only [show (7 : Int).toNat = 7 from rfl, Nat.reduceMul, Nat.reduceEqDiff, Go.Addr.add, ↓reduceIte] at hx169_0); have qi169 : (7 < l0.length) = True := eq_true (by omega); (try rw [show ((7 : Int)).toNat = 7 from rfl] at hx169_0); replace hx169_0 := (HB.out.cell (World.block_lt_of_cell? w _ hx169_0)).trans hx169_0; replace p169 := eq_true p169; replace q169 := eq_true q169) | (go_at_call 36; (with_reducible refine (pes_stamped.calls (rd l0 7) t170 t171 _ A8.out).mono ?_); rintro e w' ⟨rfl, ⟨nd, rfl⟩⟩; (try first | exact ⟨rfl, _, World.drewN_drewN _ _ _⟩ | exact ⟨rfl, _, Eq.trans (World.drewN_drewN _ _ _) (congrArg (World.drewN _) (Nat.add_assoc _ _ _))⟩)))
          repeat (go_quiet (first | ((with_reducible refine gate_dst (N := 2) rfl ?_); refine box_event ?hg (N := 2) ?hd (cs := #[.int .i64 0, .int .i64 0, .int .i64 0, .slice none 0 0]) (t := 30) ?hr ?_; (case hd => rfl); (case hg => rfl); (case hr => first | (go_simp; done) | (go_simp; rfl)); intro gb166 hg w10 hbox hb; have n0_ := Aside0.mk (below_step (by repeat (first | (with_reducible first | exact HB.out | apply below_alloc | apply pw_below_drewN | apply below_drew1) | exact HB.out)) hb); have n1_ := Aside0.mk (hbox); have n2_ := Aside0.mk ((by rw [hg]; exact (below_size (by repeat (first | (with_reducible first | exact HB.out | apply below_alloc | apply pw_below_drewN | apply below_drew1) | exact HB.out))) : w.heap.size ≤ gb166)); have n3_ := Aside0.mk ((by rw [hg]; exact (below_size (by repeat (first | (with_reducible first | exact HB.out | apply below_alloc | apply pw_below_drewN | apply below_drew1) | exact HB.out))) : w.heap.size ≤ gb166)); clear HB; have HB := n0_; have BK166 := n1_; have GW166 := n2_; have GE166 := n3_; clear n0_ n1_ n2_ n3_; clear hb hbox hg; have p167 : 0 ≤ (4 : Int) := (by omega); have q167 : 4 < (l0.length : Int) := of_decide_eq_true (by first | (with_reducible assumption) | assumption); obtain ⟨ad167, e167, hx167_0⟩ := Kd.at_int HR0.out 4 p167 q167; cases e167; (try simp only [show (4 : Int).toNat = 4 from rfl, Nat.reduceMul, Nat.reduceEqDiff, Go.Addr.add, ↓reduceIte] at hx167_0); have qi167 : (4 < l0.length) = True := eq_true (by omega); (try rw [show ((4 : Int)).toNat = 4 from rfl] at hx167_0); replace hx167_0 := (HB.out.cell (World.block_lt_of_cell? w _ hx167_0)).trans hx167_0; replace p167 := eq_true p167; replace q167 := eq_true q167; have p168 : 0 ≤ (5 : Int) := (by omega); have q168 : 5 < (l0.length : Int) := of_decide_eq_true (by first | (with_reducible assumption) | assumption); obtain ⟨ad168, e168, hx168_0⟩ := Kd.at_int HR0.out 5 p168 q168; obtain rfl : ad167 = ad168 := (by injection e168); (try simp only [show (5 : Int).toNat = 5 from rfl, Nat.reduceMul, Nat.reduceEqDiff, Go.Addr.add, ↓reduceIte] at hx168_0); have qi168 : (5 < l0.length) = True := eq_true (by omega); (try rw [show ((5 : Int)).toNat = 5 from rfl] at hx168_0); replace hx168_0 := (HB.out.cell (World.block_lt_of_cell? w _ hx168_0)).trans hx168_0; replace p168 := eq_true p168; replace q168 := eq_true q168; have p169 : 0 ≤ (7 : Int) := (by omega); have q169 : 7 < (l0.length : Int) := of_decide_eq_true (by first | (with_reducible assumption) | assumption); obtain ⟨ad169, e169, hx169_0⟩ := Kd.at_int HR0.out 7 p169 q169; obtain rfl : ad167 = ad169 := (by injection e169); (try simp only [show (7 : Int).toNat = 7 from rfl, Nat.reduceMul, Nat.reduceEqDiff, Go.Addr.add, ↓reduceIte] at hx169_0); have qi169 : (7 < l0.length) = True := eq_true (by omega); (try rw [show ((7 : Int)).toNat = 7 from rfl] at hx169_0); replace hx169_0 := (HB.out.cell (World.block_lt_of_cell? w _ hx169_0)).trans hx169_0; replace p169 := eq_true p169; replace q169 := eq_true q169) | (go_at_call 36; (with_reducible refine (pes_stamped.calls (rd l0 7) t170 t171 _ A8.out).mono ?_); rintro e w' ⟨rfl, ⟨nd, rfl⟩⟩; (try first | exact ⟨rfl, _, World.drewN_drewN _ _ _⟩ | exact ⟨rfl, _, Eq.trans (World.drewN_drewN _ _ _) (congrArg (World.drewN _) (Nat.add_assoc _ _ _))⟩))); go_upto_region 5 with (first | ((with_reducible refine gate_dst (N := 2) rfl ?_); refine box_event ?hg (N := 2) ?hd (cs := #[.int .i64 0, .int .i64 0, .int .i64 0, .slice none 0 0]) (t := 30) ?hr ?_; (case hd => rfl); (case hg => rfl); (case hr => first | (go_simp; done) | (go_simp; rfl)); intro gb166 hg w10 hbox hb; have n0_ := Aside0.mk (below_step (by repeat (first | (with_reducible first | exact HB.out | apply below_alloc | apply pw_below_drewN | apply below_drew1) | exact HB.out)) hb); have n1_ := Aside0.mk (hbox); have n2_ := Aside0.mk ((by rw [hg]; exact (below_size (by repeat (first | (with_reducible first | exact HB.out | apply below_alloc | apply pw_below_drewN | apply below_drew1) | exact HB.out))) : w.heap.size ≤ gb166)); have n3_ := Aside0.mk ((by rw [hg]; exact (below_size (by repeat (first | (with_reducible first | exact HB.out | apply below_alloc | apply pw_below_drewN | apply below_drew1) | exact HB.out))) : w.heap.size ≤ gb166)); clear HB; have HB := n0_; have BK166 := n1_; have GW166 := n2_; have GE166 := n3_; clear n0_ n1_ n2_ n3_; clear hb hbox hg; have p167 : 0 ≤ (4 : Int) := (by omega); have q167 : 4 < (l0.length : Int) := of_decide_eq_true (by first | (with_reducible assumption) | assumption); obtain ⟨ad167, e167, hx167_0⟩ := Kd.at_int HR0.out 4 p167 q167; cases e167; (try simp only [show (4 : Int).toNat = 4 from rfl, Nat.reduceMul, Nat.reduceEqDiff, Go.Addr.add, ↓reduceIte] at hx167_0); have qi167 : (4 < l0.length) = True := eq_true (by omega); (try rw [show ((4 : Int)).toNat = 4 from rfl] at hx167_0); replace hx167_0 := (HB.out.cell (World.block_lt_of_cell? w _ hx167_0)).trans hx167_0; replace p167 := eq_true p167; replace q167 := eq_true q167; have p168 : 0 ≤ (5 : Int) := (by omega); have q168 : 5 < (l0.length : Int) := of_decide_eq_true (by first | (with_reducible assumption) | assumption); obtain ⟨ad168, e168, hx168_0⟩ := Kd.at_int HR0.out 5 p168 q168; obtain rfl : ad167 = ad168 := (by injection e168); (try simp only [show (5 : Int).toNat = 5 from rfl, Nat.reduceMul, Nat.reduceEqDiff, Go.Addr.add, ↓reduceIte] at hx168_0); have qi168 : (5 < l0.length) = True := eq_true (by omega); (try rw [show ((5 : Int)).toNat = 5 from rfl] at hx168_0); replace hx168_0 := (HB.out.cell (World.block_lt_of_cell? w _ hx168_0)).trans hx168_0; replace p168 := eq_true p168; replace q168 := eq_true q168; have p169 : 0 ≤ (7 : Int) := (by omega); have q169 : 7 < (l0.length : Int) := of_decide_eq_true (by first | (with_reducible assumption) | assumption); obtain ⟨ad169, e169, hx169_0⟩ := Kd.at_int HR0.out 7 p169 q169; obtain rfl : ad167 = ad169 := (by injection e169); (try simp only [show (7 : Int).toNat = 7 from rfl, Nat.reduceMul, Nat.reduceEqDiff, Go.Addr.add, ↓reduceIte] at hx169_0); have qi169 : (7 < l0.length) = True := eq_true (by omega); (try rw [show ((7 : Int)).toNat = 7 from rfl] at hx169_0); replace hx169_0 := (HB.out.cell (World.block_lt_of_cell? w _ hx169_0)).trans hx169_0; replace p169 := eq_true p169; replace q169 := eq_true q169) | (go_at_call 36; (with_reducible refine (pes_stamped.calls (rd l0 7) t170 t171 _ A8.out).mono ?_); rintro e w' ⟨rfl, ⟨nd, rfl⟩⟩; (try first | exact ⟨rfl, _, World.drewN_drewN _ _ _⟩ | exact ⟨rfl, _, Eq.trans (World.drewN_drewN _ _ _) (congrArg (World.drewN _) (Nat.add_assoc _ _ _))⟩))))
          (try simp only [Act.put, List.setIfInBounds_toArray, List.set_cons_zero, List.set_cons_succ])
          go_cut [84] (fun v84 wc => ∃ (kq : Nat) (x84_8 : Bool), v84 = .bool x84_8 ∧ Aside0 (pes_Take.j0 kq l0 (Go.bits .or .i64 (wrap64 ((wrap64 (rd l0 4)) * 256)) (wrap64 (rd l0 5))) t170 x84_8 = some (r1, r2, r3, r4, r5, r6)) ∧ Aside0 (kq ≤ k) ∧ Aside0 (wc.heap[gb166]? = some (.cells #[.int .i64 0, .int .i64 0, .int .i64 0, (.slice none 0 0)] 30 (0, 0))) ∧ Aside0 (Below w.heap.size w wc))
          case first =>
            have H := HC9.out
            clear HC9
            by_cases c11 : t171 = true
            · subst c11
              have H1 : (if 0 < (l0.length : Int) then (if (rd l0 0) = 0 then (if 1 < (l0.length : Int) then (if (rd l0 1) = 0 then (if 2 < (l0.length : Int) then (if (rd l0 2) = 1 then (if 3 < (l0.length : Int) then (if (rd l0 3) < 192 then (pes_Take.j0 k l0 (Go.bits .or .i64 (wrap64 ((wrap64 (rd l0 4)) * 256)) (wrap64 (rd l0 5))) t170 true) else (if (rd l0 3) > 239 then (pes_Take.j0 k l0 (Go.bits .or .i64 (wrap64 ((wrap64 (rd l0 4)) * 256)) (wrap64 (rd l0 5))) t170 true) else (if 6 < (l0.length : Int) then (if (rd l0 6) = 128 then (if 8 < (l0.length : Int) then (if (wrap64 (rd l0 8)) = t170 then (pes_Take.j0 k l0 (Go.bits .or .i64 (wrap64 ((wrap64 (rd l0 4)) * 256)) (wrap64 (rd l0 5))) t170 (decide ((Go.bits .or .i64 (wrap64 ((wrap64 (rd l0 4)) * 256)) (wrap64 (rd l0 5))) < (wrap64 (3 + t170))))) else (pes_Take.j0 k l0 (Go.bits .or .i64 (wrap64 ((wrap64 (rd l0 4)) * 256)) (wrap64 (rd l0 5))) t170 true)) else (none)) else (pes_Take.j0 k l0 (Go.bits .or .i64 (wrap64 ((wrap64 (rd l0 4)) * 256)) (wrap64 (rd l0 5))) t170 true)) else (none)))) else (none)) else (pes_Take.j0 k l0 (Go.bits .or .i64 (wrap64 ((wrap64 (rd l0 4)) * 256)) (wrap64 (rd l0 5))) t170 true)) else (none)) else (pes_Take.j0 k l0 (Go.bits .or .i64 (wrap64 ((wrap64 (rd l0 4)) * 256)) (wrap64 (rd l0 5))) t170 true)) else (none)) else (pes_Take.j0 k l0 (Go.bits .or .i64 (wrap64 ((wrap64 (rd l0 4)) * 256)) (wrap64 (rd l0 5))) t170 true)) else (none)) = some (r1, r2, r3, r4, r5, r6) := by rw [if_pos rfl] at H; exact H
              clear H
              have H := H1
              clear H1
              by_cases c12 : 0 < (l0.length : Int)
              · rw [if_pos c12] at H
                have c12b0 : decide (0 < (l0.length : Int)) = true := decide_eq_true c12
                have c12b1 : decide (0 < l0.length) = true := decide_eq_true (by omega)
                clear c12
                (first | rw [c12b0] | (simp only [i64_w, i32_w]; rw [c12b0]) | skip)
                by_cases c13 : (rd l0 0) = 0
                · rw [if_pos c13] at H
                  have c13b0 : ((rd l0 0) == 0) = true := beq_iff_eq.mpr c13
                  have c13b1 : ((rd l0 0) != 0) = false := bne_eq_false_iff_eq.mpr c13
                  clear c13
                  by_cases c14 : 1 < (l0.length : Int)
                  · rw [if_pos c14] at H
                    have c14b0 : decide (1 < (l0.length : Int)) = true := decide_eq_true c14
                    have c14b1 : decide (1 < l0.length) = true := decide_eq_true (by omega)
                    clear c14
                    by_cases c15 : (rd l0 1) = 0
                    · rw [if_pos c15] at H
                      have c15b0 : ((rd l0 1) == 0) = true := beq_iff_eq.mpr c15
                      have c15b1 : ((rd l0 1) != 0) = false := bne_eq_false_iff_eq.mpr c15
                      clear c15
                      by_cases c16 : 2 < (l0.length : Int)
                      · rw [if_pos c16] at H
                        have c16b0 : decide (2 < (l0.length : Int)) = true := decide_eq_true c16
                        have c16b1 : decide (2 < l0.length) = true := decide_eq_true (by omega)
                        clear c16
                        by_cases c17 : (rd l0 2) = 1
                        · rw [if_pos c17] at H
                          have c17b0 : ((rd l0 2) == 1) = true := beq_iff_eq.mpr c17
                          have c17b1 : ((rd l0 2) != 1) = false := bne_eq_false_iff_eq.mpr c17
                          clear c17
                          by_cases c18 : 3 < (l0.length : Int)
                          · rw [if_pos c18] at H
                            have c18b0 : decide (3 < (l0.length : Int)) = true := decide_eq_true c18
                            have c18b1 : decide (3 < l0.length) = true := decide_eq_true (by omega)
                            clear c18
                            by_cases c19 : (rd l0 3) < 192
                            · rw [if_pos c19] at H
                              have c19b0 : decide ((rd l0 3) < 192) = true := decide_eq_true c19
                              clear c19
                              have H' := Aside0.mk H
                              clear H
                              have p172 : 0 ≤ (0 : Int) := (by omega)
                              have q172 : 0 < (l0.length : Int) := of_decide_eq_true (by first | (with_reducible assumption) | assumption)
                              obtain ⟨ad172, e172, hx172_0⟩ := Kd.at_int HR0.out 0 p172 q172
                              obtain rfl : ad167 = ad172 := (by injection e172)
                              have qi172 : (0 < l0.length) = True := eq_true (by omega)
                              (try rw [show ((0 : Int)).toNat = 0 from rfl] at hx172_0)
                              (try rw [Addr.add_zero'] at hx172_0)
                              replace hx172_0 := (HB.out.cell (World.block_lt_of_cell? w _ hx172_0)).trans hx172_0
                              replace p172 := eq_true p172
                              replace q172 := eq_true q172
                              have p173 : 0 ≤ (1 : Int) := (by omega)
                              have q173 : 1 < (l0.length : Int) := of_decide_eq_true (by first | (with_reducible assumption) | assumption)
                              obtain ⟨ad173, e173, hx173_0⟩ := Kd.at_int HR0.out 1 p173 q173
                              obtain rfl : ad167 = ad173 := (by injection e173)
                              (try simp only [show (1 : Int).toNat = 1 from rfl, Nat.reduceMul, Nat.reduceEqDiff, Go.Addr.add, ↓reduceIte] at hx173_0)
                              have qi173 : (1 < l0.length) = True := eq_true (by omega)
                              (try rw [show ((1 : Int)).toNat = 1 from rfl] at hx173_0)
                              replace hx173_0 := (HB.out.cell (World.block_lt_of_cell? w _ hx173_0)).trans hx173_0
                              replace p173 := eq_true p173
                              replace q173 := eq_true q173
                              have p174 : 0 ≤ (2 : Int) := (by omega)
                              have q174 : 2 < (l0.length : Int) := of_decide_eq_true (by first | (with_reducible assumption) | assumption)
                              obtain ⟨ad174, e174, hx174_0⟩ := Kd.at_int HR0.out 2 p174 q174
                              obtain rfl : ad167 = ad174 := (by injection e174)
                              (try simp only [show (2 : Int).toNat = 2 from rfl, Nat.reduceMul, Nat.reduceEqDiff, Go.Addr.add, ↓reduceIte] at hx174_0)
                              have qi174 : (2 < l0.length) = True := eq_true (by omega)
                              (try rw [show ((2 : Int)).toNat = 2 from rfl] at hx174_0)
                              replace hx174_0 := (HB.out.cell (World.block_lt_of_cell? w _ hx174_0)).trans hx174_0
                              replace p174 := eq_true p174
                              replace q174 := eq_true q174
                              have p175 : 0 ≤ (3 : Int) := (by omega)
                              have q175 : 3 < (l0.length : Int) := of_decide_eq_true (by first | (with_reducible assumption) | assumption)
                              obtain ⟨ad175, e175, hx175_0⟩ := Kd.at_int HR0.out 3 p175 q175
                              obtain rfl : ad167 = ad175 := (by injection e175)
                              (try simp only [show (3 : Int).toNat = 3 from rfl, Nat.reduceMul, Nat.reduceEqDiff, Go.Addr.add, ↓reduceIte] at hx175_0)
                              have qi175 : (3 < l0.length) = True := eq_true (by omega)
                              (try rw [show ((3 : Int)).toNat = 3 from rfl] at hx175_0)
                              replace hx175_0 := (HB.out.cell (World.block_lt_of_cell? w _ hx175_0)).trans hx175_0
                              replace p175 := eq_true p175
                              replace q175 := eq_true q175
                              go_wp2
                              repeat (go_quiet (fail); try go_wp2)
                              go_meet
                              case rel => exact ⟨_, (true), (by first | rfl | (simp; done) | (simp [*]; done)), H', ⟨by first | omega | exact Nat.le_refl _⟩, ⟨by (with_reducible repeat (first | refine blk_drewN ?_ _ | refine blk_drew ?_ | refine blk_alloc ?_ _)); exact BK166.out⟩, ⟨by repeat (first | (with_reducible first | exact HB.out | apply below_alloc | apply pw_below_drewN | apply below_drew1 | refine below_set ?_ GE166.out) | exact HB.out)⟩⟩
                            · rw [if_neg c19] at H
                              have c19b0 : decide ((rd l0 3) < 192) = false := decide_eq_false c19
                              clear c19
                              by_cases c20 : (rd l0 3) > 239
                              · rw [if_pos c20] at H
                                have c20b0 : decide (239 < (rd l0 3)) = true := decide_eq_true c20
                                clear c20
                                have H' := Aside0.mk H
                                clear H
                                have p172 : 0 ≤ (0 : Int) := (by omega)
                                have q172 : 0 < (l0.length : Int) := of_decide_eq_true (by first | (with_reducible assumption) | assumption)
                                obtain ⟨ad172, e172, hx172_0⟩ := Kd.at_int HR0.out 0 p172 q172
                                obtain rfl : ad167 = ad172 := (by injection e172)
                                have qi172 : (0 < l0.length) = True := eq_true (by omega)
                                (try rw [show ((0 : Int)).toNat = 0 from rfl] at hx172_0)
                                (try rw [Addr.add_zero'] at hx172_0)
                                replace hx172_0 := (HB.out.cell (World.block_lt_of_cell? w _ hx172_0)).trans hx172_0
                                replace p172 := eq_true p172
                                replace q172 := eq_true q172
                                have p173 : 0 ≤ (1 : Int) := (by omega)
                                have q173 : 1 < (l0.length : Int) := of_decide_eq_true (by first | (with_reducible assumption) | assumption)
                                obtain ⟨ad173, e173, hx173_0⟩ := Kd.at_int HR0.out 1 p173 q173
                                obtain rfl : ad167 = ad173 := (by injection e173)
                                (try simp only [show (1 : Int).toNat = 1 from rfl, Nat.reduceMul, Nat.reduceEqDiff, Go.Addr.add, ↓reduceIte] at hx173_0)
                                have qi173 : (1 < l0.length) = True := eq_true (by omega)
                                (try rw [show ((1 : Int)).toNat = 1 from rfl] at hx173_0)
                                replace hx173_0 := (HB.out.cell (World.block_lt_of_cell? w _ hx173_0)).trans hx173_0
                                replace p173 := eq_true p173
                                replace q173 := eq_true q173
                                have p174 : 0 ≤ (2 : Int) := (by omega)
                                have q174 : 2 < (l0.length : Int) := of_decide_eq_true (by first | (with_reducible assumption) | assumption)
                                obtain ⟨ad174, e174, hx174_0⟩ := Kd.at_int HR0.out 2 p174 q174
                                obtain rfl : ad167 = ad174 := (by injection e174)
                                (try simp only [show (2 : Int).toNat = 2 from rfl, Nat.reduceMul, Nat.reduceEqDiff, Go.Addr.add, ↓reduceIte] at hx174_0)
                                have qi174 : (2 < l0.length) = True := eq_true (by omega)
                                (try rw [show ((2 : Int)).toNat = 2 from rfl] at hx174_0)
                                replace hx174_0 := (HB.out.cell (World.block_lt_of_cell? w _ hx174_0)).trans hx174_0
                                replace p174 := eq_true p174
                                replace q174 := eq_true q174
                                have p175 : 0 ≤ (3 : Int) := (by omega)
                                have q175 : 3 < (l0.length : Int) := of_decide_eq_true (by first | (with_reducible assumption) | assumption)
                                obtain ⟨ad175, e175, hx175_0⟩ := Kd.at_int HR0.out 3 p175 q175
                                obtain rfl : ad167 = ad175 := (by injection e175)
                                (try simp only [show (3 : Int).toNat = 3 from rfl, Nat.reduceMul, Nat.reduceEqDiff, Go.Addr.add, ↓reduceIte] at hx175_0)
                                have qi175 : (3 < l0.length) = True := eq_true (by omega)
                                (try rw [show ((3 : Int)).toNat = 3 from rfl] at hx175_0)
                                replace hx175_0 := (HB.out.cell (World.block_lt_of_cell? w _ hx175_0)).trans hx175_0
                                replace p175 := eq_true p175
                                replace q175 := eq_true q175
                                have p176 : 0 ≤ (3 : Int) := (by omega)
                                have q176 : 3 < (l0.length : Int) := of_decide_eq_true (by first | (with_reducible assumption) | assumption)
                                obtain ⟨ad176, e176, hx176_0⟩ := Kd.at_int HR0.out 3 p176 q176
                                obtain rfl : ad167 = ad176 := (by injection e176)
                                (try simp only [show (3 : Int).toNat = 3 from rfl, Nat.reduceMul, Nat.reduceEqDiff, Go.Addr.add, ↓reduceIte] at hx176_0)
                                have qi176 : (3 < l0.length) = True := eq_true (by omega)
                                (try rw [show ((3 : Int)).toNat = 3 from rfl] at hx176_0)
                                replace hx176_0 := (HB.out.cell (World.block_lt_of_cell? w _ hx176_0)).trans hx176_0
                                replace p176 := eq_true p176
                                replace q176 := eq_true q176
                                go_wp2
                                repeat (go_quiet (fail); try go_wp2)
                                go_meet
                                case rel => exact ⟨_, (true), (by first | rfl | (simp; done) | (simp [*]; done)), H', ⟨by first | omega | exact Nat.le_refl _⟩, ⟨by (with_reducible repeat (first | refine blk_drewN ?_ _ | refine blk_drew ?_ | refine blk_alloc ?_ _)); exact BK166.out⟩, ⟨by repeat (first | (with_reducible first | exact HB.out | apply below_alloc | apply pw_below_drewN | apply below_drew1 | refine below_set ?_ GE166.out) | exact HB.out)⟩⟩
                              · rw [if_neg c20] at H
                                have c20b0 : decide (239 < (rd l0 3)) = false := decide_eq_false c20
                                clear c20
                                by_cases c21 : 6 < (l0.length : Int)
                                · rw [if_pos c21] at H
                                  have c21b0 : decide (6 < (l0.length : Int)) = true := decide_eq_true c21
                                  have c21b1 : decide (6 < l0.length) = true := decide_eq_true (by omega)
                                  clear c21
                                  by_cases c22 : (rd l0 6) = 128
                                  · rw [if_pos c22] at H
                                    have c22b0 : ((rd l0 6) == 128) = true := beq_iff_eq.mpr c22
                                    have c22b1 : ((rd l0 6) != 128) = false := bne_eq_false_iff_eq.mpr c22
                                    clear c22
                                    by_cases c23 : 8 < (l0.length : Int)
                                    · rw [if_pos c23] at H
                                      have c23b0 : decide (8 < (l0.length : Int)) = true := decide_eq_true c23
                                      have c23b1 : decide (8 < l0.length) = true := decide_eq_true (by omega)
                                      clear c23
                                      by_cases c24 : (wrap64 (rd l0 8)) = t170
                                      · rw [if_pos c24] at H
                                        have c24b0 : ((wrap64 (rd l0 8)) == t170) = true := beq_iff_eq.mpr c24
                                        have c24b1 : ((wrap64 (rd l0 8)) != t170) = false := bne_eq_false_iff_eq.mpr c24
                                        clear c24
                                        have H' := Aside0.mk H
                                        clear H
                                        have p172 : 0 ≤ (0 : Int) := (by omega)
                                        have q172 : 0 < (l0.length : Int) := of_decide_eq_true (by first | (with_reducible assumption) | assumption)
                                        obtain ⟨ad172, e172, hx172_0⟩ := Kd.at_int HR0.out 0 p172 q172
                                        obtain rfl : ad167 = ad172 := (by injection e172)
                                        have qi172 : (0 < l0.length) = True := eq_true (by omega)
                                        (try rw [show ((0 : Int)).toNat = 0 from rfl] at hx172_0)
                                        (try rw [Addr.add_zero'] at hx172_0)
                                        replace hx172_0 := (HB.out.cell (World.block_lt_of_cell? w _ hx172_0)).trans hx172_0
                                        replace p172 := eq_true p172
                                        replace q172 := eq_true q172
                                        have p173 : 0 ≤ (1 : Int) := (by omega)
                                        have q173 : 1 < (l0.length : Int) := of_decide_eq_true (by first | (with_reducible assumption) | assumption)
                                        obtain ⟨ad173, e173, hx173_0⟩ := Kd.at_int HR0.out 1 p173 q173
                                        obtain rfl : ad167 = ad173 := (by injection e173)
                                        (try simp only [show (1 : Int).toNat = 1 from rfl, Nat.reduceMul, Nat.reduceEqDiff, Go.Addr.add, ↓reduceIte] at hx173_0)
                                        have qi173 : (1 < l0.length) = True := eq_true (by omega)
                                        (try rw [show ((1 : Int)).toNat = 1 from rfl] at hx173_0)
                                        replace hx173_0 := (HB.out.cell (World.block_lt_of_cell? w _ hx173_0)).trans hx173_0
                                        replace p173 := eq_true p173
                                        replace q173 := eq_true q173
                                        have p174 : 0 ≤ (2 : Int) := (by omega)
                                        have q174 : 2 < (l0.length : Int) := of_decide_eq_true (by first | (with_reducible assumption) | assumption)
                                        obtain ⟨ad174, e174, hx174_0⟩ := Kd.at_int HR0.out 2 p174 q174
                                        obtain rfl : ad167 = ad174 := (by injection e174)
                                        (try simp only [show (2 : Int).toNat = 2 from rfl, Nat.reduceMul, Nat.reduceEqDiff, Go.Addr.add, ↓reduceIte] at hx174_0)
                                        have qi174 : (2 < l0.length) = True := eq_true (by omega)
                                        (try rw [show ((2 : Int)).toNat = 2 from rfl] at hx174_0)
                                        replace hx174_0 := (HB.out.cell (World.block_lt_of_cell? w _ hx174_0)).trans hx174_0
                                        replace p174 := eq_true p174
                                        replace q174 := eq_true q174
                                        have p175 : 0 ≤ (3 : Int) := (by omega)
                                        have q175 : 3 < (l0.length : Int) := of_decide_eq_true (by first | (with_reducible assumption) | assumption)
                                        obtain ⟨ad175, e175, hx175_0⟩ := Kd.at_int HR0.out 3 p175 q175
                                        obtain rfl : ad167 = ad175 := (by injection e175)
                                        (try simp only [show (3 : Int).toNat = 3 from rfl, Nat.reduceMul, Nat.reduceEqDiff, Go.Addr.add, ↓reduceIte] at hx175_0)
                                        have qi175 : (3 < l0.length) = True := eq_true (by omega)
                                        (try rw [show ((3 : Int)).toNat = 3 from rfl] at hx175_0)
                                        replace hx175_0 := (HB.out.cell (World.block_lt_of_cell? w _ hx175_0)).trans hx175_0
                                        replace p175 := eq_true p175
                                        replace q175 := eq_true q175
                                        have p176 : 0 ≤ (3 : Int) := (by omega)
                                        have q176 : 3 < (l0.length : Int) := of_decide_eq_true (by first | (with_reducible assumption) | assumption)
                                        obtain ⟨ad176, e176, hx176_0⟩ := Kd.at_int HR0.out 3 p176 q176
                                        obtain rfl : ad167 = ad176 := (by injection e176)
                                        (try simp only [show (3 : Int).toNat = 3 from rfl, Nat.reduceMul, Nat.reduceEqDiff, Go.Addr.add, ↓reduceIte] at hx176_0)
                                        have qi176 : (3 < l0.length) = True := eq_true (by omega)
                                        (try rw [show ((3 : Int)).toNat = 3 from rfl] at hx176_0)
                                        replace hx176_0 := (HB.out.cell (World.block_lt_of_cell? w _ hx176_0)).trans hx176_0
                                        replace p176 := eq_true p176
                                        replace q176 := eq_true q176
                                        have p177 : 0 ≤ (6 : Int) := (by omega)
                                        have q177 : 6 < (l0.length : Int) := of_decide_eq_true (by first | (with_reducible assumption) | assumption)
                                        obtain ⟨ad177, e177, hx177_0⟩ := Kd.at_int HR0.out 6 p177 q177
                                        obtain rfl : ad167 = ad177 := (by injection e177)
                                        (try simp only [show (6 : Int).toNat = 6 from rfl, Nat.reduceMul, Nat.reduceEqDiff, Go.Addr.add, ↓reduceIte] at hx177_0)
                                        have qi177 : (6 < l0.length) = True := eq_true (by omega)
                                        (try rw [show ((6 : Int)).toNat = 6 from rfl] at hx177_0)
                                        replace hx177_0 := (HB.out.cell (World.block_lt_of_cell? w _ hx177_0)).trans hx177_0
                                        replace p177 := eq_true p177
                                        replace q177 := eq_true q177
                                        have p178 : 0 ≤ (8 : Int) := (by omega)
                                        have q178 : 8 < (l0.length : Int) := of_decide_eq_true (by first | (with_reducible assumption) | assumption)
                                        obtain ⟨ad178, e178, hx178_0⟩ := Kd.at_int HR0.out 8 p178 q178
                                        obtain rfl : ad167 = ad178 := (by injection e178)
                                        (try simp only [show (8 : Int).toNat = 8 from rfl, Nat.reduceMul, Nat.reduceEqDiff, Go.Addr.add, ↓reduceIte] at hx178_0)
                                        have qi178 : (8 < l0.length) = True := eq_true (by omega)
                                        (try rw [show ((8 : Int)).toNat = 8 from rfl] at hx178_0)
                                        replace hx178_0 := (HB.out.cell (World.block_lt_of_cell? w _ hx178_0)).trans hx178_0
                                        replace p178 := eq_true p178
                                        replace q178 := eq_true q178
                                        go_wp2
                                        repeat (go_quiet (fail); try go_wp2)
                                        go_meet
                                        case rel => exact ⟨_, (decide ((Go.bits .or .i64 (wrap64 ((wrap64 (rd l0 4)) * 256)) (wrap64 (rd l0 5))) < (wrap64 (3 + t170)))), (by first | rfl | (simp; done) | (simp [*]; done)), H', ⟨by first | omega | exact Nat.le_refl _⟩, ⟨by (with_reducible repeat (first | refine blk_drewN ?_ _ | refine blk_drew ?_ | refine blk_alloc ?_ _)); exact BK166.out⟩, ⟨by repeat (first | (with_reducible first | exact HB.out | apply below_alloc | apply pw_below_drewN | apply below_drew1 | refine below_set ?_ GE166.out) | exact HB.out)⟩⟩
                                      · rw [if_neg c24] at H
                                        have c24b0 : ((wrap64 (rd l0 8)) == t170) = false := beq_eq_false_iff_ne.mpr c24
                                        have c24b1 : ((wrap64 (rd l0 8)) != t170) = true := bne_iff_ne.mpr c24
                                        have H' := Aside0.mk H
                                        clear H
                                        have p172 : 0 ≤ (0 : Int) := (by omega)
                                        have q172 : 0 < (l0.length : Int) := of_decide_eq_true (by first | (with_reducible assumption) | assumption)
                                        obtain ⟨ad172, e172, hx172_0⟩ := Kd.at_int HR0.out 0 p172 q172
                                        obtain rfl : ad167 = ad172 := (by injection e172)
                                        have qi172 : (0 < l0.length) = True := eq_true (by omega)
                                        (try rw [show ((0 : Int)).toNat = 0 from rfl] at hx172_0)
                                        (try rw [Addr.add_zero'] at hx172_0)
                                        replace hx172_0 := (HB.out.cell (World.block_lt_of_cell? w _ hx172_0)).trans hx172_0
                                        replace p172 := eq_true p172
                                        replace q172 := eq_true q172
                                        have p173 : 0 ≤ (1 : Int) := (by omega)
                                        have q173 : 1 < (l0.length : Int) := of_decide_eq_true (by first | (with_reducible assumption) | assumption)
                                        obtain ⟨ad173, e173, hx173_0⟩ := Kd.at_int HR0.out 1 p173 q173
                                        obtain rfl : ad167 = ad173 := (by injection e173)
                                        (try simp only [show (1 : Int).toNat = 1 from rfl, Nat.reduceMul, Nat.reduceEqDiff, Go.Addr.add, ↓reduceIte] at hx173_0)
                                        have qi173 : (1 < l0.length) = True := eq_true (by omega)
                                        (try rw [show ((1 : Int)).toNat = 1 from rfl] at hx173_0)
                                        replace hx173_0 := (HB.out.cell (World.block_lt_of_cell? w _ hx173_0)).trans hx173_0
                                        replace p173 := eq_true p173
                                        replace q173 := eq_true q173
                                        have p174 : 0 ≤ (2 : Int) := (by omega)
                                        have q174 : 2 < (l0.length : Int) := of_decide_eq_true (by first | (with_reducible assumption) | assumption)
                                        obtain ⟨ad174, e174, hx174_0⟩ := Kd.at_int HR0.out 2 p174 q174
                                        obtain rfl : ad167 = ad174 := (by injection e174)
                                        (try simp only [show (2 : Int).toNat = 2 from rfl, Nat.reduceMul, Nat.reduceEqDiff, Go.Addr.add, ↓reduceIte] at hx174_0)
                                        have qi174 : (2 < l0.length) = True := eq_true (by omega)
                                        (try rw [show ((2 : Int)).toNat = 2 from rfl] at hx174_0)
                                        replace hx174_0 := (HB.out.cell (World.block_lt_of_cell? w _ hx174_0)).trans hx174_0
                                        replace p174 := eq_true p174
                                        replace q174 := eq_true q174
                                        have p175 : 0 ≤ (3 : Int) := (by omega)
                                        have q175 : 3 < (l0.length : Int) := of_decide_eq_true (by first | (with_reducible assumption) | assumption)
                                        obtain ⟨ad175, e175, hx175_0⟩ := Kd.at_int HR0.out 3 p175 q175
                                        obtain rfl : ad167 = ad175 := (by injection e175)
                                        (try simp only [show (3 : Int).toNat = 3 from rfl, Nat.reduceMul, Nat.reduceEqDiff, Go.Addr.add, ↓reduceIte] at hx175_0)
                                        have qi175 : (3 < l0.length) = True := eq_true (by omega)
                                        (try rw [show ((3 : Int)).toNat = 3 from rfl] at hx175_0)
                                        replace hx175_0 := (HB.out.cell (World.block_lt_of_cell? w _ hx175_0)).trans hx175_0
                                        replace p175 := eq_true p175
                                        replace q175 := eq_true q175
                                        have p176 : 0 ≤ (3 : Int) := (by omega)
                                        have q176 : 3 < (l0.length : Int) := of_decide_eq_true (by first | (with_reducible assumption) | assumption)
                                        obtain ⟨ad176, e176, hx176_0⟩ := Kd.at_int HR0.out 3 p176 q176
                                        obtain rfl : ad167 = ad176 := (by injection e176)
                                        (try simp only [show (3 : Int).toNat = 3 from rfl, Nat.reduceMul, Nat.reduceEqDiff, Go.Addr.add, ↓reduceIte] at hx176_0)
                                        have qi176 : (3 < l0.length) = True := eq_true (by omega)
                                        (try rw [show ((3 : Int)).toNat = 3 from rfl] at hx176_0)
                                        replace hx176_0 := (HB.out.cell (World.block_lt_of_cell? w _ hx176_0)).trans hx176_0
                                        replace p176 := eq_true p176
                                        replace q176 := eq_true q176
                                        have p177 : 0 ≤ (6 : Int) := (by omega)
                                        have q177 : 6 < (l0.length : Int) := of_decide_eq_true (by first | (with_reducible assumption) | assumption)
                                        obtain ⟨ad177, e177, hx177_0⟩ := Kd.at_int HR0.out 6 p177 q177
                                        obtain rfl : ad167 = ad177 := (by injection e177)
                                        (try simp only [show (6 : Int).toNat = 6 from rfl, Nat.reduceMul, Nat.reduceEqDiff, Go.Addr.add, ↓reduceIte] at hx177_0)
                                        have qi177 : (6 < l0.length) = True := eq_true (by omega)
                                        (try rw [show ((6 : Int)).toNat = 6 from rfl] at hx177_0)
                                        replace hx177_0 := (HB.out.cell (World.block_lt_of_cell? w _ hx177_0)).trans hx177_0
                                        replace p177 := eq_true p177
                                        replace q177 := eq_true q177
                                        have p178 : 0 ≤ (8 : Int) := (by omega)
                                        have q178 : 8 < (l0.length : Int) := of_decide_eq_true (by first | (with_reducible assumption) | assumption)
                                        obtain ⟨ad178, e178, hx178_0⟩ := Kd.at_int HR0.out 8 p178 q178
                                        obtain rfl : ad167 = ad178 := (by injection e178)
                                        (try simp only [show (8 : Int).toNat = 8 from rfl, Nat.reduceMul, Nat.reduceEqDiff, Go.Addr.add, ↓reduceIte] at hx178_0)
                                        have qi178 : (8 < l0.length) = True := eq_true (by omega)
                                        (try rw [show ((8 : Int)).toNat = 8 from rfl] at hx178_0)
                                        replace hx178_0 := (HB.out.cell (World.block_lt_of_cell? w _ hx178_0)).trans hx178_0
                                        replace p178 := eq_true p178
                                        replace q178 := eq_true q178
                                        go_wp2
                                        repeat (go_quiet (fail); try go_wp2)
                                        go_meet
                                        case rel => exact ⟨_, (true), (by first | rfl | (simp; done) | (simp [*]; done)), H', ⟨by first | omega | exact Nat.le_refl _⟩, ⟨by (with_reducible repeat (first | refine blk_drewN ?_ _ | refine blk_drew ?_ | refine blk_alloc ?_ _)); exact BK166.out⟩, ⟨by repeat (first | (with_reducible first | exact HB.out | apply below_alloc | apply pw_below_drewN | apply below_drew1 | refine below_set ?_ GE166.out) | exact HB.out)⟩⟩
                                    · rw [if_neg c23] at H
                                      exact absurd H (by simp)
                                  · rw [if_neg c22] at H
                                    have c22b0 : ((rd l0 6) == 128) = false := beq_eq_false_iff_ne.mpr c22
                                    have c22b1 : ((rd l0 6) != 128) = true := bne_iff_ne.mpr c22
                                    have H' := Aside0.mk H
                                    clear H
                                    have p172 : 0 ≤ (0 : Int) := (by omega)
                                    have q172 : 0 < (l0.length : Int) := of_decide_eq_true (by first | (with_reducible assumption) | assumption)
                                    obtain ⟨ad172, e172, hx172_0⟩ := Kd.at_int HR0.out 0 p172 q172
                                    obtain rfl : ad167 = ad172 := (by injection e172)
                                    have qi172 : (0 < l0.length) = True := eq_true (by omega)
                                    (try rw [show ((0 : Int)).toNat = 0 from rfl] at hx172_0)
                                    (try rw [Addr.add_zero'] at hx172_0)
                                    replace hx172_0 := (HB.out.cell (World.block_lt_of_cell? w _ hx172_0)).trans hx172_0
                                    replace p172 := eq_true p172
                                    replace q172 := eq_true q172
                                    have p173 : 0 ≤ (1 : Int) := (by omega)
                                    have q173 : 1 < (l0.length : Int) := of_decide_eq_true (by first | (with_reducible assumption) | assumption)
                                    obtain ⟨ad173, e173, hx173_0⟩ := Kd.at_int HR0.out 1 p173 q173
                                    obtain rfl : ad167 = ad173 := (by injection e173)
                                    (try simp only [show (1 : Int).toNat = 1 from rfl, Nat.reduceMul, Nat.reduceEqDiff, Go.Addr.add, ↓reduceIte] at hx173_0)
                                    have qi173 : (1 < l0.length) = True := eq_true (by omega)
                                    (try rw [show ((1 : Int)).toNat = 1 from rfl] at hx173_0)
                                    replace hx173_0 := (HB.out.cell (World.block_lt_of_cell? w _ hx173_0)).trans hx173_0
                                    replace p173 := eq_true p173
                                    replace q173 := eq_true q173
                                    have p174 : 0 ≤ (2 : Int) := (by omega)
                                    have q174 : 2 < (l0.length : Int) := of_decide_eq_true (by first | (with_reducible assumption) | assumption)
                                    obtain ⟨ad174, e174, hx174_0⟩ := Kd.at_int HR0.out 2 p174 q174
                                    obtain rfl : ad167 = ad174 := (by injection e174)
                                    (try simp only [show (2 : Int).toNat = 2 from rfl, Nat.reduceMul, Nat.reduceEqDiff, Go.Addr.add, ↓reduceIte] at hx174_0)
                                    have qi174 : (2 < l0.length) = True := eq_true (by omega)
                                    (try rw [show ((2 : Int)).toNat = 2 from rfl] at hx174_0)
                                    replace hx174_0 := (HB.out.cell (World.block_lt_of_cell? w _ hx174_0)).trans hx174_0
                                    replace p174 := eq_true p174
                                    replace q174 := eq_true q174
                                    have p175 : 0 ≤ (3 : Int) := (by omega)
                                    have q175 : 3 < (l0.length : Int) := of_decide_eq_true (by first | (with_reducible assumption) | assumption)
                                    obtain ⟨ad175, e175, hx175_0⟩ := Kd.at_int HR0.out 3 p175 q175
                                    obtain rfl : ad167 = ad175 := (by injection e175)
                                    (try simp only [show (3 : Int).toNat = 3 from rfl, Nat.reduceMul, Nat.reduceEqDiff, Go.Addr.add, ↓reduceIte] at hx175_0)
                                    have qi175 : (3 < l0.length) = True := eq_true (by omega)
                                    (try rw [show ((3 : Int)).toNat = 3 from rfl] at hx175_0)
                                    replace hx175_0 := (HB.out.cell (World.block_lt_of_cell? w _ hx175_0)).trans hx175_0
                                    replace p175 := eq_true p175
                                    replace q175 := eq_true q175
                                    have p176 : 0 ≤ (3 : Int) := (by omega)
                                    have q176 : 3 < (l0.length : Int) := of_decide_eq_true (by first | (with_reducible assumption) | assumption)
                                    obtain ⟨ad176, e176, hx176_0⟩ := Kd.at_int HR0.out 3 p176 q176
                                    obtain rfl : ad167 = ad176 := (by injection e176)
                                    (try simp only [show (3 : Int).toNat = 3 from rfl, Nat.reduceMul, Nat.reduceEqDiff, Go.Addr.add, ↓reduceIte] at hx176_0)
                                    have qi176 : (3 < l0.length) = True := eq_true (by omega)
                                    (try rw [show ((3 : Int)).toNat = 3 from rfl] at hx176_0)
                                    replace hx176_0 := (HB.out.cell (World.block_lt_of_cell? w _ hx176_0)).trans hx176_0
                                    replace p176 := eq_true p176
                                    replace q176 := eq_true q176
                                    have p177 : 0 ≤ (6 : Int) := (by omega)
                                    have q177 : 6 < (l0.length : Int) := of_decide_eq_true (by first | (with_reducible assumption) | assumption)
                                    obtain ⟨ad177, e177, hx177_0⟩ := Kd.at_int HR0.out 6 p177 q177
                                    obtain rfl : ad167 = ad177 := (by injection e177)
                                    (try simp only [show (6 : Int).toNat = 6 from rfl, Nat.reduceMul, Nat.reduceEqDiff, Go.Addr.add, ↓reduceIte] at hx177_0)
                                    have qi177 : (6 < l0.length) = True := eq_true (by omega)
                                    (try rw [show ((6 : Int)).toNat = 6 from rfl] at hx177_0)
                                    replace hx177_0 := (HB.out.cell (World.block_lt_of_cell? w _ hx177_0)).trans hx177_0
                                    replace p177 := eq_true p177
                                    replace q177 := eq_true q177
                                    go_wp2
                                    repeat (go_quiet (fail); try go_wp2)
                                    go_meet
                                    case rel => exact ⟨_, (true), (by first | rfl | (simp; done) | (simp [*]; done)), H', ⟨by first | omega | exact Nat.le_refl _⟩, ⟨by (with_reducible repeat (first | refine blk_drewN ?_ _ | refine blk_drew ?_ | refine blk_alloc ?_ _)); exact BK166.out⟩, ⟨by repeat (first | (with_reducible first | exact HB.out | apply below_alloc | apply pw_below_drewN | apply below_drew1 | refine below_set ?_ GE166.out) | exact HB.out)⟩⟩
                                · rw [if_neg c21] at H
                                  exact absurd H (by simp)
                          · rw [if_neg c18] at H
                            exact absurd H (by simp)
                        · rw [if_neg c17] at H
                          have c17b0 : ((rd l0 2) == 1) = false := beq_eq_false_iff_ne.mpr c17
                          have c17b1 : ((rd l0 2) != 1) = true := bne_iff_ne.mpr c17
                          have H' := Aside0.mk H
                          clear H
                          have p172 : 0 ≤ (0 : Int) := (by omega)
                          have q172 : 0 < (l0.length : Int) := of_decide_eq_true (by first | (with_reducible assumption) | assumption)
                          obtain ⟨ad172, e172, hx172_0⟩ := Kd.at_int HR0.out 0 p172 q172
                          obtain rfl : ad167 = ad172 := (by injection e172)
                          have qi172 : (0 < l0.length) = True := eq_true (by omega)
                          (try rw [show ((0 : Int)).toNat = 0 from rfl] at hx172_0)
                          (try rw [Addr.add_zero'] at hx172_0)
                          replace hx172_0 := (HB.out.cell (World.block_lt_of_cell? w _ hx172_0)).trans hx172_0
                          replace p172 := eq_true p172
                          replace q172 := eq_true q172
                          have p173 : 0 ≤ (1 : Int) := (by omega)
                          have q173 : 1 < (l0.length : Int) := of_decide_eq_true (by first | (with_reducible assumption) | assumption)
                          obtain ⟨ad173, e173, hx173_0⟩ := Kd.at_int HR0.out 1 p173 q173
                          obtain rfl : ad167 = ad173 := (by injection e173)
                          (try simp only [show (1 : Int).toNat = 1 from rfl, Nat.reduceMul, Nat.reduceEqDiff, Go.Addr.add, ↓reduceIte] at hx173_0)
                          have qi173 : (1 < l0.length) = True := eq_true (by omega)
                          (try rw [show ((1 : Int)).toNat = 1 from rfl] at hx173_0)
                          replace hx173_0 := (HB.out.cell (World.block_lt_of_cell? w _ hx173_0)).trans hx173_0
                          replace p173 := eq_true p173
                          replace q173 := eq_true q173
                          have p174 : 0 ≤ (2 : Int) := (by omega)
                          have q174 : 2 < (l0.length : Int) := of_decide_eq_true (by first | (with_reducible assumption) | assumption)
                          obtain ⟨ad174, e174, hx174_0⟩ := Kd.at_int HR0.out 2 p174 q174
                          obtain rfl : ad167 = ad174 := (by injection e174)
                          (try simp only [show (2 : Int).toNat = 2 from rfl, Nat.reduceMul, Nat.reduceEqDiff, Go.Addr.add, ↓reduceIte] at hx174_0)
                          have qi174 : (2 < l0.length) = True := eq_true (by omega)
                          (try rw [show ((2 : Int)).toNat = 2 from rfl] at hx174_0)
                          replace hx174_0 := (HB.out.cell (World.block_lt_of_cell? w _ hx174_0)).trans hx174_0
                          replace p174 := eq_true p174
                          replace q174 := eq_true q174
                          go_wp2
                          repeat (go_quiet (fail); try go_wp2)
                          go_meet
                          case rel => exact ⟨_, (true), (by first | rfl | (simp; done) | (simp [*]; done)), H', ⟨by first | omega | exact Nat.le_refl _⟩, ⟨by (with_reducible repeat (first | refine blk_drewN ?_ _ | refine blk_drew ?_ | refine blk_alloc ?_ _)); exact BK166.out⟩, ⟨by repeat (first | (with_reducible first | exact HB.out | apply below_alloc | apply pw_below_drewN | apply below_drew1 | refine below_set ?_ GE166.out) | exact HB.out)⟩⟩
                      · rw [if_neg c16] at H
                        exact absurd H (by simp)
                    · rw [if_neg c15] at H
                      have c15b0 : ((rd l0 1) == 0) = false := beq_eq_false_iff_ne.mpr c15
                      have c15b1 : ((rd l0 1) != 0) = true := bne_iff_ne.mpr c15
                      have H' := Aside0.mk H
                      clear H
                      have p172 : 0 ≤ (0 : Int) := (by omega)
                      have q172 : 0 < (l0.length : Int) := of_decide_eq_true (by first | (with_reducible assumption) | assumption)
                      obtain ⟨ad172, e172, hx172_0⟩ := Kd.at_int HR0.out 0 p172 q172
                      obtain rfl : ad167 = ad172 := (by injection e172)
                      have qi172 : (0 < l0.length) = True := eq_true (by omega)
                      (try rw [show ((0 : Int)).toNat = 0 from rfl] at hx172_0)
                      (try rw [Addr.add_zero'] at hx172_0)
                      replace hx172_0 := (HB.out.cell (World.block_lt_of_cell? w _ hx172_0)).trans hx172_0
                      replace p172 := eq_true p172
                      replace q172 := eq_true q172
                      have p173 : 0 ≤ (1 : Int) := (by omega)
                      have q173 : 1 < (l0.length : Int) := of_decide_eq_true (by first | (with_reducible assumption) | assumption)
                      obtain ⟨ad173, e173, hx173_0⟩ := Kd.at_int HR0.out 1 p173 q173
                      obtain rfl : ad167 = ad173 := (by injection e173)
                      (try simp only [show (1 : Int).toNat = 1 from rfl, Nat.reduceMul, Nat.reduceEqDiff, Go.Addr.add, ↓reduceIte] at hx173_0)
                      have qi173 : (1 < l0.length) = True := eq_true (by omega)
                      (try rw [show ((1 : Int)).toNat = 1 from rfl] at hx173_0)
                      replace hx173_0 := (HB.out.cell (World.block_lt_of_cell? w _ hx173_0)).trans hx173_0
                      replace p173 := eq_true p173
                      replace q173 := eq_true q173
                      go_wp2
                      repeat (go_quiet (fail); try go_wp2)
                      go_meet
                      case rel => exact ⟨_, (true), (by first | rfl | (simp; done) | (simp [*]; done)), H', ⟨by first | omega | exact Nat.le_refl _⟩, ⟨by (with_reducible repeat (first | refine blk_drewN ?_ _ | refine blk_drew ?_ | refine blk_alloc ?_ _)); exact BK166.out⟩, ⟨by repeat (first | (with_reducible first | exact HB.out | apply below_alloc | apply pw_below_drewN | apply below_drew1 | refine below_set ?_ GE166.out) | exact HB.out)⟩⟩
                  · rw [if_neg c14] at H
                    exact absurd H (by simp)
                · rw [if_neg c13] at H
                  have c13b0 : ((rd l0 0) == 0) = false := beq_eq_false_iff_ne.mpr c13
                  have c13b1 : ((rd l0 0) != 0) = true := bne_iff_ne.mpr c13
                  have H' := Aside0.mk H
                  clear H
                  have p172 : 0 ≤ (0 : Int) := (by omega)
                  have q172 : 0 < (l0.length : Int) := of_decide_eq_true (by first | (with_reducible assumption) | assumption)
                  obtain ⟨ad172, e172, hx172_0⟩ := Kd.at_int HR0.out 0 p172 q172
                  obtain rfl : ad167 = ad172 := (by injection e172)
                  have qi172 : (0 < l0.length) = True := eq_true (by omega)
                  (try rw [show ((0 : Int)).toNat = 0 from rfl] at hx172_0)
                  (try rw [Addr.add_zero'] at hx172_0)
                  replace hx172_0 := (HB.out.cell (World.block_lt_of_cell? w _ hx172_0)).trans hx172_0
                  replace p172 := eq_true p172
                  replace q172 := eq_true q172
                  go_wp2
                  repeat (go_quiet (fail); try go_wp2)
                  go_meet
                  case rel => exact ⟨_, (true), (by first | rfl | (simp; done) | (simp [*]; done)), H', ⟨by first | omega | exact Nat.le_refl _⟩, ⟨by (with_reducible repeat (first | refine blk_drewN ?_ _ | refine blk_drew ?_ | refine blk_alloc ?_ _)); exact BK166.out⟩, ⟨by repeat (first | (with_reducible first | exact HB.out | apply below_alloc | apply pw_below_drewN | apply below_drew1 | refine below_set ?_ GE166.out) | exact HB.out)⟩⟩
              · rw [if_neg c12] at H
                exact absurd H (by simp)
            · replace c11 := Bool.eq_false_iff.mpr c11
              subst c11
              have H1 : (pes_Take.j0 k l0 (Go.bits .or .i64 (wrap64 ((wrap64 (rd l0 4)) * 256)) (wrap64 (rd l0 5))) t170 true) = some (r1, r2, r3, r4, r5, r6) := by rw [if_neg (show ¬ (false = true) by decide)] at H; exact H
              clear H
              have H := H1
              clear H1
              have H' := Aside0.mk H
              clear H
              go_wp2
              repeat (go_quiet (fail); try go_wp2)
              go_meet
              case rel => exact ⟨_, (true), (by first | rfl | (simp; done) | (simp [*]; done)), H', ⟨by first | omega | exact Nat.le_refl _⟩, ⟨by (with_reducible repeat (first | refine blk_drewN ?_ _ | refine blk_drew ?_ | refine blk_alloc ?_ _)); exact BK166.out⟩, ⟨by repeat (first | (with_reducible first | exact HB.out | apply below_alloc | apply pw_below_drewN | apply below_drew1 | refine below_set ?_ GE166.out) | exact HB.out)⟩⟩
          case rest =>
            clear HC9
            try clear c1
            try clear p1
            try clear q1
            try clear hx1
            try clear qi1
            try clear c2
            try clear c2b0
            try clear c2b1
            try clear p2
            try clear c5
            try clear c5b0
            try clear c5b1
            try clear c6
            try clear c6b0
            try clear c6b1
            try clear p6
            try clear c7
            try clear c7b0
            try clear c7b1
            try clear c11
            try clear c12
            try clear c12b0
            try clear c12b1
            try clear c13
            try clear c13b0
            try clear c13b1
            try clear c14
            try clear c14b0
            try clear c14b1
            try clear c15
            try clear c15b0
            try clear c15b1
            try clear c16
            try clear c16b0
            try clear c16b1
            try clear p16
            try clear q16
            try clear hx16
            try clear qi16
            try clear c17
            try clear c17b0
            try clear c17b1
            try clear p17
            try clear q17
            try clear hx17
            try clear qi17
            try clear c18
            try clear c18b0
            try clear c18b1
            try clear c19
            try clear c19b0
            try clear c20
            try clear c20b0
            try clear c21
            try clear c21b0
            try clear c21b1
            try clear c22
            try clear c22b0
            try clear c22b1
            try clear c23
            try clear c23b0
            try clear c23b1
            try clear c24
            try clear c24b0
            try clear c24b1
            try clear hcz4_0
            try clear hcz4_1
            try clear hcz4_2
            try clear hcz4_3
            try clear hfz4_0
            try clear hfz4_1
            try clear hfz4_2
            try clear hfz4_3
            try clear hx167_0
            try clear hx168_0
            try clear hx169_0
            try clear hx172_0
            try clear hx173_0
            try clear hx174_0
            try clear hx175_0
            try clear hx176_0
            try clear hx177_0
            try clear hx178_0
            try clear p167
            try clear p168
            try clear p169
            try clear p172
            try clear p173
            try clear p174
            try clear p175
            try clear p176
            try clear p177
            try clear p178
            try clear q167
            try clear q168
            try clear q169
            try clear q172
            try clear q173
            try clear q174
            try clear q175
            try clear q176
            try clear q177
            try clear q178
            obtain ⟨kq, x84_8, rfl, HA, HJ8, BK166, HB⟩ := hcut
            cases kq with
            | zero => exact absurd HA.out (by simp [pes_Take.j0])
            | succ kj8 =>
              have H := HA.out
              clear HA
              simp only [pes_Take.j0] at H
              by_cases c25 : x84_8 = true
              · subst c25
                have H1 : (some (0, 0, 0, ([] : List Int), 0, 3)) = some (r1, r2, r3, r4, r5, r6) := by rw [if_pos rfl] at H; exact H
                clear H
                have H := H1
                clear H1
                simp only [Option.some.injEq, Prod.mk.injEq] at H
                obtain ⟨rfl, rfl, rfl, rfl, rfl, rfl⟩ := H
                have hcz26_0 : wc.cell? ⟨gb166, 0, none⟩ = some (.int .i64 0) := (blk_cell BK166.out 0).trans rfl
                have hcz26_1 : wc.cell? ⟨gb166, 1, none⟩ = some (.int .i64 0) := (blk_cell BK166.out 1).trans rfl
                have hcz26_2 : wc.cell? ⟨gb166, 2, none⟩ = some (.int .i64 0) := (blk_cell BK166.out 2).trans rfl
                have hcz26_3 : wc.cell? ⟨gb166, 3, none⟩ = some (.slice none 0 0) := (blk_cell BK166.out 3).trans rfl
                have hfz26_0 := blk_frozen BK166.out 0
                have hfz26_1 := blk_frozen BK166.out 1
                have hfz26_2 := blk_frozen BK166.out 2
                have hfz26_3 := blk_frozen BK166.out 3
                go_wp2
                repeat (go_quiet (fail); try go_wp2)
                refine bodyPost_ret (results_ctt rfl _ _ gb166 30 #[.int .i64 0, .int .i64 0, .int .i64 0, .slice none 0 0] (0, 0) _ rfl (by (with_reducible repeat (first | refine blk_drewN ?_ _ | refine blk_drew ?_ | refine blk_alloc ?_ _)); refine blk_put (cs := #[.int .i64 0, .int .i64 0, .int .i64 0, .slice none 0 0]) ?_ 3 _ rfl; (with_reducible repeat (first | refine blk_drewN ?_ _ | refine blk_drew ?_ | refine blk_alloc ?_ _)); refine blk_put (cs := #[.int .i64 0, .int .i64 0, .int .i64 0, .slice none 0 0]) ?_ 2 _ rfl; (with_reducible repeat (first | refine blk_drewN ?_ _ | refine blk_drew ?_ | refine blk_alloc ?_ _)); refine blk_put (cs := #[.int .i64 0, .int .i64 0, .int .i64 0, .slice none 0 0]) ?_ 1 _ rfl; (with_reducible repeat (first | refine blk_drewN ?_ _ | refine blk_drew ?_ | refine blk_alloc ?_ _)); refine blk_put (cs := #[.int .i64 0, .int .i64 0, .int .i64 0, .slice none 0 0]) ?_ 0 _ rfl; (with_reducible repeat (first | refine blk_drewN ?_ _ | refine blk_drew ?_ | refine blk_alloc ?_ _)); exact BK166.out) Try.underlying30 rfl (by kernel_rfl)) rfl ?_
                exact ⟨_, by first | rfl | (simp [errW_none, errW_some] <;> rfl) | (simp [*, errW_none, errW_some] <;> rfl), by first | exact Kd.R_nil _ _ _ _ _ | exact Kd.N_nil _ _ _ _ _ | exact Kd.V_nil _ _ _ _ _ | exact Kd.Q_nil _ _ _ _ _ | exact Kd.S_nil _ _ _ _ _, by repeat (first | (with_reducible first | exact HB.out | apply below_alloc | apply pw_below_drewN | apply below_drew1 | refine below_set ?_ GE166.out) | exact HB.out)⟩
              · replace c25 := Bool.eq_false_iff.mpr c25
                subst c25
                have H1 : (if (l0.length : Int) < (wrap64 (6 + (Go.bits .or .i64 (wrap64 ((wrap64 (rd l0 4)) * 256)) (wrap64 (rd l0 5))))) then (some (0, 0, 0, ([] : List Int), 0, 4)) else (if 3 < (l0.length : Int) then (if 7 < (l0.length : Int) then (if (rd l0 7) = 128 then (if 9 ≤ (l0.length : Int) then ((pes_unstamp.f (l0.drop 9) 2).bind fun bt183 => (pes_Take.j1 kj8 l0 t170 (wrap64 (6 + (Go.bits .or .i64 (wrap64 ((wrap64 (rd l0 4)) * 256)) (wrap64 (rd l0 5))))) bt183.2 true (wrap64 (rd l0 3)) bt183.1 (-1))) else (none)) else (if (rd l0 7) = 192 then (if 9 ≤ (l0.length : Int) then ((pes_unstamp.f (l0.drop 9) 3).bind fun bt186 => (if 14 ≤ (l0.length : Int) then ((pes_unstamp.f (l0.drop 14) 1).bind fun bt189 => (pes_Take.j1 kj8 l0 t170 (wrap64 (6 + (Go.bits .or .i64 (wrap64 ((wrap64 (rd l0 4)) * 256)) (wrap64 (rd l0 5))))) bt186.2 bt189.2 (wrap64 (rd l0 3)) bt186.1 bt189.1)) else (none))) else (none)) else (pes_Take.j1 kj8 l0 t170 (wrap64 (6 + (Go.bits .or .i64 (wrap64 ((wrap64 (rd l0 4)) * 256)) (wrap64 (rd l0 5))))) true true (wrap64 (rd l0 3)) (-1) (-1)))) else (none)) else (none))) = some (r1, r2, r3, r4, r5, r6) := by rw [if_neg (show ¬ (false = true) by decide)] at H; exact H
                clear H
                have H := H1
                clear H1
                by_cases c27 : (l0.length : Int) < (wrap64 (6 + (Go.bits .or .i64 (wrap64 ((wrap64 (rd l0 4)) * 256)) (wrap64 (rd l0 5)))))
                · rw [if_pos c27] at H
                  have c27b0 : decide ((l0.length : Int) < (wrap64 (6 + (Go.bits .or .i64 (wrap64 ((wrap64 (rd l0 4)) * 256)) (wrap64 (rd l0 5)))))) = true := decide_eq_true c27
                  clear c27
                  simp only [Option.some.injEq, Prod.mk.injEq] at H
                  obtain ⟨rfl, rfl, rfl, rfl, rfl, rfl⟩ := H
                  have hcz28_0 : wc.cell? ⟨gb166, 0, none⟩ = some (.int .i64 0) := (blk_cell BK166.out 0).trans rfl
                  have hcz28_1 : wc.cell? ⟨gb166, 1, none⟩ = some (.int .i64 0) := (blk_cell BK166.out 1).trans rfl
                  have hcz28_2 : wc.cell? ⟨gb166, 2, none⟩ = some (.int .i64 0) := (blk_cell BK166.out 2).trans rfl
                  have hcz28_3 : wc.cell? ⟨gb166, 3, none⟩ = some (.slice none 0 0) := (blk_cell BK166.out 3).trans rfl
                  have hfz28_0 := blk_frozen BK166.out 0
                  have hfz28_1 := blk_frozen BK166.out 1
                  have hfz28_2 := blk_frozen BK166.out 2
                  have hfz28_3 := blk_frozen BK166.out 3
                  go_wp2
                  repeat (go_quiet (fail); try go_wp2)
                  refine bodyPost_ret (results_ctt rfl _ _ gb166 30 #[.int .i64 0, .int .i64 0, .int .i64 0, .slice none 0 0] (0, 0) _ rfl (by (with_reducible repeat (first | refine blk_drewN ?_ _ | refine blk_drew ?_ | refine blk_alloc ?_ _)); refine blk_put (cs := #[.int .i64 0, .int .i64 0, .int .i64 0, .slice none 0 0]) ?_ 3 _ rfl; (with_reducible repeat (first | refine blk_drewN ?_ _ | refine blk_drew ?_ | refine blk_alloc ?_ _)); refine blk_put (cs := #[.int .i64 0, .int .i64 0, .int .i64 0, .slice none 0 0]) ?_ 2 _ rfl; (with_reducible repeat (first | refine blk_drewN ?_ _ | refine blk_drew ?_ | refine blk_alloc ?_ _)); refine blk_put (cs := #[.int .i64 0, .int .i64 0, .int .i64 0, .slice none 0 0]) ?_ 1 _ rfl; (with_reducible repeat (first | refine blk_drewN ?_ _ | refine blk_drew ?_ | refine blk_alloc ?_ _)); refine blk_put (cs := #[.int .i64 0, .int .i64 0, .int .i64 0, .slice none 0 0]) ?_ 0 _ rfl; (with_reducible repeat (first | refine blk_drewN ?_ _ | refine blk_drew ?_ | refine blk_alloc ?_ _)); exact BK166.out) Try.underlying30 rfl (by kernel_rfl)) rfl ?_
                  exact ⟨_, by first | rfl | (simp [errW_none, errW_some] <;> rfl) | (simp [*, errW_none, errW_some] <;> rfl), by first | exact Kd.R_nil _ _ _ _ _ | exact Kd.N_nil _ _ _ _ _ | exact Kd.V_nil _ _ _ _ _ | exact Kd.Q_nil _ _ _ _ _ | exact Kd.S_nil _ _ _ _ _, by repeat (first | (with_reducible first | exact HB.out | apply below_alloc | apply pw_below_drewN | apply below_drew1 | refine below_set ?_ GE166.out) | exact HB.out)⟩
                · rw [if_neg c27] at H
                  have c27b0 : decide ((l0.length : Int) < (wrap64 (6 + (Go.bits .or .i64 (wrap64 ((wrap64 (rd l0 4)) * 256)) (wrap64 (rd l0 5)))))) = false := decide_eq_false c27
                  clear c27
                  by_cases c29 : 3 < (l0.length : Int)
                  · rw [if_pos c29] at H
                    have c29b0 : decide (3 < (l0.length : Int)) = true := decide_eq_true c29
                    have c29b1 : decide (3 < l0.length) = true := decide_eq_true (by omega)
                    clear c29
                    by_cases c30 : 7 < (l0.length : Int)
                    · rw [if_pos c30] at H
                      have c30b0 : decide (7 < (l0.length : Int)) = true := decide_eq_true c30
                      have c30b1 : decide (7 < l0.length) = true := decide_eq_true (by omega)
                      clear c30
                      have HC31 := Aside0.mk H
                      clear H
                      have p179 : 0 ≤ (3 : Int) := (by omega)
                      have q179 : 3 < (l0.length : Int) := of_decide_eq_true (by first | (with_reducible assumption) | assumption)
                      obtain ⟨ad179, e179, hx179_0⟩ := Kd.at_int HR0.out 3 p179 q179
                      obtain rfl : ad167 = ad179 := (by injection e179)
                      (try simp only [show (3 : Int).toNat = 3 from rfl, Nat.reduceMul, Nat.reduceEqDiff, Go.Addr.add, ↓reduceIte] at hx179_0)
                      have qi179 : (3 < l0.length) = True := eq_true (by omega)
                      (try rw [show ((3 : Int)).toNat = 3 from rfl] at hx179_0)
                      replace hx179_0 := (HB.out.cell (World.block_lt_of_cell? w _ hx179_0)).trans hx179_0
                      replace p179 := eq_true p179
                      replace q179 := eq_true q179
                      go_upto_block 0 with (first | ((with_reducible refine gate_dst (N := 9) rfl ?_); refine box_event ?hg (N := 9) ?hd (cs := #[.int .i64 0, .int .i64 0, .int .i64 0, .slice none 0 0]) (t := 30) ?hr ?_; (case hd => rfl); (case hg => rfl); (case hr => first | (go_simp; done) | (go_simp; rfl)); intro gb180 hg w32 hbox hb; have n0_ := Aside0.mk (blk_below (g := gb166) (o := .cells #[.int .i64 0, .int .i64 0, .int .i64 0, .slice none 0 0] 30 (0, 0)) (by (with_reducible repeat (first | refine blk_drewN ?_ _ | refine blk_drew ?_ | refine blk_alloc ?_ _)); exact BK166.out) hb); have n1_ := Aside0.mk (below_step (by repeat (first | (with_reducible first | exact HB.out | apply below_alloc | apply pw_below_drewN | apply below_drew1 | refine below_set ?_ GE166.out) | exact HB.out)) hb); have n2_ := Aside0.mk (hbox); have n3_ := Aside0.mk ((by rw [hg]; exact (below_size (by repeat (first | (with_reducible first | exact HB.out | apply below_alloc | apply pw_below_drewN | apply below_drew1 | refine below_set ?_ GE166.out) | exact HB.out))) : w.heap.size ≤ gb180)); have n4_ := Aside0.mk ((by rw [hg]; exact (below_size (by repeat (first | (with_reducible first | exact HB.out | apply below_alloc | apply pw_below_drewN | apply below_drew1 | refine below_set ?_ GE166.out) | exact HB.out))) : w.heap.size ≤ gb180)); have n5_ := Aside0.mk ((by rw [hg]; exact Nat.ne_of_lt (blk_lt (g := gb166) (o := .cells #[.int .i64 0, .int .i64 0, .int .i64 0, .slice none 0 0] 30 (0, 0)) (by (with_reducible repeat (first | refine blk_drewN ?_ _ | refine blk_drew ?_ | refine blk_alloc ?_ _)); exact BK166.out)) : gb166 ≠ gb180)); have n6_ := Aside0.mk ((by rw [hg]; exact Nat.ne_of_gt (blk_lt (g := gb166) (o := .cells #[.int .i64 0, .int .i64 0, .int .i64 0, .slice none 0 0] 30 (0, 0)) (by (with_reducible repeat (first | refine blk_drewN ?_ _ | refine blk_drew ?_ | refine blk_alloc ?_ _)); exact BK166.out)) : gb180 ≠ gb166)); clear BK166; clear HB; have BK166 := n0_; have HB := n1_; have BK180 := n2_; have GW180 := n3_; have GE180 := n4_; have NB166_180 := n5_; have NB180_166 := n6_; clear n0_ n1_ n2_ n3_ n4_ n5_ n6_; clear hb hbox hg; have hnb33 := NB180_166.out; have hnc33 := NB166_180.out; have hcz34_0 : w32.cell? ⟨gb180, 0, none⟩ = some (.int .i64 0) := (blk_cell BK180.out 0).trans rfl; have hcz34_1 : w32.cell? ⟨gb180, 1, none⟩ = some (.int .i64 0) := (blk_cell BK180.out 1).trans rfl; have hcz34_2 : w32.cell? ⟨gb180, 2, none⟩ = some (.int .i64 0) := (blk_cell BK180.out 2).trans rfl; have hcz34_3 : w32.cell? ⟨gb180, 3, none⟩ = some (.slice none 0 0) := (blk_cell BK180.out 3).trans rfl; have hfz34_0 := blk_frozen BK180.out 0; have hfz34_1 := blk_frozen BK180.out 1; have hfz34_2 := blk_frozen BK180.out 2; have hfz34_3 := blk_frozen BK180.out 3; have p181 : 0 ≤ (7 : Int) := (by omega); have q181 : 7 < (l0.length : Int) := of_decide_eq_true (by first | (with_reducible assumption) | assumption); obtain ⟨ad181, e181, hx181_0⟩ := Kd.at_int HR0.out 7 p181 q181; obtain rfl : ad167 = ad181 := (by injection e181); (try simp only [show (7 : Int).toNat = 7 from rfl, Nat.reduceMul, Nat.reduceEqDiff, Go.Addr.add, ↓reduceIte] at hx181_0); have qi181 : (7 < l0.length) = True := eq_true (by omega); (try rw [show ((7 : Int)).toNat = 7 from rfl] at hx181_0); have hn181_0 : ad167.block ≠ gb180 := Nat.ne_of_lt (Nat.lt_of_lt_of_le (by have := World.block_lt_of_cell? _ _ hx181_0; first | rwa [add_block] at this | exact this) GW180.out); have hn181_1 : ad167.block ≠ gb180 := Nat.ne_of_lt (Nat.lt_of_lt_of_le (by have := World.block_lt_of_cell? _ _ hx181_0; first | rwa [add_block] at this | exact this) GW180.out); have hn181_2 : ad167.block ≠ gb180 := Nat.ne_of_lt (Nat.lt_of_lt_of_le (by have := World.block_lt_of_cell? _ _ hx181_0; first | rwa [add_block] at this | exact this) GW180.out); have hn181_3 : ad167.block ≠ gb180 := Nat.ne_of_lt (Nat.lt_of_lt_of_le (by have := World.block_lt_of_cell? _ _ hx181_0; first | rwa [add_block] at this | exact this) GW180.out); replace hx181_0 := (HB.out.cell (World.block_lt_of_cell? w _ hx181_0)).trans hx181_0; replace hx181_0 := (cell_far (p := ⟨gb180, 0, none⟩) (by first | (rw [add_block]; exact hn181_0) | (show (Addr.add _ _).block ≠ _; rw [add_block]; exact hn181_0) | exact hn181_0) (.int .i64 (wrap64 (rd l0 3)))).trans hx181_0; replace hx181_0 := (cell_far (p := ⟨gb180, 1, none⟩) (by first | (rw [add_block]; exact hn181_1) | (show (Addr.add _ _).block ≠ _; rw [add_block]; exact hn181_1) | exact hn181_1) (.int .i64 (-1))).trans hx181_0; replace hx181_0 := (cell_far (p := ⟨gb180, 2, none⟩) (by first | (rw [add_block]; exact hn181_2) | (show (Addr.add _ _).block ≠ _; rw [add_block]; exact hn181_2) | exact hn181_2) (.int .i64 (-1))).trans hx181_0; replace hx181_0 := (cell_far (p := ⟨gb180, 3, none⟩) (by first | (rw [add_block]; exact hn181_3) | (show (Addr.add _ _).block ≠ _; rw [add_block]; exact hn181_3) | exact hn181_3) (.slice none 0 0)).trans hx181_0; (try have hy181_0 := fun (n_ : Nat) => (show ((((((w32.drewN n_).setCell ⟨gb180, 0, none⟩ (.int .i64 (wrap64 (rd l0 3)))).setCell ⟨gb180, 1, none⟩ (.int .i64 (-1))).setCell ⟨gb180, 2, none⟩ (.int .i64 (-1))).setCell ⟨gb180, 3, none⟩ (.slice none 0 0))).cell? _ = some _ from hx181_0)); clear hn181_0; clear hn181_1; clear hn181_2; clear hn181_3; replace p181 := eq_true p181; replace q181 := eq_true q181))
                      repeat (go_quiet (first | ((with_reducible refine gate_dst (N := 9) rfl ?_); refine box_event ?hg (N := 9) ?hd (cs := #[.int .i64 0, .int .i64 0, .int .i64 0, .slice none 0 0]) (t := 30) ?hr ?_; (case hd => rfl); (case hg => rfl); (case hr => first | (go_simp; done) | (go_simp; rfl)); intro gb180 hg w32 hbox hb; have n0_ := Aside0.mk (blk_below (g := gb166) (o := .cells #[.int .i64 0, .int .i64 0, .int .i64 0, .slice none 0 0] 30 (0, 0)) (by (with_reducible repeat (first | refine blk_drewN ?_ _ | refine blk_drew ?_ | refine blk_alloc ?_ _)); exact BK166.out) hb); have n1_ := Aside0.mk (below_step (by repeat (first | (with_reducible first | exact HB.out | apply below_alloc | apply pw_below_drewN | apply below_drew1 | refine below_set ?_ GE166.out) | exact HB.out)) hb); have n2_ := Aside0.mk (hbox); have n3_ := Aside0.mk ((by rw [hg]; exact (below_size (by repeat (first | (with_reducible first | exact HB.out | apply below_alloc | apply pw_below_drewN | apply below_drew1 | refine below_set ?_ GE166.out) | exact HB.out))) : w.heap.size ≤ gb180)); have n4_ := Aside0.mk ((by rw [hg]; exact (below_size (by repeat (first | (with_reducible first | exact HB.out | apply below_alloc | apply pw_below_drewN | apply below_drew1 | refine below_set ?_ GE166.out) | exact HB.out))) : w.heap.size ≤ gb180)); have n5_ := Aside0.mk ((by rw [hg]; exact Nat.ne_of_lt (blk_lt (g := gb166) (o := .cells #[.int .i64 0, .int .i64 0, .int .i64 0, .slice none 0 0] 30 (0, 0)) (by (with_reducible repeat (first | refine blk_drewN ?_ _ | refine blk_drew ?_ | refine blk_alloc ?_ _)); exact BK166.out)) : gb166 ≠ gb180)); have n6_ := Aside0.mk ((by rw [hg]; exact Nat.ne_of_gt (blk_lt (g := gb166) (o := .cells #[.int .i64 0, .int .i64 0, .int .i64 0, .slice none 0 0] 30 (0, 0)) (by (with_reducible repeat (first | refine blk_drewN ?_ _ | refine blk_drew ?_ | refine blk_alloc ?_ _)); exact BK166.out)) : gb180 ≠ gb166)); clear BK166; clear HB; have BK166 := n0_; have HB := n1_; have BK180 := n2_; have GW180 := n3_; have GE180 := n4_; have NB166_180 := n5_; have NB180_166 := n6_; clear n0_ n1_ n2_ n3_ n4_ n5_ n6_; clear hb hbox hg; have hnb33 := NB180_166.out; have hnc33 := NB166_180.out; have hcz34_0 : w32.cell? ⟨gb180, 0, none⟩ = some (.int .i64 0) := (blk_cell BK180.out 0).trans rfl; have hcz34_1 : w32.cell? ⟨gb180, 1, none⟩ = some (.int .i64 0) := (blk_cell BK180.out 1).trans rfl; have hcz34_2 : w32.cell? ⟨gb180, 2, none⟩ = some (.int .i64 0) := (blk_cell BK180.out 2).trans rfl; have hcz34_3 : w32.cell? ⟨gb180, 3, none⟩ = some (.slice none 0 0) := (blk_cell BK180.out 3).trans rfl; have hfz34_0 := blk_frozen BK180.out 0; have hfz34_1 := blk_frozen BK180.out 1; have hfz34_2 := blk_frozen BK180.out 2; have hfz34_3 := blk_frozen BK180.out 3; have p181 : 0 ≤ (7 : Int) := (by omega); have q181 : 7 < (l0.length : Int) := of_decide_eq_true (by first | (with_reducible assumption) | assumption); obtain ⟨ad181, e181, hx181_0⟩ := Kd.at_int HR0.out 7 p181 q181; obtain rfl : ad167 = ad181 := (by injection e181); (try simp only [show (7 : Int).toNat = 7 from rfl, Nat.reduceMul, Nat.reduceEqDiff, Go.Addr.add, ↓reduceIte] at hx181_0); have qi181 : (7 < l0.length) = True := eq_true (by omega); (try rw [show ((7 : Int)).toNat = 7 from rfl] at hx181_0); have hn181_0 : ad167.block ≠ gb180 := Nat.ne_of_lt (Nat.lt_of_lt_of_le (by have := World.block_lt_of_cell? _ _ hx181_0; first | rwa [add_block] at this | exact this) GW180.out); have hn181_1 : ad167.block ≠ gb180 := Nat.ne_of_lt (Nat.lt_of_lt_of_le (by have := World.block_lt_of_cell? _ _ hx181_0; first | rwa [add_block] at this | exact this) GW180.out); have hn181_2 : ad167.block ≠ gb180 := Nat.ne_of_lt (Nat.lt_of_lt_of_le (by have := World.block_lt_of_cell? _ _ hx181_0; first | rwa [add_block] at this | exact this) GW180.out); have hn181_3 : ad167.block ≠ gb180 := Nat.ne_of_lt (Nat.lt_of_lt_of_le (by have := World.block_lt_of_cell? _ _ hx181_0; first | rwa [add_block] at this | exact this) GW180.out); replace hx181_0 := (HB.out.cell (World.block_lt_of_cell? w _ hx181_0)).trans hx181_0; replace hx181_0 := (cell_far (p := ⟨gb180, 0, none⟩) (by first | (rw [add_block]; exact hn181_0) | (show (Addr.add _ _).block ≠ _; rw [add_block]; exact hn181_0) | exact hn181_0) (.int .i64 (wrap64 (rd l0 3)))).trans hx181_0; replace hx181_0 := (cell_far (p := ⟨gb180, 1, none⟩) (by first | (rw [add_block]; exact hn181_1) | (show (Addr.add _ _).block ≠ _; rw [add_block]; exact hn181_1) | exact hn181_1) (.int .i64 (-1))).trans hx181_0; replace hx181_0 := (cell_far (p := ⟨gb180, 2, none⟩) (by first | (rw [add_block]; exact hn181_2) | (show (Addr.add _ _).block ≠ _; rw [add_block]; exact hn181_2) | exact hn181_2) (.int .i64 (-1))).trans hx181_0; replace hx181_0 := (cell_far (p := ⟨gb180, 3, none⟩) (by first | (rw [add_block]; exact hn181_3) | (show (Addr.add _ _).block ≠ _; rw [add_block]; exact hn181_3) | exact hn181_3) (.slice none 0 0)).trans hx181_0; (try have hy181_0 := fun (n_ : Nat) => (show ((((((w32.drewN n_).setCell ⟨gb180, 0, none⟩ (.int .i64 (wrap64 (rd l0 3)))).setCell ⟨gb180, 1, none⟩ (.int .i64 (-1))).setCell ⟨gb180, 2, none⟩ (.int .i64 (-1))).setCell ⟨gb180, 3, none⟩ (.slice none 0 0))).cell? _ = some _ from hx181_0)); clear hn181_0; clear hn181_1; clear hn181_2; clear hn181_3; replace p181 := eq_true p181; replace q181 := eq_true q181)); go_upto_block 0 with (first | ((with_reducible refine gate_dst (N := 9) rfl ?_); refine box_event ?hg (N := 9) ?hd (cs := #[.int .i64 0, .int .i64 0, .int .i64 0, .slice none 0 0]) (t := 30) ?hr ?_; (case hd => rfl); (case hg => rfl); (case hr => first | (go_simp; done) | (go_simp; rfl)); intro gb180 hg w32 hbox hb; have n0_ := Aside0.mk (blk_below (g := gb166) (o := .cells #[.int .i64 0, .int .i64 0, .int .i64 0, .slice none 0 0] 30 (0, 0)) (by (with_reducible repeat (first | refine blk_drewN ?_ _ | refine blk_drew ?_ | refine blk_alloc ?_ _)); exact BK166.out) hb); have n1_ := Aside0.mk (below_step (by repeat (first | (with_reducible first | exact HB.out | apply below_alloc | apply pw_below_drewN | apply below_drew1 | refine below_set ?_ GE166.out) | exact HB.out)) hb); have n2_ := Aside0.mk (hbox); have n3_ := Aside0.mk ((by rw [hg]; exact (below_size (by repeat (first | (with_reducible first | exact HB.out | apply below_alloc | apply pw_below_drewN | apply below_drew1 | refine below_set ?_ GE166.out) | exact HB.out))) : w.heap.size ≤ gb180)); have n4_ := Aside0.mk ((by rw [hg]; exact (below_size (by repeat (first | (with_reducible first | exact HB.out | apply below_alloc | apply pw_below_drewN | apply below_drew1 | refine below_set ?_ GE166.out) | exact HB.out))) : w.heap.size ≤ gb180)); have n5_ := Aside0.mk ((by rw [hg]; exact Nat.ne_of_lt (blk_lt (g := gb166) (o := .cells #[.int .i64 0, .int .i64 0, .int .i64 0, .slice none 0 0] 30 (0, 0)) (by (with_reducible repeat (first | refine blk_drewN ?_ _ | refine blk_drew ?_ | refine blk_alloc ?_ _)); exact BK166.out)) : gb166 ≠ gb180)); have n6_ := Aside0.mk ((by rw [hg]; exact Nat.ne_of_gt (blk_lt (g := gb166) (o := .cells #[.int .i64 0, .int .i64 0, .int .i64 0, .slice none 0 0] 30 (0, 0)) (by (with_reducible repeat (first | refine blk_drewN ?_ _ | refine blk_drew ?_ | refine blk_alloc ?_ _)); exact BK166.out)) : gb180 ≠ gb166)); clear BK166; clear HB; have BK166 := n0_; have HB := n1_; have BK180 := n2_; have GW180 := n3_; have GE180 := n4_; have NB166_180 := n5_; have NB180_166 := n6_; clear n0_ n1_ n2_ n3_ n4_ n5_ n6_; clear hb hbox hg; have hnb33 := NB180_166.out; have hnc33 := NB166_180.out; have hcz34_0 : w32.cell? ⟨gb180, 0, none⟩ = some (.int .i64 0) := (blk_cell BK180.out 0).trans rfl; have hcz34_1 : w32.cell? ⟨gb180, 1, none⟩ = some (.int .i64 0) := (blk_cell BK180.out 1).trans rfl; have hcz34_2 : w32.cell? ⟨gb180, 2, none⟩ = some (.int .i64 0) := (blk_cell BK180.out 2).trans rfl; have hcz34_3 : w32.cell? ⟨gb180, 3, none⟩ = some (.slice none 0 0) := (blk_cell BK180.out 3).trans rfl; have hfz34_0 := blk_frozen BK180.out 0; have hfz34_1 := blk_frozen BK180.out 1; have hfz34_2 := blk_frozen BK180.out 2; have hfz34_3 := blk_frozen BK180.out 3; have p181 : 0 ≤ (7 : Int) := (by omega); have q181 : 7 < (l0.length : Int) := of_decide_eq_true (by first | (with_reducible assumption) | assumption); obtain ⟨ad181, e181, hx181_0⟩ := Kd.at_int HR0.out 7 p181 q181; obtain rfl : ad167 = ad181 := (by injection e181); (try simp only [show (7 : Int).toNat = 7 from rfl, Nat.reduceMul, Nat.reduceEqDiff, Go.Addr.add, ↓reduceIte] at hx181_0); have qi181 : (7 < l0.length) = True := eq_true (by omega); (try rw [show ((7 : Int)).toNat = 7 from rfl] at hx181_0); have hn181_0 : ad167.block ≠ gb180 := Nat.ne_of_lt (Nat.lt_of_lt_of_le (by have := World.block_lt_of_cell? _ _ hx181_0; first | rwa [add_block] at this | exact this) GW180.out); have hn181_1 : ad167.block ≠ gb180 := Nat.ne_of_lt (Nat.lt_of_lt_of_le (by have := World.block_lt_of_cell? _ _ hx181_0; first | rwa [add_block] at this | exact this) GW180.out); have hn181_2 : ad167.block ≠ gb180 := Nat.ne_of_lt (Nat.lt_of_lt_of_le (by have := World.block_lt_of_cell? _ _ hx181_0; first | rwa [add_block] at this | exact this) GW180.out); have hn181_3 : ad167.block ≠ gb180 := Nat.ne_of_lt (Nat.lt_of_lt_of_le (by have := World.block_lt_of_cell? _ _ hx181_0; first | rwa [add_block] at this | exact this) GW180.out); replace hx181_0 := (HB.out.cell (World.block_lt_of_cell? w _ hx181_0)).trans hx181_0; replace hx181_0 := (cell_far (p := ⟨gb180, 0, none⟩) (by first | (rw [add_block]; exact hn181_0) | (show (Addr.add _ _).block ≠ _; rw [add_block]; exact hn181_0) | exact hn181_0) (.int .i64 (wrap64 (rd l0 3)))).trans hx181_0; replace hx181_0 := (cell_far (p := ⟨gb180, 1, none⟩) (by first | (rw [add_block]; exact hn181_1) | (show (Addr.add _ _).block ≠ _; rw [add_block]; exact hn181_1) | exact hn181_1) (.int .i64 (-1))).trans hx181_0; replace hx181_0 := (cell_far (p := ⟨gb180, 2, none⟩) (by first | (rw [add_block]; exact hn181_2) | (show (Addr.add _ _).block ≠ _; rw [add_block]; exact hn181_2) | exact hn181_2) (.int .i64 (-1))).trans hx181_0; replace hx181_0 := (cell_far (p := ⟨gb180, 3, none⟩) (by first | (rw [add_block]; exact hn181_3) | (show (Addr.add _ _).block ≠ _; rw [add_block]; exact hn181_3) | exact hn181_3) (.slice none 0 0)).trans hx181_0; (try have hy181_0 := fun (n_ : Nat) => (show ((((((w32.drewN n_).setCell ⟨gb180, 0, none⟩ (.int .i64 (wrap64 (rd l0 3)))).setCell ⟨gb180, 1, none⟩ (.int .i64 (-1))).setCell ⟨gb180, 2, none⟩ (.int .i64 (-1))).setCell ⟨gb180, 3, none⟩ (.slice none 0 0))).cell? _ = some _ from hx181_0)); clear hn181_0; clear hn181_1; clear hn181_2; clear hn181_3; replace p181 := eq_true p181; replace q181 := eq_true q181)))
                      (try simp only [Act.put, List.setIfInBounds_toArray, List.set_cons_zero, List.set_cons_succ])
                      go_cut [10, 11] (fun v10 v11 wc => ∃ (kq : Nat) (x10_30 : Bool) (x11_30 : Bool) (x181001_30 : Int) (x181002_30 : Int), v10 = .bool x10_30 ∧ v11 = .bool x11_30 ∧ Aside0 (pes_Take.j1 kq l0 t170 (wrap64 (6 + (Go.bits .or .i64 (wrap64 ((wrap64 (rd l0 4)) * 256)) (wrap64 (rd l0 5))))) x10_30 x11_30 (wrap64 (rd l0 3)) x181001_30 x181002_30 = some (r1, r2, r3, r4, r5, r6)) ∧ Aside0 (kq ≤ kj8) ∧ Aside0 (wc.heap[gb166]? = some (.cells #[.int .i64 0, .int .i64 0, .int .i64 0, (.slice none 0 0)] 30 (0, 0))) ∧ Aside0 (wc.heap[gb180]? = some (.cells #[.int .i64 (wrap64 (rd l0 3)), .int .i64 x181001_30, .int .i64 x181002_30, (.slice none 0 0)] 30 (0, 0))) ∧ Aside0 (Below w.heap.size w wc))
                      case first =>
                        have H := HC31.out
                        clear HC31
                        by_cases c35 : (rd l0 7) = 128
                        · rw [if_pos c35] at H
                          have c35b0 : ((rd l0 7) == 128) = true := beq_iff_eq.mpr c35
                          have c35b1 : ((rd l0 7) != 128) = false := bne_eq_false_iff_eq.mpr c35
                          clear c35
                          (first | rw [c35b0] | (simp only [i64_w, i32_w]; rw [c35b0]) | skip)
                          by_cases c36 : 9 ≤ (l0.length : Int)
                          · rw [if_pos c36] at H
                            have c36b0 := eq_true c36
                            have c36b1 : decide (9 ≤ (l0.length : Int)) = true := decide_eq_true c36
                            clear c36
                            replace H := Option.bind_eq_some_iff.mp H
                            obtain ⟨⟨t183, t184⟩, A370, H⟩ := H
                            replace H : (pes_Take.j1 kj8 l0 t170 (wrap64 (6 + (Go.bits .or .i64 (wrap64 ((wrap64 (rd l0 4)) * 256)) (wrap64 (rd l0 5))))) t184 true (wrap64 (rd l0 3)) t183 (-1)) = some (r1, r2, r3, r4, r5, r6) := H
                            have A37 := Aside0.mk A370
                            clear A370
                            have H' := Aside0.mk H
                            clear H
                            obtain ⟨i038, hi038, _, hsz38, _⟩ := info_parts info5
                            obtain ⟨A38, hcut38, hA38, hC38⟩ := print_drop_of (P := Try.prog) (Value.int .u8) 0 27 5 .i64 Try.underlying27 hi038 hsz38 (some ad167) c0 l0 9 (by omega) (of_decide_eq_true (by first | (with_reducible assumption) | assumption)) HC0.out
                            have HR182 := Aside0.mk (Kd.C_of_reads (h1 := fun _ => rfl) (hA38 _ (Kd.reads_of_C HR0.out)))
                            have HC182 := Aside0.mk hC38
                            clear hA38 hC38 hi038 hsz38
                            go_wp2_with (first | (go_at_call 37; refine calls_of_args (args' := #[.slice A38 (l0.drop 9).length (c0 - 9), .int .i64 2]) (by first | rfl | (rw [show (l0.drop 9).length = (l0.length - 9) from List.length_drop]; done) | (simp only [List.length_drop, List.length_take]; done) | (simp only [List.length_drop, List.length_take]; rfl)) ?_; (with_reducible refine (pes_unstamp.calls _ _ (l0.drop 9) 2 t183 t184 _ ?side1 ?side2 A37.out).mono ?_); (case side1 => exact Kd.C_below HR182.out (by repeat (first | (with_reducible first | exact HB.out | apply below_alloc | apply pw_below_drewN | apply below_drew1 | refine below_set ?_ GE166.out | refine below_set ?_ GE180.out) | exact HB.out))); (case side2 => exact HC182.out); rintro e w' ⟨rfl, ⟨nd, rfl⟩⟩; (try first | exact ⟨rfl, _, World.drewN_drewN _ _ _⟩ | exact ⟨rfl, _, Eq.trans (World.drewN_drewN _ _ _) (congrArg (World.drewN _) (Nat.add_assoc _ _ _))⟩); (try (have hnb39 := NB180_166.out)); (try (have hnc39 := NB166_180.out)); (try (have hcz40_0 : w32.cell? ⟨gb180, 0, none⟩ = some (.int .i64 0) := (blk_cell BK180.out 0).trans rfl)); (try (have hcz40_1 : w32.cell? ⟨gb180, 1, none⟩ = some (.int .i64 0) := (blk_cell BK180.out 1).trans rfl)); (try (have hcz40_2 : w32.cell? ⟨gb180, 2, none⟩ = some (.int .i64 0) := (blk_cell BK180.out 2).trans rfl)); (try (have hcz40_3 : w32.cell? ⟨gb180, 3, none⟩ = some (.slice none 0 0) := (blk_cell BK180.out 3).trans rfl)); (try (have hfz40_0 := blk_frozen BK180.out 0)); (try (have hfz40_1 := blk_frozen BK180.out 1)); (try (have hfz40_2 := blk_frozen BK180.out 2)); (try (have hfz40_3 := blk_frozen BK180.out 3))))
                            repeat (go_quiet (first | (go_at_call 37; refine calls_of_args (args' := #[.slice A38 (l0.drop 9).length (c0 - 9), .int .i64 2]) (by first | rfl | (rw [show (l0.drop 9).length = (l0.length - 9) from List.length_drop]; done) | (simp only [List.length_drop, List.length_take]; done) | (simp only [List.length_drop, List.length_take]; rfl)) ?_; (with_reducible refine (pes_unstamp.calls _ _ (l0.drop 9) 2 t183 t184 _ ?side1 ?side2 A37.out).mono ?_); (case side1 => exact Kd.C_below HR182.out (by repeat (first | (with_reducible first | exact HB.out | apply below_alloc | apply pw_below_drewN | apply below_drew1 | refine below_set ?_ GE166.out | refine below_set ?_ GE180.out) | exact HB.out))); (case side2 => exact HC182.out); rintro e w' ⟨rfl, ⟨nd, rfl⟩⟩; (try first | exact ⟨rfl, _, World.drewN_drewN _ _ _⟩ | exact ⟨rfl, _, Eq.trans (World.drewN_drewN _ _ _) (congrArg (World.drewN _) (Nat.add_assoc _ _ _))⟩); (try (have hnb39 := NB180_166.out)); (try (have hnc39 := NB166_180.out)); (try (have hcz40_0 : w32.cell? ⟨gb180, 0, none⟩ = some (.int .i64 0) := (blk_cell BK180.out 0).trans rfl)); (try (have hcz40_1 : w32.cell? ⟨gb180, 1, none⟩ = some (.int .i64 0) := (blk_cell BK180.out 1).trans rfl)); (try (have hcz40_2 : w32.cell? ⟨gb180, 2, none⟩ = some (.int .i64 0) := (blk_cell BK180.out 2).trans rfl)); (try (have hcz40_3 : w32.cell? ⟨gb180, 3, none⟩ = some (.slice none 0 0) := (blk_cell BK180.out 3).trans rfl)); (try (have hfz40_0 := blk_frozen BK180.out 0)); (try (have hfz40_1 := blk_frozen BK180.out 1)); (try (have hfz40_2 := blk_frozen BK180.out 2)); (try (have hfz40_3 := blk_frozen BK180.out 3)))); try go_wp2_with (first | (go_at_call 37; refine calls_of_args (args' := #[.slice A38 (l0.drop 9).length (c0 - 9), .int .i64 2]) (by first | rfl | (rw [show (l0.drop 9).length = (l0.length - 9) from List.length_drop]; done) | (simp only [List.length_drop, List.length_take]; done) | (simp only [List.length_drop, List.length_take]; rfl)) ?_; (with_reducible refine (pes_unstamp.calls _ _ (l0.drop 9) 2 t183 t184 _ ?side1 ?side2 A37.out).mono ?_); (case side1 => exact Kd.C_below HR182.out (by repeat (first | (with_reducible first | exact HB.out | apply below_alloc | apply pw_below_drewN | apply below_drew1 | refine below_set ?_ GE166.out | refine below_set ?_ GE180.out) | exact HB.out))); (case side2 => exact HC182.out); rintro e w' ⟨rfl, ⟨nd, rfl⟩⟩; (try first | exact ⟨rfl, _, World.drewN_drewN _ _ _⟩ | exact ⟨rfl, _, Eq.trans (World.drewN_drewN _ _ _) (congrArg (World.drewN _) (Nat.add_assoc _ _ _))⟩); (try (have hnb39 := NB180_166.out)); (try (have hnc39 := NB166_180.out)); (try (have hcz40_0 : w32.cell? ⟨gb180, 0, none⟩ = some (.int .i64 0) := (blk_cell BK180.out 0).trans rfl)); (try (have hcz40_1 : w32.cell? ⟨gb180, 1, none⟩ = some (.int .i64 0) := (blk_cell BK180.out 1).trans rfl)); (try (have hcz40_2 : w32.cell? ⟨gb180, 2, none⟩ = some (.int .i64 0) := (blk_cell BK180.out 2).trans rfl)); (try (have hcz40_3 : w32.cell? ⟨gb180, 3, none⟩ = some (.slice none 0 0) := (blk_cell BK180.out 3).trans rfl)); (try (have hfz40_0 := blk_frozen BK180.out 0)); (try (have hfz40_1 := blk_frozen BK180.out 1)); (try (have hfz40_2 := blk_frozen BK180.out 2)); (try (have hfz40_3 := blk_frozen BK180.out 3)))))
                            go_meet
                            case rel => exact ⟨_, (t184), (true), (t183), ((-1)), (by first | rfl | (simp; done) | (simp [*]; done)), (by first | rfl | (simp; done) | (simp [*]; done)), H', ⟨by have := HJ8.out; first | omega | exact Nat.le_refl _⟩, ⟨by (with_reducible repeat (first | refine blk_drewN ?_ _ | refine blk_drew ?_ | refine blk_alloc ?_ _)); refine blk_far ?_ NB166_180.out _; (with_reducible repeat (first | refine blk_drewN ?_ _ | refine blk_drew ?_ | refine blk_alloc ?_ _)); refine blk_far ?_ NB166_180.out _; (with_reducible repeat (first | refine blk_drewN ?_ _ | refine blk_drew ?_ | refine blk_alloc ?_ _)); refine blk_far ?_ NB166_180.out _; (with_reducible repeat (first | refine blk_drewN ?_ _ | refine blk_drew ?_ | refine blk_alloc ?_ _)); refine blk_far ?_ NB166_180.out _; (with_reducible repeat (first | refine blk_drewN ?_ _ | refine blk_drew ?_ | refine blk_alloc ?_ _)); refine blk_far ?_ NB166_180.out _; (with_reducible repeat (first | refine blk_drewN ?_ _ | refine blk_drew ?_ | refine blk_alloc ?_ _)); exact BK166.out⟩, ⟨by (with_reducible repeat (first | refine blk_drewN ?_ _ | refine blk_drew ?_ | refine blk_alloc ?_ _)); refine blk_put (cs := #[.int .i64 (wrap64 (rd l0 3)), .int .i64 (-1), .int .i64 (-1), .slice none 0 0]) ?_ 1 _ rfl; (with_reducible repeat (first | refine blk_drewN ?_ _ | refine blk_drew ?_ | refine blk_alloc ?_ _)); refine blk_put (cs := #[.int .i64 (wrap64 (rd l0 3)), .int .i64 (-1), .int .i64 (-1), .slice none 0 0]) ?_ 3 _ rfl; (with_reducible repeat (first | refine blk_drewN ?_ _ | refine blk_drew ?_ | refine blk_alloc ?_ _)); refine blk_put (cs := #[.int .i64 (wrap64 (rd l0 3)), .int .i64 (-1), .int .i64 0, .slice none 0 0]) ?_ 2 _ rfl; (with_reducible repeat (first | refine blk_drewN ?_ _ | refine blk_drew ?_ | refine blk_alloc ?_ _)); refine blk_put (cs := #[.int .i64 (wrap64 (rd l0 3)), .int .i64 0, .int .i64 0, .slice none 0 0]) ?_ 1 _ rfl; (with_reducible repeat (first | refine blk_drewN ?_ _ | refine blk_drew ?_ | refine blk_alloc ?_ _)); refine blk_put (cs := #[.int .i64 0, .int .i64 0, .int .i64 0, .slice none 0 0]) ?_ 0 _ rfl; (with_reducible repeat (first | refine blk_drewN ?_ _ | refine blk_drew ?_ | refine blk_alloc ?_ _)); exact BK180.out⟩, ⟨by repeat (first | (with_reducible first | exact HB.out | apply below_alloc | apply pw_below_drewN | apply below_drew1 | refine below_set ?_ GE166.out | refine below_set ?_ GE180.out) | exact HB.out)⟩⟩
                          · rw [if_neg c36] at H
                            exact absurd H (by simp)
                        · rw [if_neg c35] at H
                          have c35b0 : ((rd l0 7) == 128) = false := beq_eq_false_iff_ne.mpr c35
                          have c35b1 : ((rd l0 7) != 128) = true := bne_iff_ne.mpr c35
                          (first | rw [c35b0] | (simp only [i64_w, i32_w]; rw [c35b0]) | skip)
                          by_cases c41 : (rd l0 7) = 192
                          · rw [if_pos c41] at H
                            have c41b0 : ((rd l0 7) == 192) = true := beq_iff_eq.mpr c41
                            have c41b1 : ((rd l0 7) != 192) = false := bne_eq_false_iff_eq.mpr c41
                            clear c41
                            by_cases c42 : 9 ≤ (l0.length : Int)
                            · rw [if_pos c42] at H
                              have c42b0 := eq_true c42
                              have c42b1 : decide (9 ≤ (l0.length : Int)) = true := decide_eq_true c42
                              clear c42
                              replace H := Option.bind_eq_some_iff.mp H
                              obtain ⟨⟨t186, t187⟩, A430, H⟩ := H
                              replace H : (if 14 ≤ (l0.length : Int) then ((pes_unstamp.f (l0.drop 14) 1).bind fun bt189 => (pes_Take.j1 kj8 l0 t170 (wrap64 (6 + (Go.bits .or .i64 (wrap64 ((wrap64 (rd l0 4)) * 256)) (wrap64 (rd l0 5))))) t187 bt189.2 (wrap64 (rd l0 3)) t186 bt189.1)) else (none)) = some (r1, r2, r3, r4, r5, r6) := H
                              have A43 := Aside0.mk A430
                              clear A430
                              by_cases c44 : 14 ≤ (l0.length : Int)
                              · rw [if_pos c44] at H
                                have c44b0 := eq_true c44
                                have c44b1 : decide (14 ≤ (l0.length : Int)) = true := decide_eq_true c44
                                clear c44
                                replace H := Option.bind_eq_some_iff.mp H
                                obtain ⟨⟨t189, t190⟩, A450, H⟩ := H
                                replace H : (pes_Take.j1 kj8 l0 t170 (wrap64 (6 + (Go.bits .or .i64 (wrap64 ((wrap64 (rd l0 4)) * 256)) (wrap64 (rd l0 5))))) t187 t190 (wrap64 (rd l0 3)) t186 t189) = some (r1, r2, r3, r4, r5, r6) := H
                                have A45 := Aside0.mk A450
                                clear A450
                                have H' := Aside0.mk H
                                clear H
                                obtain ⟨i046, hi046, _, hsz46, _⟩ := info_parts info5
                                obtain ⟨A46, hcut46, hA46, hC46⟩ := print_drop_of (P := Try.prog) (Value.int .u8) 0 27 5 .i64 Try.underlying27 hi046 hsz46 (some ad167) c0 l0 9 (by omega) (of_decide_eq_true (by first | (with_reducible assumption) | assumption)) HC0.out
                                have HR185 := Aside0.mk (Kd.C_of_reads (h1 := fun _ => rfl) (hA46 _ (Kd.reads_of_C HR0.out)))
                                have HC185 := Aside0.mk hC46
                                clear hA46 hC46 hi046 hsz46
                                go_wp2_with (first | (go_at_call 37; refine calls_of_args (args' := #[.slice A46 (l0.drop 9).length (c0 - 9), .int .i64 3]) (by first | rfl | (rw [show (l0.drop 9).length = (l0.length - 9) from List.length_drop]; done) | (simp only [List.length_drop, List.length_take]; done) | (simp only [List.length_drop, List.length_take]; rfl)) ?_; (with_reducible refine (pes_unstamp.calls _ _ (l0.drop 9) 3 t186 t187 _ ?side1 ?side2 A43.out).mono ?_); (case side1 => exact Kd.C_below HR185.out (by repeat (first | (with_reducible first | exact HB.out | apply below_alloc | apply pw_below_drewN | apply below_drew1 | refine below_set ?_ GE166.out | refine below_set ?_ GE180.out) | exact HB.out))); (case side2 => exact HC185.out); rintro e w' ⟨rfl, ⟨nd, rfl⟩⟩; (try first | exact ⟨rfl, _, World.drewN_drewN _ _ _⟩ | exact ⟨rfl, _, Eq.trans (World.drewN_drewN _ _ _) (congrArg (World.drewN _) (Nat.add_assoc _ _ _))⟩); (try (have hnb47 := NB180_166.out)); (try (have hnc47 := NB166_180.out)); (try (have hcz48_0 : w32.cell? ⟨gb180, 0, none⟩ = some (.int .i64 0) := (blk_cell BK180.out 0).trans rfl)); (try (have hcz48_1 : w32.cell? ⟨gb180, 1, none⟩ = some (.int .i64 0) := (blk_cell BK180.out 1).trans rfl)); (try (have hcz48_2 : w32.cell? ⟨gb180, 2, none⟩ = some (.int .i64 0) := (blk_cell BK180.out 2).trans rfl)); (try (have hcz48_3 : w32.cell? ⟨gb180, 3, none⟩ = some (.slice none 0 0) := (blk_cell BK180.out 3).trans rfl)); (try (have hfz48_0 := blk_frozen BK180.out 0)); (try (have hfz48_1 := blk_frozen BK180.out 1)); (try (have hfz48_2 := blk_frozen BK180.out 2)); (try (have hfz48_3 := blk_frozen BK180.out 3)); (try (obtain ⟨i049, hi049, _, hsz49, _⟩ := info_parts info5)); (try (obtain ⟨A49, hcut49, hA49, hC49⟩ := print_drop_of (P := Try.prog) (Value.int .u8) 0 27 5 .i64 Try.underlying27 hi049 hsz49 (some ad167) c0 l0 14 (by omega) (of_decide_eq_true (by first | (with_reducible assumption) | assumption)) HC0.out)); (try (have HR188 := Aside0.mk (Kd.C_of_reads (h1 := fun _ => rfl) (hA49 _ (Kd.reads_of_C HR0.out))))); (try (have HC188 := Aside0.mk hC49)); (try (clear hA49 hC49 hi049 hsz49))) | (go_at_call 37; refine calls_of_args (args' := #[.slice A49 (l0.drop 14).length (c0 - 14), .int .i64 1]) (by first | rfl | (rw [show (l0.drop 14).length = (l0.length - 14) from List.length_drop]; done) | (simp only [List.length_drop, List.length_take]; done) | (simp only [List.length_drop, List.length_take]; rfl)) ?_; (with_reducible refine (pes_unstamp.calls _ _ (l0.drop 14) 1 t189 t190 _ ?side1 ?side2 A45.out).mono ?_); (case side1 => exact Kd.C_below HR188.out (by repeat (first | (with_reducible first | exact HB.out | apply below_alloc | apply pw_below_drewN | apply below_drew1 | refine below_set ?_ GE166.out | refine below_set ?_ GE180.out) | exact HB.out))); (case side2 => exact HC188.out); rintro e w' ⟨rfl, ⟨nd, rfl⟩⟩; (try first | exact ⟨rfl, _, World.drewN_drewN _ _ _⟩ | exact ⟨rfl, _, Eq.trans (World.drewN_drewN _ _ _) (congrArg (World.drewN _) (Nat.add_assoc _ _ _))⟩)))
                                repeat (go_quiet (first | (go_at_call 37; refine calls_of_args (args' := #[.slice A46 (l0.drop 9).length (c0 - 9), .int .i64 3]) (by first | rfl | (rw [show (l0.drop 9).length = (l0.length - 9) from List.length_drop]; done) | (simp only [List.length_drop, List.length_take]; done) | (simp only [List.length_drop, List.length_take]; rfl)) ?_; (with_reducible refine (pes_unstamp.calls _ _ (l0.drop 9) 3 t186 t187 _ ?side1 ?side2 A43.out).mono ?_); (case side1 => exact Kd.C_below HR185.out (by repeat (first | (with_reducible first | exact HB.out | apply below_alloc | apply pw_below_drewN | apply below_drew1 | refine below_set ?_ GE166.out | refine below_set ?_ GE180.out) | exact HB.out))); (case side2 => exact HC185.out); rintro e w' ⟨rfl, ⟨nd, rfl⟩⟩; (try first | exact ⟨rfl, _, World.drewN_drewN _ _ _⟩ | exact ⟨rfl, _, Eq.trans (World.drewN_drewN _ _ _) (congrArg (World.drewN _) (Nat.add_assoc _ _ _))⟩); (try (have hnb47 := NB180_166.out)); (try (have hnc47 := NB166_180.out)); (try (have hcz48_0 : w32.cell? ⟨gb180, 0, none⟩ = some (.int .i64 0) := (blk_cell BK180.out 0).trans rfl)); (try (have hcz48_1 : w32.cell? ⟨gb180, 1, none⟩ = some (.int .i64 0) := (blk_cell BK180.out 1).trans rfl)); (try (have hcz48_2 : w32.cell? ⟨gb180, 2, none⟩ = some (.int .i64 0) := (blk_cell BK180.out 2).trans rfl)); (try (have hcz48_3 : w32.cell? ⟨gb180, 3, none⟩ = some (.slice none 0 0) := (blk_cell BK180.out 3).trans rfl)); (try (have hfz48_0 := blk_frozen BK180.out 0)); (try (have hfz48_1 := blk_frozen BK180.out 1)); (try (have hfz48_2 := blk_frozen BK180.out 2)); (try (have hfz48_3 := blk_frozen BK180.out 3)); (try (obtain ⟨i049, hi049, _, hsz49, _⟩ := info_parts info5)); (try (obtain ⟨A49, hcut49, hA49, hC49⟩ := print_drop_of (P := Try.prog) (Value.int .u8) 0 27 5 .i64 Try.underlying27 hi049 hsz49 (some ad167) c0 l0 14 (by omega) (of_decide_eq_true (by first | (with_reducible assumption) | assumption)) HC0.out)); (try (have HR188 := Aside0.mk (Kd.C_of_reads (h1 := fun _ => rfl) (hA49 _ (Kd.reads_of_C HR0.out))))); (try (have HC188 := Aside0.mk hC49)); (try (clear hA49 hC49 hi049 hsz49))) | (go_at_call 37; refine calls_of_args (args' := #[.slice A49 (l0.drop 14).length (c0 - 14), .int .i64 1]) (by first | rfl | (rw [show (l0.drop 14).length = (l0.length - 14) from List.length_drop]; done) | (simp only [List.length_drop, List.length_take]; done) | (simp only [List.length_drop, List.length_take]; rfl)) ?_; (with_reducible refine (pes_unstamp.calls _ _ (l0.drop 14) 1 t189 t190 _ ?side1 ?side2 A45.out).mono ?_); (case side1 => exact Kd.C_below HR188.out (by repeat (first | (with_reducible first | exact HB.out | apply below_alloc | apply pw_below_drewN | apply below_drew1 | refine below_set ?_ GE166.out | refine below_set ?_ GE180.out) | exact HB.out))); (case side2 => exact HC188.out); rintro e w' ⟨rfl, ⟨nd, rfl⟩⟩; (try first | exact ⟨rfl, _, World.drewN_drewN _ _ _⟩ | exact ⟨rfl, _, Eq.trans (World.drewN_drewN _ _ _) (congrArg (World.drewN _) (Nat.add_assoc _ _ _))⟩))); try go_wp2_with (first | (go_at_call 37; refine calls_of_args (args' := #[.slice A46 (l0.drop 9).length (c0 - 9), .int .i64 3]) (by first | rfl | (rw [show (l0.drop 9).length = (l0.length - 9) from List.length_drop]; done) | (simp only [List.length_drop, List.length_take]; done) | (simp only [List.length_drop, List.length_take]; rfl)) ?_; (with_reducible refine (pes_unstamp.calls _ _ (l0.drop 9) 3 t186 t187 _ ?side1 ?side2 A43.out).mono ?_); (case side1 => exact Kd.C_below HR185.out (by repeat (first | (with_reducible first | exact HB.out | apply below_alloc | apply pw_below_drewN | apply below_drew1 | refine below_set ?_ GE166.out | refine below_set ?_ GE180.out) | exact HB.out))); (case side2 => exact HC185.out); rintro e w' ⟨rfl, ⟨nd, rfl⟩⟩; (try first | exact ⟨rfl, _, World.drewN_drewN _ _ _⟩ | exact ⟨rfl, _, Eq.trans (World.drewN_drewN _ _ _) (congrArg (World.drewN _) (Nat.add_assoc _ _ _))⟩); (try (have hnb47 := NB180_166.out)); (try (have hnc47 := NB166_180.out)); (try (have hcz48_0 : w32.cell? ⟨gb180, 0, none⟩ = some (.int .i64 0) := (blk_cell BK180.out 0).trans rfl)); (try (have hcz48_1 : w32.cell? ⟨gb180, 1, none⟩ = some (.int .i64 0) := (blk_cell BK180.out 1).trans rfl)); (try (have hcz48_2 : w32.cell? ⟨gb180, 2, none⟩ = some (.int .i64 0) := (blk_cell BK180.out 2).trans rfl)); (try (have hcz48_3 : w32.cell? ⟨gb180, 3, none⟩ = some (.slice none 0 0) := (blk_cell BK180.out 3).trans rfl)); (try (have hfz48_0 := blk_frozen BK180.out 0)); (try (have hfz48_1 := blk_frozen BK180.out 1)); (try (have hfz48_2 := blk_frozen BK180.out 2)); (try (have hfz48_3 := blk_frozen BK180.out 3)); (try (obtain ⟨i049, hi049, _, hsz49, _⟩ := info_parts info5)); (try (obtain ⟨A49, hcut49, hA49, hC49⟩ := print_drop_of (P := Try.prog) (Value.int .u8) 0 27 5 .i64 Try.underlying27 hi049 hsz49 (some ad167) c0 l0 14 (by omega) (of_decide_eq_true (by first | (with_reducible assumption) | assumption)) HC0.out)); (try (have HR188 := Aside0.mk (Kd.C_of_reads (h1 := fun _ => rfl) (hA49 _ (Kd.reads_of_C HR0.out))))); (try (have HC188 := Aside0.mk hC49)); (try (clear hA49 hC49 hi049 hsz49))) | (go_at_call 37; refine calls_of_args (args' := #[.slice A49 (l0.drop 14).length (c0 - 14), .int .i64 1]) (by first | rfl | (rw [show (l0.drop 14).length = (l0.length - 14) from List.length_drop]; done) | (simp only [List.length_drop, List.length_take]; done) | (simp only [List.length_drop, List.length_take]; rfl)) ?_; (with_reducible refine (pes_unstamp.calls _ _ (l0.drop 14) 1 t189 t190 _ ?side1 ?side2 A45.out).mono ?_); (case side1 => exact Kd.C_below HR188.out (by repeat (first | (with_reducible first | exact HB.out | apply below_alloc | apply pw_below_drewN | apply below_drew1 | refine below_set ?_ GE166.out | refine below_set ?_ GE180.out) | exact HB.out))); (case side2 => exact HC188.out); rintro e w' ⟨rfl, ⟨nd, rfl⟩⟩; (try first | exact ⟨rfl, _, World.drewN_drewN _ _ _⟩ | exact ⟨rfl, _, Eq.trans (World.drewN_drewN _ _ _) (congrArg (World.drewN _) (Nat.add_assoc _ _ _))⟩))))
                                go_meet
                                case rel => exact ⟨_, (t187), (t190), (t186), (t189), (by first | rfl | (simp; done) | (simp [*]; done)), (by first | rfl | (simp; done) | (simp [*]; done)), H', ⟨by have := HJ8.out; first | omega | exact Nat.le_refl _⟩, ⟨by (with_reducible repeat (first | refine blk_drewN ?_ _ | refine blk_drew ?_ | refine blk_alloc ?_ _)); refine blk_far ?_ NB166_180.out _; (with_reducible repeat (first | refine blk_drewN ?_ _ | refine blk_drew ?_ | refine blk_alloc ?_ _)); refine blk_far ?_ NB166_180.out _; (with_reducible repeat (first | refine blk_drewN ?_ _ | refine blk_drew ?_ | refine blk_alloc ?_ _)); refine blk_far ?_ NB166_180.out _; (with_reducible repeat (first | refine blk_drewN ?_ _ | refine blk_drew ?_ | refine blk_alloc ?_ _)); refine blk_far ?_ NB166_180.out _; (with_reducible repeat (first | refine blk_drewN ?_ _ | refine blk_drew ?_ | refine blk_alloc ?_ _)); refine blk_far ?_ NB166_180.out _; (with_reducible repeat (first | refine blk_drewN ?_ _ | refine blk_drew ?_ | refine blk_alloc ?_ _)); refine blk_far ?_ NB166_180.out _; (with_reducible repeat (first | refine blk_drewN ?_ _ | refine blk_drew ?_ | refine blk_alloc ?_ _)); exact BK166.out⟩, ⟨by (with_reducible repeat (first | refine blk_drewN ?_ _ | refine blk_drew ?_ | refine blk_alloc ?_ _)); refine blk_put (cs := #[.int .i64 (wrap64 (rd l0 3)), .int .i64 t186, .int .i64 (-1), .slice none 0 0]) ?_ 2 _ rfl; (with_reducible repeat (first | refine blk_drewN ?_ _ | refine blk_drew ?_ | refine blk_alloc ?_ _)); refine blk_put (cs := #[.int .i64 (wrap64 (rd l0 3)), .int .i64 (-1), .int .i64 (-1), .slice none 0 0]) ?_ 1 _ rfl; (with_reducible repeat (first | refine blk_drewN ?_ _ | refine blk_drew ?_ | refine blk_alloc ?_ _)); refine blk_put (cs := #[.int .i64 (wrap64 (rd l0 3)), .int .i64 (-1), .int .i64 (-1), .slice none 0 0]) ?_ 3 _ rfl; (with_reducible repeat (first | refine blk_drewN ?_ _ | refine blk_drew ?_ | refine blk_alloc ?_ _)); refine blk_put (cs := #[.int .i64 (wrap64 (rd l0 3)), .int .i64 (-1), .int .i64 0, .slice none 0 0]) ?_ 2 _ rfl; (with_reducible repeat (first | refine blk_drewN ?_ _ | refine blk_drew ?_ | refine blk_alloc ?_ _)); refine blk_put (cs := #[.int .i64 (wrap64 (rd l0 3)), .int .i64 0, .int .i64 0, .slice none 0 0]) ?_ 1 _ rfl; (with_reducible repeat (first | refine blk_drewN ?_ _ | refine blk_drew ?_ | refine blk_alloc ?_ _)); refine blk_put (cs := #[.int .i64 0, .int .i64 0, .int .i64 0, .slice none 0 0]) ?_ 0 _ rfl; (with_reducible repeat (first | refine blk_drewN ?_ _ | refine blk_drew ?_ | refine blk_alloc ?_ _)); exact BK180.out⟩, ⟨by repeat (first | (with_reducible first | exact HB.out | apply below_alloc | apply pw_below_drewN | apply below_drew1 | refine below_set ?_ GE166.out | refine below_set ?_ GE180.out) | exact HB.out)⟩⟩
                              · rw [if_neg c44] at H
                                exact absurd H (by simp)
                            · rw [if_neg c42] at H
                              exact absurd H (by simp)
                          · rw [if_neg c41] at H
                            have c41b0 : ((rd l0 7) == 192) = false := beq_eq_false_iff_ne.mpr c41
                            have c41b1 : ((rd l0 7) != 192) = true := bne_iff_ne.mpr c41
                            have H' := Aside0.mk H
                            clear H
                            go_wp2
                            repeat (go_quiet (fail); try go_wp2)
                            go_meet
                            case rel => exact ⟨_, (true), (true), ((-1)), ((-1)), (by first | rfl | (simp; done) | (simp [*]; done)), (by first | rfl | (simp; done) | (simp [*]; done)), H', ⟨by have := HJ8.out; first | omega | exact Nat.le_refl _⟩, ⟨by (with_reducible repeat (first | refine blk_drewN ?_ _ | refine blk_drew ?_ | refine blk_alloc ?_ _)); refine blk_far ?_ NB166_180.out _; (with_reducible repeat (first | refine blk_drewN ?_ _ | refine blk_drew ?_ | refine blk_alloc ?_ _)); refine blk_far ?_ NB166_180.out _; (with_reducible repeat (first | refine blk_drewN ?_ _ | refine blk_drew ?_ | refine blk_alloc ?_ _)); refine blk_far ?_ NB166_180.out _; (with_reducible repeat (first | refine blk_drewN ?_ _ | refine blk_drew ?_ | refine blk_alloc ?_ _)); refine blk_far ?_ NB166_180.out _; (with_reducible repeat (first | refine blk_drewN ?_ _ | refine blk_drew ?_ | refine blk_alloc ?_ _)); exact BK166.out⟩, ⟨by (with_reducible repeat (first | refine blk_drewN ?_ _ | refine blk_drew ?_ | refine blk_alloc ?_ _)); refine blk_put (cs := #[.int .i64 (wrap64 (rd l0 3)), .int .i64 (-1), .int .i64 (-1), .slice none 0 0]) ?_ 3 _ rfl; (with_reducible repeat (first | refine blk_drewN ?_ _ | refine blk_drew ?_ | refine blk_alloc ?_ _)); refine blk_put (cs := #[.int .i64 (wrap64 (rd l0 3)), .int .i64 (-1), .int .i64 0, .slice none 0 0]) ?_ 2 _ rfl; (with_reducible repeat (first | refine blk_drewN ?_ _ | refine blk_drew ?_ | refine blk_alloc ?_ _)); refine blk_put (cs := #[.int .i64 (wrap64 (rd l0 3)), .int .i64 0, .int .i64 0, .slice none 0 0]) ?_ 1 _ rfl; (with_reducible repeat (first | refine blk_drewN ?_ _ | refine blk_drew ?_ | refine blk_alloc ?_ _)); refine blk_put (cs := #[.int .i64 0, .int .i64 0, .int .i64 0, .slice none 0 0]) ?_ 0 _ rfl; (with_reducible repeat (first | refine blk_drewN ?_ _ | refine blk_drew ?_ | refine blk_alloc ?_ _)); exact BK180.out⟩, ⟨by repeat (first | (with_reducible first | exact HB.out | apply below_alloc | apply pw_below_drewN | apply below_drew1 | refine below_set ?_ GE166.out | refine below_set ?_ GE180.out) | exact HB.out)⟩⟩
                      case rest =>
                        clear HC31
                        try clear c1
                        try clear p1
                        try clear q1
                        try clear hx1
                        try clear qi1
                        try clear c2
                        try clear c2b0
                        try clear c2b1
                        try clear p2
                        try clear c3
                        try clear c4
                        try clear c5
                        try clear c5b0
                        try clear c5b1
                        try clear c6
                        try clear c6b0
                        try clear c6b1
                        try clear p6
                        try clear c7
                        try clear c7b0
                        try clear c7b1
                        try clear c11
                        try clear c12
                        try clear c12b0
                        try clear c12b1
                        try clear c13
                        try clear c13b0
                        try clear c13b1
                        try clear c14
                        try clear c14b0
                        try clear c14b1
                        try clear c15
                        try clear c15b0
                        try clear c15b1
                        try clear c16
                        try clear c16b0
                        try clear c16b1
                        try clear p16
                        try clear q16
                        try clear hx16
                        try clear qi16
                        try clear c17
                        try clear c17b0
                        try clear c17b1
                        try clear p17
                        try clear q17
                        try clear hx17
                        try clear qi17
                        try clear c18
                        try clear c18b0
                        try clear c18b1
                        try clear p18
                        try clear q18
                        try clear hx18
                        try clear qi18
                        try clear c19
                        try clear c19b0
                        try clear c20
                        try clear c20b0
                        try clear c21
                        try clear c21b0
                        try clear c21b1
                        try clear c22
                        try clear c22b0
                        try clear c22b1
                        try clear c23
                        try clear c23b0
                        try clear c23b1
                        try clear c24
                        try clear c24b0
                        try clear c24b1
                        try clear c25
                        try clear c27
                        try clear c27b0
                        try clear c29
                        try clear c29b0
                        try clear c29b1
                        try clear c30
                        try clear c30b0
                        try clear c30b1
                        try clear c33
                        try clear c35
                        try clear c35b0
                        try clear c35b1
                        try clear c36
                        try clear c36b0
                        try clear c36b1
                        try clear c39
                        try clear c41
                        try clear c41b0
                        try clear c41b1
                        try clear c42
                        try clear c42b0
                        try clear c42b1
                        try clear c44
                        try clear c44b0
                        try clear c44b1
                        try clear c47
                        try clear hcz26_0
                        try clear hcz26_1
                        try clear hcz26_2
                        try clear hcz26_3
                        try clear hcz28_0
                        try clear hcz28_1
                        try clear hcz28_2
                        try clear hcz28_3
                        try clear hcz34_0
                        try clear hcz34_1
                        try clear hcz34_2
                        try clear hcz34_3
                        try clear hcz40_0
                        try clear hcz40_1
                        try clear hcz40_2
                        try clear hcz40_3
                        try clear hcz48_0
                        try clear hcz48_1
                        try clear hcz48_2
                        try clear hcz48_3
                        try clear hcz4_0
                        try clear hcz4_1
                        try clear hcz4_2
                        try clear hcz4_3
                        try clear hfz26_0
                        try clear hfz26_1
                        try clear hfz26_2
                        try clear hfz26_3
                        try clear hfz28_0
                        try clear hfz28_1
                        try clear hfz28_2
                        try clear hfz28_3
                        try clear hfz34_0
                        try clear hfz34_1
                        try clear hfz34_2
                        try clear hfz34_3
                        try clear hfz40_0
                        try clear hfz40_1
                        try clear hfz40_2
                        try clear hfz40_3
                        try clear hfz48_0
                        try clear hfz48_1
                        try clear hfz48_2
                        try clear hfz48_3
                        try clear hfz4_0
                        try clear hfz4_1
                        try clear hfz4_2
                        try clear hfz4_3
                        try clear hx167_0
                        try clear hx168_0
                        try clear hx169_0
                        try clear hx172_0
                        try clear hx173_0
                        try clear hx174_0
                        try clear hx175_0
                        try clear hx176_0
                        try clear hx177_0
                        try clear hx178_0
                        try clear hx179_0
                        try clear hx181_0
                        try clear p1
                        try clear p16
                        try clear p167
                        try clear p168
                        try clear p169
                        try clear p17
                        try clear p172
                        try clear p173
                        try clear p174
                        try clear p175
                        try clear p176
                        try clear p177
                        try clear p178
                        try clear p179
                        try clear p181
                        try clear p2
                        try clear p6
                        try clear q1
                        try clear q16
                        try clear q167
                        try clear q168
                        try clear q169
                        try clear q17
                        try clear q172
                        try clear q173
                        try clear q174
                        try clear q175
                        try clear q176
                        try clear q177
                        try clear q178
                        try clear q179
                        try clear q181
                        obtain ⟨kq, x10_30, x11_30, x181001_30, x181002_30, rfl, rfl, HA, HJ30, BK166, BK180, HB⟩ := hcut
                        cases kq with
                        | zero => exact absurd HA.out (by simp [pes_Take.j1])
                        | succ kj30 =>
                          have H := HA.out
                          clear HA
                          simp only [pes_Take.j1] at H
                          by_cases c50 : x10_30 = true
                          · subst c50
                            have H1 : (if x11_30 = true then (if 0 ≤ (wrap64 (9 + t170)) then (if (wrap64 (9 + t170)) ≤ (wrap64 (6 + (Go.bits .or .i64 (wrap64 ((wrap64 (rd l0 4)) * 256)) (wrap64 (rd l0 5))))) then (if (wrap64 (6 + (Go.bits .or .i64 (wrap64 ((wrap64 (rd l0 4)) * 256)) (wrap64 (rd l0 5))))) ≤ (l0.length : Int) then ((slices_Clone_byte_byte.f ((l0.take ((wrap64 (6 + (Go.bits .or .i64 (wrap64 ((wrap64 (rd l0 4)) * 256)) (wrap64 (rd l0 5))))) : Int).toNat).drop ((wrap64 (9 + t170)) : Int).toNat)).bind fun t192 => (some ((wrap64 (rd l0 3)), x181001_30, x181002_30, t192, (wrap64 (6 + (Go.bits .or .i64 (wrap64 ((wrap64 (rd l0 4)) * 256)) (wrap64 (rd l0 5))))), 0))) else (none)) else (none)) else (none)) else (some (0, 0, 0, ([] : List Int), 0, 3))) = some (r1, r2, r3, r4, r5, r6) := by rw [if_pos rfl] at H; exact H
                            clear H
                            have H := H1
                            clear H1
                            by_cases c51 : x11_30 = true
                            · subst c51
                              have H1 : (if 0 ≤ (wrap64 (9 + t170)) then (if (wrap64 (9 + t170)) ≤ (wrap64 (6 + (Go.bits .or .i64 (wrap64 ((wrap64 (rd l0 4)) * 256)) (wrap64 (rd l0 5))))) then (if (wrap64 (6 + (Go.bits .or .i64 (wrap64 ((wrap64 (rd l0 4)) * 256)) (wrap64 (rd l0 5))))) ≤ (l0.length : Int) then ((slices_Clone_byte_byte.f ((l0.take ((wrap64 (6 + (Go.bits .or .i64 (wrap64 ((wrap64 (rd l0 4)) * 256)) (wrap64 (rd l0 5))))) : Int).toNat).drop ((wrap64 (9 + t170)) : Int).toNat)).bind fun t192 => (some ((wrap64 (rd l0 3)), x181001_30, x181002_30, t192, (wrap64 (6 + (Go.bits .or .i64 (wrap64 ((wrap64 (rd l0 4)) * 256)) (wrap64 (rd l0 5))))), 0))) else (none)) else (none)) else (none)) = some (r1, r2, r3, r4, r5, r6) := by rw [if_pos rfl] at H; exact H
                              clear H
                              have H := H1
                              clear H1
                              obtain ⟨ji52, hji52⟩ : ∃ j_ : Int, (wrap64 (9 + t170)) = j_ := ⟨_, rfl⟩
                              replace H : (if 0 ≤ (ji52) then (if (ji52) ≤ (wrap64 (6 + (Go.bits .or .i64 (wrap64 ((wrap64 (rd l0 4)) * 256)) (wrap64 (rd l0 5))))) then (if (wrap64 (6 + (Go.bits .or .i64 (wrap64 ((wrap64 (rd l0 4)) * 256)) (wrap64 (rd l0 5))))) ≤ (l0.length : Int) then ((slices_Clone_byte_byte.f ((l0.take ((wrap64 (6 + (Go.bits .or .i64 (wrap64 ((wrap64 (rd l0 4)) * 256)) (wrap64 (rd l0 5))))) : Int).toNat).drop ((ji52) : Int).toNat)).bind fun t192 => (some ((wrap64 (rd l0 3)), x181001_30, x181002_30, t192, (wrap64 (6 + (Go.bits .or .i64 (wrap64 ((wrap64 (rd l0 4)) * 256)) (wrap64 (rd l0 5))))), 0))) else (none)) else (none)) else (none)) = some (r1, r2, r3, r4, r5, r6) := by first | (rw [hji52] at H; exact H) | (simp only [hji52] at H ⊢; exact H)
                              have hji52w : (IntKind.i64.wrap (9 + t170)) = ji52 := (i64_w _).trans hji52
                              by_cases c53 : 0 ≤ (ji52)
                              · rw [if_pos c53] at H
                                have c53b0 := eq_true c53
                                have c53b1 : decide (0 ≤ (ji52)) = true := decide_eq_true c53
                                clear c53
                                by_cases c54 : (ji52) ≤ (wrap64 (6 + (Go.bits .or .i64 (wrap64 ((wrap64 (rd l0 4)) * 256)) (wrap64 (rd l0 5)))))
                                · rw [if_pos c54] at H
                                  have c54b0 := eq_true c54
                                  have c54b1 : decide ((ji52) ≤ (wrap64 (6 + (Go.bits .or .i64 (wrap64 ((wrap64 (rd l0 4)) * 256)) (wrap64 (rd l0 5)))))) = true := decide_eq_true c54
                                  by_cases c55 : (wrap64 (6 + (Go.bits .or .i64 (wrap64 ((wrap64 (rd l0 4)) * 256)) (wrap64 (rd l0 5))))) ≤ (l0.length : Int)
                                  · rw [if_pos c55] at H
                                    have c55b0 := eq_true c55
                                    have c55b1 : decide ((wrap64 (6 + (Go.bits .or .i64 (wrap64 ((wrap64 (rd l0 4)) * 256)) (wrap64 (rd l0 5))))) ≤ (l0.length : Int)) = true := decide_eq_true c55
                                    replace H := Option.bind_eq_some_iff.mp H
                                    obtain ⟨t192, A560, H⟩ := H
                                    replace H : (some ((wrap64 (rd l0 3)), x181001_30, x181002_30, t192, (wrap64 (6 + (Go.bits .or .i64 (wrap64 ((wrap64 (rd l0 4)) * 256)) (wrap64 (rd l0 5))))), 0)) = some (r1, r2, r3, r4, r5, r6) := H
                                    have A56 := Aside0.mk A560
                                    clear A560
                                    simp only [Option.some.injEq, Prod.mk.injEq] at H
                                    obtain ⟨rfl, rfl, rfl, rfl, rfl, rfl⟩ := H
                                    obtain ⟨i057, hi057, _, hsz57, _⟩ := info_parts info5
                                    obtain ⟨A57, hcut57, hA57, hC57⟩ := print_mid3_of (P := Try.prog) (Value.int .u8) 0 27 5 .i64 .i64 Try.underlying27 hi057 hsz57 (some ad167) c0 l0 (ji52) (wrap64 (6 + (Go.bits .or .i64 (wrap64 ((wrap64 (rd l0 4)) * 256)) (wrap64 (rd l0 5))))) (of_decide_eq_true (by first | (with_reducible assumption) | assumption)) (by first | omega | exact of_decide_eq_true (by first | (with_reducible assumption) | assumption)) (of_decide_eq_true (by first | (with_reducible assumption) | assumption)) HC0.out
                                    have HR191 := Aside0.mk (Kd.C_of_reads (h1 := fun _ => rfl) (hA57 _ (Kd.reads_of_C HR0.out)))
                                    have HC191 := Aside0.mk hC57
                                    clear hA57 hC57 hi057 hsz57
                                    go_wp2_with (first | (go_at_call 31; refine calls_of_args (args' := #[.slice A57 ((l0.take ((wrap64 (6 + (Go.bits .or .i64 (wrap64 ((wrap64 (rd l0 4)) * 256)) (wrap64 (rd l0 5))))) : Int).toNat).drop ((ji52) : Int).toNat).length ((wrap64 (6 + (Go.bits .or .i64 (wrap64 ((wrap64 (rd l0 4)) * 256)) (wrap64 (rd l0 5))))).toNat - (ji52).toNat)]) (by first | rfl | (rw [show ((l0.take ((wrap64 (6 + (Go.bits .or .i64 (wrap64 ((wrap64 (rd l0 4)) * 256)) (wrap64 (rd l0 5))))) : Int).toNat).drop ((ji52) : Int).toNat).length = ((wrap64 (6 + (Go.bits .or .i64 (wrap64 ((wrap64 (rd l0 4)) * 256)) (wrap64 (rd l0 5))))).toNat - (ji52).toNat) from (by rw [List.length_drop, List.length_take]; have h_ : ((wrap64 (6 + (Go.bits .or .i64 (wrap64 ((wrap64 (rd l0 4)) * 256)) (wrap64 (rd l0 5))))) : Int) ≤ (l0.length : Int) := of_decide_eq_true (by first | (with_reducible assumption) | assumption); omega)]; done) | (simp only [List.length_drop, List.length_take]; done) | (simp only [List.length_drop, List.length_take]; rfl)) ?_; (with_reducible refine (slices_Clone_byte_byte.calls _ _ ((l0.take ((wrap64 (6 + (Go.bits .or .i64 (wrap64 ((wrap64 (rd l0 4)) * 256)) (wrap64 (rd l0 5))))) : Int).toNat).drop ((ji52) : Int).toNat) t192 _ ?side1 ?side2 A56.out).mono ?_); (case side1 => repeat (first | exact (Kd.C_below HR191.out HB.out) | (with_reducible refine Kd.C_alloc ?_ _) | (with_reducible refine Kd.C_drewN ?_ _) | (with_reducible refine Kd.C_drew ?_))); (case side2 => exact HC191.out); rintro e w58 ⟨v193, rfl, ho0, hb⟩; have n0_ := Aside0.mk (Kd.R_lower ho0 (below_size (by repeat (first | (with_reducible first | exact HB.out | apply below_alloc | apply pw_below_drewN | apply below_drew1 | refine below_set ?_ GE166.out | refine below_set ?_ GE180.out) | exact HB.out)))); have n1_ := Aside0.mk (blk_below (g := gb166) (o := .cells #[.int .i64 0, .int .i64 0, .int .i64 0, .slice none 0 0] 30 (0, 0)) (by (with_reducible repeat (first | refine blk_drewN ?_ _ | refine blk_drew ?_ | refine blk_alloc ?_ _)); exact BK166.out) hb); have n2_ := Aside0.mk (blk_below (g := gb180) (o := .cells #[.int .i64 (wrap64 (rd l0 3)), .int .i64 x181001_30, .int .i64 x181002_30, .slice none 0 0] 30 (0, 0)) (by (with_reducible repeat (first | refine blk_drewN ?_ _ | refine blk_drew ?_ | refine blk_alloc ?_ _)); exact BK180.out) hb); have n3_ := Aside0.mk (below_step (by repeat (first | (with_reducible first | exact HB.out | apply below_alloc | apply pw_below_drewN | apply below_drew1 | refine below_set ?_ GE166.out | refine below_set ?_ GE180.out) | exact HB.out)) hb); clear BK166; clear BK180; clear HB; have HO194 := n0_; have BK166 := n1_; have BK180 := n2_; have HB := n3_; clear n0_ n1_ n2_ n3_; (try clear hb); (try clear hb2); (try clear hk); (try clear hi); (try clear ho0); obtain ⟨Ao59, co59, eo59⟩ := Kd.R_slice HO194.out; subst eo59; have hnb60 := NB180_166.out; have hnc60 := NB166_180.out; have hcz61_0 : w58.cell? ⟨gb180, 0, none⟩ = some (.int .i64 (wrap64 (rd l0 3))) := (blk_cell BK180.out 0).trans rfl; have hcz61_1 : w58.cell? ⟨gb180, 1, none⟩ = some (.int .i64 x181001_30) := (blk_cell BK180.out 1).trans rfl; have hcz61_2 : w58.cell? ⟨gb180, 2, none⟩ = some (.int .i64 x181002_30) := (blk_cell BK180.out 2).trans rfl; have hcz61_3 : w58.cell? ⟨gb180, 3, none⟩ = some (.slice none 0 0) := (blk_cell BK180.out 3).trans rfl; have hfz61_0 := blk_frozen BK180.out 0; have hfz61_1 := blk_frozen BK180.out 1; have hfz61_2 := blk_frozen BK180.out 2; have hfz61_3 := blk_frozen BK180.out 3; have hcz62_0 : w58.cell? ⟨gb166, 0, none⟩ = some (.int .i64 0) := (blk_cell BK166.out 0).trans rfl; have hcz62_1 : w58.cell? ⟨gb166, 1, none⟩ = some (.int .i64 0) := (blk_cell BK166.out 1).trans rfl; have hcz62_2 : w58.cell? ⟨gb166, 2, none⟩ = some (.int .i64 0) := (blk_cell BK166.out 2).trans rfl; have hcz62_3 : w58.cell? ⟨gb166, 3, none⟩ = some (.slice none 0 0) := (blk_cell BK166.out 3).trans rfl; have hfz62_0 := blk_frozen BK166.out 0; have hfz62_1 := blk_frozen BK166.out 1; have hfz62_2 := blk_frozen BK166.out 2; have hfz62_3 := blk_frozen BK166.out 3))
                                    repeat (go_quiet (first | (go_at_call 31; refine calls_of_args (args' := #[.slice A57 ((l0.take ((wrap64 (6 + (Go.bits .or .i64 (wrap64 ((wrap64 (rd l0 4)) * 256)) (wrap64 (rd l0 5))))) : Int).toNat).drop ((ji52) : Int).toNat).length ((wrap64 (6 + (Go.bits .or .i64 (wrap64 ((wrap64 (rd l0 4)) * 256)) (wrap64 (rd l0 5))))).toNat - (ji52).toNat)]) (by first | rfl | (rw [show ((l0.take ((wrap64 (6 + (Go.bits .or .i64 (wrap64 ((wrap64 (rd l0 4)) * 256)) (wrap64 (rd l0 5))))) : Int).toNat).drop ((ji52) : Int).toNat).length = ((wrap64 (6 + (Go.bits .or .i64 (wrap64 ((wrap64 (rd l0 4)) * 256)) (wrap64 (rd l0 5))))).toNat - (ji52).toNat) from (by rw [List.length_drop, List.length_take]; have h_ : ((wrap64 (6 + (Go.bits .or .i64 (wrap64 ((wrap64 (rd l0 4)) * 256)) (wrap64 (rd l0 5))))) : Int) ≤ (l0.length : Int) := of_decide_eq_true (by first | (with_reducible assumption) | assumption); omega)]; done) | (simp only [List.length_drop, List.length_take]; done) | (simp only [List.length_drop, List.length_take]; rfl)) ?_; (with_reducible refine (slices_Clone_byte_byte.calls _ _ ((l0.take ((wrap64 (6 + (Go.bits .or .i64 (wrap64 ((wrap64 (rd l0 4)) * 256)) (wrap64 (rd l0 5))))) : Int).toNat).drop ((ji52) : Int).toNat) t192 _ ?side1 ?side2 A56.out).mono ?_); (case side1 => repeat (first | exact (Kd.C_below HR191.out HB.out) | (with_reducible refine Kd.C_alloc ?_ _) | (with_reducible refine Kd.C_drewN ?_ _) | (with_reducible refine Kd.C_drew ?_))); (case side2 => exact HC191.out); rintro e w58 ⟨v193, rfl, ho0, hb⟩; have n0_ := Aside0.mk (Kd.R_lower ho0 (below_size (by repeat (first | (with_reducible first | exact HB.out | apply below_alloc | apply pw_below_drewN | apply below_drew1 | refine below_set ?_ GE166.out | refine below_set ?_ GE180.out) | exact HB.out)))); have n1_ := Aside0.mk (blk_below (g := gb166) (o := .cells #[.int .i64 0, .int .i64 0, .int .i64 0, .slice none 0 0] 30 (0, 0)) (by (with_reducible repeat (first | refine blk_drewN ?_ _ | refine blk_drew ?_ | refine blk_alloc ?_ _)); exact BK166.out) hb); have n2_ := Aside0.mk (blk_below (g := gb180) (o := .cells #[.int .i64 (wrap64 (rd l0 3)), .int .i64 x181001_30, .int .i64 x181002_30, .slice none 0 0] 30 (0, 0)) (by (with_reducible repeat (first | refine blk_drewN ?_ _ | refine blk_drew ?_ | refine blk_alloc ?_ _)); exact BK180.out) hb); have n3_ := Aside0.mk (below_step (by repeat (first | (with_reducible first | exact HB.out | apply below_alloc | apply pw_below_drewN | apply below_drew1 | refine below_set ?_ GE166.out | refine below_set ?_ GE180.out) | exact HB.out)) hb); clear BK166; clear BK180; clear HB; have HO194 := n0_; have BK166 := n1_; have BK180 := n2_; have HB := n3_; clear n0_ n1_ n2_ n3_; (try clear hb); (try clear hb2); (try clear hk); (try clear hi); (try clear ho0); obtain ⟨Ao59, co59, eo59⟩ := Kd.R_slice HO194.out; subst eo59; have hnb60 := NB180_166.out; have hnc60 := NB166_180.out; have hcz61_0 : w58.cell? ⟨gb180, 0, none⟩ = some (.int .i64 (wrap64 (rd l0 3))) := (blk_cell BK180.out 0).trans rfl; have hcz61_1 : w58.cell? ⟨gb180, 1, none⟩ = some (.int .i64 x181001_30) := (blk_cell BK180.out 1).trans rfl; have hcz61_2 : w58.cell? ⟨gb180, 2, none⟩ = some (.int .i64 x181002_30) := (blk_cell BK180.out 2).trans rfl; have hcz61_3 : w58.cell? ⟨gb180, 3, none⟩ = some (.slice none 0 0) := (blk_cell BK180.out 3).trans rfl; have hfz61_0 := blk_frozen BK180.out 0; have hfz61_1 := blk_frozen BK180.out 1; have hfz61_2 := blk_frozen BK180.out 2; have hfz61_3 := blk_frozen BK180.out 3; have hcz62_0 : w58.cell? ⟨gb166, 0, none⟩ = some (.int .i64 0) := (blk_cell BK166.out 0).trans rfl; have hcz62_1 : w58.cell? ⟨gb166, 1, none⟩ = some (.int .i64 0) := (blk_cell BK166.out 1).trans rfl; have hcz62_2 : w58.cell? ⟨gb166, 2, none⟩ = some (.int .i64 0) := (blk_cell BK166.out 2).trans rfl; have hcz62_3 : w58.cell? ⟨gb166, 3, none⟩ = some (.slice none 0 0) := (blk_cell BK166.out 3).trans rfl; have hfz62_0 := blk_frozen BK166.out 0; have hfz62_1 := blk_frozen BK166.out 1; have hfz62_2 := blk_frozen BK166.out 2; have hfz62_3 := blk_frozen BK166.out 3)); try go_wp2_with (first | (go_at_call 31; refine calls_of_args (args' := #[.slice A57 ((l0.take ((wrap64 (6 + (Go.bits .or .i64 (wrap64 ((wrap64 (rd l0 4)) * 256)) (wrap64 (rd l0 5))))) : Int).toNat).drop ((ji52) : Int).toNat).length ((wrap64 (6 + (Go.bits .or .i64 (wrap64 ((wrap64 (rd l0 4)) * 256)) (wrap64 (rd l0 5))))).toNat - (ji52).toNat)]) (by first | rfl | (rw [show ((l0.take ((wrap64 (6 + (Go.bits .or .i64 (wrap64 ((wrap64 (rd l0 4)) * 256)) (wrap64 (rd l0 5))))) : Int).toNat).drop ((ji52) : Int).toNat).length = ((wrap64 (6 + (Go.bits .or .i64 (wrap64 ((wrap64 (rd l0 4)) * 256)) (wrap64 (rd l0 5))))).toNat - (ji52).toNat) from (by rw [List.length_drop, List.length_take]; have h_ : ((wrap64 (6 + (Go.bits .or .i64 (wrap64 ((wrap64 (rd l0 4)) * 256)) (wrap64 (rd l0 5))))) : Int) ≤ (l0.length : Int) := of_decide_eq_true (by first | (with_reducible assumption) | assumption); omega)]; done) | (simp only [List.length_drop, List.length_take]; done) | (simp only [List.length_drop, List.length_take]; rfl)) ?_; (with_reducible refine (slices_Clone_byte_byte.calls _ _ ((l0.take ((wrap64 (6 + (Go.bits .or .i64 (wrap64 ((wrap64 (rd l0 4)) * 256)) (wrap64 (rd l0 5))))) : Int).toNat).drop ((ji52) : Int).toNat) t192 _ ?side1 ?side2 A56.out).mono ?_); (case side1 => repeat (first | exact (Kd.C_below HR191.out HB.out) | (with_reducible refine Kd.C_alloc ?_ _) | (with_reducible refine Kd.C_drewN ?_ _) | (with_reducible refine Kd.C_drew ?_))); (case side2 => exact HC191.out); rintro e w58 ⟨v193, rfl, ho0, hb⟩; have n0_ := Aside0.mk (Kd.R_lower ho0 (below_size (by repeat (first | (with_reducible first | exact HB.out | apply below_alloc | apply pw_below_drewN | apply below_drew1 | refine below_set ?_ GE166.out | refine below_set ?_ GE180.out) | exact HB.out)))); have n1_ := Aside0.mk (blk_below (g := gb166) (o := .cells #[.int .i64 0, .int .i64 0, .int .i64 0, .slice none 0 0] 30 (0, 0)) (by (with_reducible repeat (first | refine blk_drewN ?_ _ | refine blk_drew ?_ | refine blk_alloc ?_ _)); exact BK166.out) hb); have n2_ := Aside0.mk (blk_below (g := gb180) (o := .cells #[.int .i64 (wrap64 (rd l0 3)), .int .i64 x181001_30, .int .i64 x181002_30, .slice none 0 0] 30 (0, 0)) (by (with_reducible repeat (first | refine blk_drewN ?_ _ | refine blk_drew ?_ | refine blk_alloc ?_ _)); exact BK180.out) hb); have n3_ := Aside0.mk (below_step (by repeat (first | (with_reducible first | exact HB.out | apply below_alloc | apply pw_below_drewN | apply below_drew1 | refine below_set ?_ GE166.out | refine below_set ?_ GE180.out) | exact HB.out)) hb); clear BK166; clear BK180; clear HB; have HO194 := n0_; have BK166 := n1_; have BK180 := n2_; have HB := n3_; clear n0_ n1_ n2_ n3_; (try clear hb); (try clear hb2); (try clear hk); (try clear hi); (try clear ho0); obtain ⟨Ao59, co59, eo59⟩ := Kd.R_slice HO194.out; subst eo59; have hnb60 := NB180_166.out; have hnc60 := NB166_180.out; have hcz61_0 : w58.cell? ⟨gb180, 0, none⟩ = some (.int .i64 (wrap64 (rd l0 3))) := (blk_cell BK180.out 0).trans rfl; have hcz61_1 : w58.cell? ⟨gb180, 1, none⟩ = some (.int .i64 x181001_30) := (blk_cell BK180.out 1).trans rfl; have hcz61_2 : w58.cell? ⟨gb180, 2, none⟩ = some (.int .i64 x181002_30) := (blk_cell BK180.out 2).trans rfl; have hcz61_3 : w58.cell? ⟨gb180, 3, none⟩ = some (.slice none 0 0) := (blk_cell BK180.out 3).trans rfl; have hfz61_0 := blk_frozen BK180.out 0; have hfz61_1 := blk_frozen BK180.out 1; have hfz61_2 := blk_frozen BK180.out 2; have hfz61_3 := blk_frozen BK180.out 3; have hcz62_0 : w58.cell? ⟨gb166, 0, none⟩ = some (.int .i64 0) := (blk_cell BK166.out 0).trans rfl; have hcz62_1 : w58.cell? ⟨gb166, 1, none⟩ = some (.int .i64 0) := (blk_cell BK166.out 1).trans rfl; have hcz62_2 : w58.cell? ⟨gb166, 2, none⟩ = some (.int .i64 0) := (blk_cell BK166.out 2).trans rfl; have hcz62_3 : w58.cell? ⟨gb166, 3, none⟩ = some (.slice none 0 0) := (blk_cell BK166.out 3).trans rfl; have hfz62_0 := blk_frozen BK166.out 0; have hfz62_1 := blk_frozen BK166.out 1; have hfz62_2 := blk_frozen BK166.out 2; have hfz62_3 := blk_frozen BK166.out 3)))
                                    refine bodyPost_ret (results_ctt rfl _ _ gb166 30 #[.int .i64 (wrap64 (rd l0 3)), .int .i64 x181001_30, .int .i64 x181002_30, .slice Ao59 t192.length co59] (0, 0) _ rfl (by (with_reducible repeat (first | refine blk_drewN ?_ _ | refine blk_drew ?_ | refine blk_alloc ?_ _)); refine blk_put (cs := #[.int .i64 (wrap64 (rd l0 3)), .int .i64 x181001_30, .int .i64 x181002_30, .slice none 0 0]) ?_ 3 _ rfl; (with_reducible repeat (first | refine blk_drewN ?_ _ | refine blk_drew ?_ | refine blk_alloc ?_ _)); refine blk_put (cs := #[.int .i64 (wrap64 (rd l0 3)), .int .i64 x181001_30, .int .i64 0, .slice none 0 0]) ?_ 2 _ rfl; (with_reducible repeat (first | refine blk_drewN ?_ _ | refine blk_drew ?_ | refine blk_alloc ?_ _)); refine blk_put (cs := #[.int .i64 (wrap64 (rd l0 3)), .int .i64 0, .int .i64 0, .slice none 0 0]) ?_ 1 _ rfl; (with_reducible repeat (first | refine blk_drewN ?_ _ | refine blk_drew ?_ | refine blk_alloc ?_ _)); refine blk_put (cs := #[.int .i64 0, .int .i64 0, .int .i64 0, .slice none 0 0]) ?_ 0 _ rfl; (with_reducible repeat (first | refine blk_drewN ?_ _ | refine blk_drew ?_ | refine blk_alloc ?_ _)); refine blk_far ?_ NB166_180.out _; (with_reducible repeat (first | refine blk_drewN ?_ _ | refine blk_drew ?_ | refine blk_alloc ?_ _)); exact BK166.out) Try.underlying30 rfl (by kernel_rfl)) rfl ?_
                                    exact ⟨_, by first | rfl | (simp [errW_none, errW_some] <;> rfl) | (simp only [← hji52]; first | rfl | (simp [errW_none, errW_some] <;> rfl)) | (simp [*, errW_none, errW_some] <;> rfl), by (with_reducible repeat (first | apply Kd.R_alloc | apply Kd.R_drewN | apply Kd.R_drew)); exact Kd.R_mono (Kd.R_far (p := ⟨gb166, 3, none⟩) (Kd.R_far (p := ⟨gb166, 2, none⟩) (Kd.R_far (p := ⟨gb166, 1, none⟩) (Kd.R_far (p := ⟨gb166, 0, none⟩) (Kd.R_far (p := ⟨gb180, 3, none⟩) (Kd.R_types (Kd.R_types HO194.out BK180.out (by decide)) BK166.out (by decide)) (fun _ hk => hk.1.2) (.slice Ao59 t192.length co59)) (fun _ hk => hk.2) (.int .i64 (wrap64 (rd l0 3)))) (fun _ hk => hk.2) (.int .i64 x181001_30)) (fun _ hk => hk.2) (.int .i64 x181002_30)) (fun _ hk => hk.2) (.slice Ao59 t192.length co59)) (fun _ hk => trivial), by repeat (first | (with_reducible first | exact HB.out | apply below_alloc | apply pw_below_drewN | apply below_drew1 | refine below_set ?_ GE166.out | refine below_set ?_ GE180.out) | exact HB.out)⟩
                                  · rw [if_neg c55] at H
                                    exact absurd H (by simp)
                                · rw [if_neg c54] at H
                                  exact absurd H (by simp)
                              · rw [if_neg c53] at H
                                exact absurd H (by simp)
                            · replace c51 := Bool.eq_false_iff.mpr c51
                              subst c51
                              have H1 : (some (0, 0, 0, ([] : List Int), 0, 3)) = some (r1, r2, r3, r4, r5, r6) := by rw [if_neg (show ¬ (false = true) by decide)] at H; exact H
                              clear H
                              have H := H1
                              clear H1
                              simp only [Option.some.injEq, Prod.mk.injEq] at H
                              obtain ⟨rfl, rfl, rfl, rfl, rfl, rfl⟩ := H
                              have hnb63 := NB166_180.out
                              have hnc63 := NB180_166.out
                              have hcz64_0 : wc.cell? ⟨gb166, 0, none⟩ = some (.int .i64 0) := (blk_cell BK166.out 0).trans rfl
                              have hcz64_1 : wc.cell? ⟨gb166, 1, none⟩ = some (.int .i64 0) := (blk_cell BK166.out 1).trans rfl
                              have hcz64_2 : wc.cell? ⟨gb166, 2, none⟩ = some (.int .i64 0) := (blk_cell BK166.out 2).trans rfl
                              have hcz64_3 : wc.cell? ⟨gb166, 3, none⟩ = some (.slice none 0 0) := (blk_cell BK166.out 3).trans rfl
                              have hfz64_0 := blk_frozen BK166.out 0
                              have hfz64_1 := blk_frozen BK166.out 1
                              have hfz64_2 := blk_frozen BK166.out 2
                              have hfz64_3 := blk_frozen BK166.out 3
                              go_wp2
                              repeat (go_quiet (fail); try go_wp2)
                              refine bodyPost_ret (results_ctt rfl _ _ gb166 30 #[.int .i64 0, .int .i64 0, .int .i64 0, .slice none 0 0] (0, 0) _ rfl (by (with_reducible repeat (first | refine blk_drewN ?_ _ | refine blk_drew ?_ | refine blk_alloc ?_ _)); refine blk_put (cs := #[.int .i64 0, .int .i64 0, .int .i64 0, .slice none 0 0]) ?_ 3 _ rfl; (with_reducible repeat (first | refine blk_drewN ?_ _ | refine blk_drew ?_ | refine blk_alloc ?_ _)); refine blk_put (cs := #[.int .i64 0, .int .i64 0, .int .i64 0, .slice none 0 0]) ?_ 2 _ rfl; (with_reducible repeat (first | refine blk_drewN ?_ _ | refine blk_drew ?_ | refine blk_alloc ?_ _)); refine blk_put (cs := #[.int .i64 0, .int .i64 0, .int .i64 0, .slice none 0 0]) ?_ 1 _ rfl; (with_reducible repeat (first | refine blk_drewN ?_ _ | refine blk_drew ?_ | refine blk_alloc ?_ _)); refine blk_put (cs := #[.int .i64 0, .int .i64 0, .int .i64 0, .slice none 0 0]) ?_ 0 _ rfl; (with_reducible repeat (first | refine blk_drewN ?_ _ | refine blk_drew ?_ | refine blk_alloc ?_ _)); exact BK166.out) Try.underlying30 rfl (by kernel_rfl)) rfl ?_
                              exact ⟨_, by first | rfl | (simp [errW_none, errW_some] <;> rfl) | (simp [*, errW_none, errW_some] <;> rfl), by first | exact Kd.R_nil _ _ _ _ _ | exact Kd.N_nil _ _ _ _ _ | exact Kd.V_nil _ _ _ _ _ | exact Kd.Q_nil _ _ _ _ _ | exact Kd.S_nil _ _ _ _ _, by repeat (first | (with_reducible first | exact HB.out | apply below_alloc | apply pw_below_drewN | apply below_drew1 | refine below_set ?_ GE166.out | refine below_set ?_ GE180.out) | exact HB.out)⟩
                          · replace c50 := Bool.eq_false_iff.mpr c50
                            subst c50
                            have H1 : (some (0, 0, 0, ([] : List Int), 0, 3)) = some (r1, r2, r3, r4, r5, r6) := by rw [if_neg (show ¬ (false = true) by decide)] at H; exact H
                            clear H
                            have H := H1
                            clear H1
                            simp only [Option.some.injEq, Prod.mk.injEq] at H
                            obtain ⟨rfl, rfl, rfl, rfl, rfl, rfl⟩ := H
                            have hnb65 := NB166_180.out
                            have hnc65 := NB180_166.out
                            have hcz66_0 : wc.cell? ⟨gb166, 0, none⟩ = some (.int .i64 0) := (blk_cell BK166.out 0).trans rfl
                            have hcz66_1 : wc.cell? ⟨gb166, 1, none⟩ = some (.int .i64 0) := (blk_cell BK166.out 1).trans rfl
                            have hcz66_2 : wc.cell? ⟨gb166, 2, none⟩ = some (.int .i64 0) := (blk_cell BK166.out 2).trans rfl
                            have hcz66_3 : wc.cell? ⟨gb166, 3, none⟩ = some (.slice none 0 0) := (blk_cell BK166.out 3).trans rfl
                            have hfz66_0 := blk_frozen BK166.out 0
                            have hfz66_1 := blk_frozen BK166.out 1
                            have hfz66_2 := blk_frozen BK166.out 2
                            have hfz66_3 := blk_frozen BK166.out 3
                            go_wp2
                            repeat (go_quiet (fail); try go_wp2)
                            refine bodyPost_ret (results_ctt rfl _ _ gb166 30 #[.int .i64 0, .int .i64 0, .int .i64 0, .slice none 0 0] (0, 0) _ rfl (by (with_reducible repeat (first | refine blk_drewN ?_ _ | refine blk_drew ?_ | refine blk_alloc ?_ _)); refine blk_put (cs := #[.int .i64 0, .int .i64 0, .int .i64 0, .slice none 0 0]) ?_ 3 _ rfl; (with_reducible repeat (first | refine blk_drewN ?_ _ | refine blk_drew ?_ | refine blk_alloc ?_ _)); refine blk_put (cs := #[.int .i64 0, .int .i64 0, .int .i64 0, .slice none 0 0]) ?_ 2 _ rfl; (with_reducible repeat (first | refine blk_drewN ?_ _ | refine blk_drew ?_ | refine blk_alloc ?_ _)); refine blk_put (cs := #[.int .i64 0, .int .i64 0, .int .i64 0, .slice none 0 0]) ?_ 1 _ rfl; (with_reducible repeat (first | refine blk_drewN ?_ _ | refine blk_drew ?_ | refine blk_alloc ?_ _)); refine blk_put (cs := #[.int .i64 0, .int .i64 0, .int .i64 0, .slice none 0 0]) ?_ 0 _ rfl; (with_reducible repeat (first | refine blk_drewN ?_ _ | refine blk_drew ?_ | refine blk_alloc ?_ _)); exact BK166.out) Try.underlying30 rfl (by kernel_rfl)) rfl ?_
                            exact ⟨_, by first | rfl | (simp [errW_none, errW_some] <;> rfl) | (simp [*, errW_none, errW_some] <;> rfl), by first | exact Kd.R_nil _ _ _ _ _ | exact Kd.N_nil _ _ _ _ _ | exact Kd.V_nil _ _ _ _ _ | exact Kd.Q_nil _ _ _ _ _ | exact Kd.S_nil _ _ _ _ _, by repeat (first | (with_reducible first | exact HB.out | apply below_alloc | apply pw_below_drewN | apply below_drew1 | refine below_set ?_ GE166.out | refine below_set ?_ GE180.out) | exact HB.out)⟩
                    · rw [if_neg c30] at H
                      exact absurd H (by simp)
                  · rw [if_neg c29] at H
                    exact absurd H (by simp)
        · rw [if_neg c7] at H
          exact absurd H (by simp)
      · rw [if_neg c6] at H
        exact absurd H (by simp)
    · rw [if_neg c5] at H
      exact absurd H (by simp)

end Go.Proofs.Ytdkibpdgnocgaaa.PPesTakes
