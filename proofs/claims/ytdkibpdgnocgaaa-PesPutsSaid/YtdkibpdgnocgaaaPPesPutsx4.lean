-- Written for this claim by a turned copy of the kit's print (wip/printx/mk.py). By an AI agent.
import Derived.Test.YtdkibpdgnocgaaaPPesPutsx0
import Derived.Test.YtdkibpdgnocgaaaPPesPutsx3
namespace Go.Proofs.Ytdkibpdgnocgaaa.PPesPuts
open Go.RowKit Go.Proofs.YtdkibpdgnocgaaaW.PrintWords Go.Proofs.YtdkibpdgnocgaaaW.PrintLast Go.Proofs.YtdkibpdgnocgaaaW.PrintMore
attribute [local go_sem] max2_int min2_int max_two min_two max_three min_three max_four min_four   -- for this text's walks alone
set_option linter.unusedVariables false
set_option linter.unusedSimpArgs false

/-! ### pes_Take: function 22 -/
mutual
def pes_Take.j0 : Nat → List Int → Int → Int → Bool → Option (Int × Int × Int × List Int × Int × Int)
  | 0, _, _, _, _ => none
  | k + 1, x0, x5, x6, x84 => if x84 = true then (some (0, 0, 0, ([] : List Int), 0, 3)) else (if (x0.length : Int) < (wrap64 (6 + x5)) then (some (0, 0, 0, ([] : List Int), 0, 4)) else (if 3 < (x0.length : Int) then (if 7 < (x0.length : Int) then (if (rd x0 7) = 128 then (if 9 ≤ (x0.length : Int) then ((pes_unstamp.f (x0.drop 9) 2).bind fun bt263 => (pes_Take.j1 k x0 x6 (wrap64 (6 + x5)) bt263.2 true (wrap64 (rd x0 3)) bt263.1 (-1))) else (none)) else (if (rd x0 7) = 192 then (if 9 ≤ (x0.length : Int) then ((pes_unstamp.f (x0.drop 9) 3).bind fun bt266 => (if 14 ≤ (x0.length : Int) then ((pes_unstamp.f (x0.drop 14) 1).bind fun bt269 => (pes_Take.j1 k x0 x6 (wrap64 (6 + x5)) bt266.2 bt269.2 (wrap64 (rd x0 3)) bt266.1 bt269.1)) else (none))) else (none)) else (pes_Take.j1 k x0 x6 (wrap64 (6 + x5)) true true (wrap64 (rd x0 3)) (-1) (-1)))) else (none)) else (none)))
def pes_Take.j1 : Nat → List Int → Int → Int → Bool → Bool → Int → Int → Int → Option (Int × Int × Int × List Int × Int × Int)
  | 0, _, _, _, _, _, _, _, _ => none
  | k + 1, x0, x6, x8, x10, x11, x261000, x261001, x261002 => if x10 = true then (if x11 = true then (if 0 ≤ (wrap64 (9 + x6)) then (if (wrap64 (9 + x6)) ≤ x8 then (if x8 ≤ (x0.length : Int) then ((slices_Clone_byte_byte.f ((x0.take (x8 : Int).toNat).drop ((wrap64 (9 + x6)) : Int).toNat)).bind fun t272 => (some (x261000, x261001, x261002, t272, x8, 0))) else (none)) else (none)) else (none)) else (some (0, 0, 0, ([] : List Int), 0, 3))) else (some (0, 0, 0, ([] : List Int), 0, 3))
end
def pes_Take.f (k : Nat) (l0 : List Int) : Option (Int × Int × Int × List Int × Int × Int) := if (l0.length : Int) < 9 then (some (0, 0, 0, ([] : List Int), 0, 4)) else (if 4 < (l0.length : Int) then (if 5 < (l0.length : Int) then (if 7 < (l0.length : Int) then ((pes_stamped.f (rd l0 7)).bind fun bt250 => (if bt250.2 = true then (if 0 < (l0.length : Int) then (if (rd l0 0) = 0 then (if 1 < (l0.length : Int) then (if (rd l0 1) = 0 then (if 2 < (l0.length : Int) then (if (rd l0 2) = 1 then (if 3 < (l0.length : Int) then (if (rd l0 3) < 192 then (pes_Take.j0 k l0 (Go.bits .or .i64 (wrap64 ((wrap64 (rd l0 4)) * 256)) (wrap64 (rd l0 5))) bt250.1 true) else (if (rd l0 3) > 239 then (pes_Take.j0 k l0 (Go.bits .or .i64 (wrap64 ((wrap64 (rd l0 4)) * 256)) (wrap64 (rd l0 5))) bt250.1 true) else (if 6 < (l0.length : Int) then (if (rd l0 6) = 128 then (if 8 < (l0.length : Int) then (if (wrap64 (rd l0 8)) = bt250.1 then (pes_Take.j0 k l0 (Go.bits .or .i64 (wrap64 ((wrap64 (rd l0 4)) * 256)) (wrap64 (rd l0 5))) bt250.1 (decide ((Go.bits .or .i64 (wrap64 ((wrap64 (rd l0 4)) * 256)) (wrap64 (rd l0 5))) < (wrap64 (3 + bt250.1))))) else (pes_Take.j0 k l0 (Go.bits .or .i64 (wrap64 ((wrap64 (rd l0 4)) * 256)) (wrap64 (rd l0 5))) bt250.1 true)) else (none)) else (pes_Take.j0 k l0 (Go.bits .or .i64 (wrap64 ((wrap64 (rd l0 4)) * 256)) (wrap64 (rd l0 5))) bt250.1 true)) else (none)))) else (none)) else (pes_Take.j0 k l0 (Go.bits .or .i64 (wrap64 ((wrap64 (rd l0 4)) * 256)) (wrap64 (rd l0 5))) bt250.1 true)) else (none)) else (pes_Take.j0 k l0 (Go.bits .or .i64 (wrap64 ((wrap64 (rd l0 4)) * 256)) (wrap64 (rd l0 5))) bt250.1 true)) else (none)) else (pes_Take.j0 k l0 (Go.bits .or .i64 (wrap64 ((wrap64 (rd l0 4)) * 256)) (wrap64 (rd l0 5))) bt250.1 true)) else (none)) else (pes_Take.j0 k l0 (Go.bits .or .i64 (wrap64 ((wrap64 (rd l0 4)) * 256)) (wrap64 (rd l0 5))) bt250.1 true))) else (none)) else (none)) else (none))
theorem pes_Take.mono_l : ∀ k, (∀ y0 y1 y2 y3, LeO (pes_Take.j0 k y0 y1 y2 y3) (pes_Take.j0 (k + 1) y0 y1 y2 y3)) ∧ (∀ y0 y1 y2 y3 y4 y5 y6 y7, LeO (pes_Take.j1 k y0 y1 y2 y3 y4 y5 y6 y7) (pes_Take.j1 (k + 1) y0 y1 y2 y3 y4 y5 y6 y7))
  | 0 => ⟨fun _ _ _ _ r h => by simp [pes_Take.j0] at h, fun _ _ _ _ _ _ _ _ r h => by simp [pes_Take.j1] at h⟩
  | k + 1 => by
    obtain ⟨ih0, ih1⟩ := pes_Take.mono_l k
    refine ⟨?_, ?_⟩
    · intro y0 y1 y2 y3
      unfold pes_Take.j0
      repeat' first
      | (with_reducible exact ih0 _ _ _ _)
      | (with_reducible exact ih1 _ _ _ _ _ _ _ _)
      | (with_reducible exact LeO.refl _)
      | (with_reducible exact LeO.none _)
      | (with_reducible refine LeO.ite ?_ ?_)
      | (with_reducible refine LeO.bind ?_ (fun _ => ?_))
      | exact ih0 _ _ _ _
      | exact ih1 _ _ _ _ _ _ _ _
      | exact LeO.none _
      | refine LeO.ite ?_ ?_
      | refine LeO.bind ?_ (fun _ => ?_)
    · intro y0 y1 y2 y3 y4 y5 y6 y7
      unfold pes_Take.j1
      repeat' first
      | (with_reducible exact ih0 _ _ _ _)
      | (with_reducible exact ih1 _ _ _ _ _ _ _ _)
      | (with_reducible exact LeO.refl _)
      | (with_reducible exact LeO.none _)
      | (with_reducible refine LeO.ite ?_ ?_)
      | (with_reducible refine LeO.bind ?_ (fun _ => ?_))
      | exact ih0 _ _ _ _
      | exact ih1 _ _ _ _ _ _ _ _
      | exact LeO.none _
      | refine LeO.ite ?_ ?_
      | refine LeO.bind ?_ (fun _ => ?_)
theorem pes_Take.mono : ∀ a0 k, LeO (pes_Take.f k a0) (pes_Take.f (k + 1) a0) := by
  intro a0 k
  obtain ⟨ih0, ih1⟩ := pes_Take.mono_l k
  unfold pes_Take.f
  repeat' first
      | (with_reducible exact ih0 _ _ _ _)
      | (with_reducible exact ih1 _ _ _ _ _ _ _ _)
      | (with_reducible exact LeO.refl _)
      | (with_reducible exact LeO.none _)
      | (with_reducible refine LeO.ite ?_ ?_)
      | (with_reducible refine LeO.bind ?_ (fun _ => ?_))
      | exact ih0 _ _ _ _
      | exact ih1 _ _ _ _ _ _ _ _
      | exact LeO.none _
      | refine LeO.ite ?_ ?_
      | refine LeO.bind ?_ (fun _ => ?_)
set_option maxHeartbeats 8000000 in
set_option maxRecDepth 100000 in
theorem pes_Take.calls (k : Nat) (A0 : Option Addr) (c0 : Nat) (l0 : List Int) (r1 : Int) (r2 : Int) (r3 : Int) (r4 : List Int) (r5 : Int) (r6 : Int) (w : World) (hr0 : Kd.C (Kd.int .u8) w A0 l0.length l0) (hc0 : l0.length ≤ c0) (h : pes_Take.f k l0 = some (r1, r2, r3, r4, r5, r6)) :
    Calls Try.prog 22 #[.slice A0 l0.length c0] w fun e w' => ∃ v3_ : Value, e = .returned (.tuple #[.agg #[.int .i64 r1, .int .i64 r2, .int .i64 r3, v3_], .int .i64 r5, .int .i64 r6]) ∧ Kd.R (Kd.int .u8) 5 w' w.heap.size (fun _ => True) v3_ r4 ∧ Below w.heap.size w w' := by
  have hu30 := Try.underlying30
  have HR0 := Aside0.mk hr0
  have HC0 := Aside0.mk hc0
  clear hr0 hc0
  have HB := Aside0.mk (Below.refl w.heap.size w)
  have H : (if (l0.length : Int) < 9 then (some (0, 0, 0, ([] : List Int), 0, 4)) else (if 4 < (l0.length : Int) then (if 5 < (l0.length : Int) then (if 7 < (l0.length : Int) then ((pes_stamped.f (rd l0 7)).bind fun bt250 => (if bt250.2 = true then (if 0 < (l0.length : Int) then (if (rd l0 0) = 0 then (if 1 < (l0.length : Int) then (if (rd l0 1) = 0 then (if 2 < (l0.length : Int) then (if (rd l0 2) = 1 then (if 3 < (l0.length : Int) then (if (rd l0 3) < 192 then (pes_Take.j0 k l0 (Go.bits .or .i64 (wrap64 ((wrap64 (rd l0 4)) * 256)) (wrap64 (rd l0 5))) bt250.1 true) else (if (rd l0 3) > 239 then (pes_Take.j0 k l0 (Go.bits .or .i64 (wrap64 ((wrap64 (rd l0 4)) * 256)) (wrap64 (rd l0 5))) bt250.1 true) else (if 6 < (l0.length : Int) then (if (rd l0 6) = 128 then (if 8 < (l0.length : Int) then (if (wrap64 (rd l0 8)) = bt250.1 then (pes_Take.j0 k l0 (Go.bits .or .i64 (wrap64 ((wrap64 (rd l0 4)) * 256)) (wrap64 (rd l0 5))) bt250.1 (decide ((Go.bits .or .i64 (wrap64 ((wrap64 (rd l0 4)) * 256)) (wrap64 (rd l0 5))) < (wrap64 (3 + bt250.1))))) else (pes_Take.j0 k l0 (Go.bits .or .i64 (wrap64 ((wrap64 (rd l0 4)) * 256)) (wrap64 (rd l0 5))) bt250.1 true)) else (none)) else (pes_Take.j0 k l0 (Go.bits .or .i64 (wrap64 ((wrap64 (rd l0 4)) * 256)) (wrap64 (rd l0 5))) bt250.1 true)) else (none)))) else (none)) else (pes_Take.j0 k l0 (Go.bits .or .i64 (wrap64 ((wrap64 (rd l0 4)) * 256)) (wrap64 (rd l0 5))) bt250.1 true)) else (none)) else (pes_Take.j0 k l0 (Go.bits .or .i64 (wrap64 ((wrap64 (rd l0 4)) * 256)) (wrap64 (rd l0 5))) bt250.1 true)) else (none)) else (pes_Take.j0 k l0 (Go.bits .or .i64 (wrap64 ((wrap64 (rd l0 4)) * 256)) (wrap64 (rd l0 5))) bt250.1 true)) else (none)) else (pes_Take.j0 k l0 (Go.bits .or .i64 (wrap64 ((wrap64 (rd l0 4)) * 256)) (wrap64 (rd l0 5))) bt250.1 true))) else (none)) else (none)) else (none))) = some (r1, r2, r3, r4, r5, r6) := h
  clear h
  by_cases c2 : (l0.length : Int) < 9
  · rw [if_pos c2] at H
    have c2b0 : decide ((l0.length : Int) < 9) = true := decide_eq_true c2
    have c2b1 : decide (l0.length < 9) = true := decide_eq_true (by omega)
    clear c2
    simp only [Option.some.injEq, Prod.mk.injEq] at H
    obtain ⟨rfl, rfl, rfl, rfl, rfl, rfl⟩ := H
    go_enter Try.func22, Try.ntmps22
    go_wp2_with (first | ((with_reducible refine gate_dst (N := 2) rfl ?_); refine box_event ?hg (N := 2) ?hd (cs := #[.int .i64 0, .int .i64 0, .int .i64 0, .slice none 0 0]) (t := 30) ?hr ?_; (case hd => rfl); (case hg => rfl); (case hr => first | (go_simp; done) | (go_simp; rfl)); intro gb246 hg w3 hbox hb; have n0_ := Aside0.mk (below_step (by repeat (first | (with_reducible first | exact HB.out | apply below_alloc | apply pw_below_drewN | apply below_drew1) | exact HB.out)) hb); have n1_ := Aside0.mk (hbox); have n2_ := Aside0.mk ((by rw [hg]; exact (below_size (by repeat (first | (with_reducible first | exact HB.out | apply below_alloc | apply pw_below_drewN | apply below_drew1) | exact HB.out))) : w.heap.size ≤ gb246)); have n3_ := Aside0.mk ((by rw [hg]; exact (below_size (by repeat (first | (with_reducible first | exact HB.out | apply below_alloc | apply pw_below_drewN | apply below_drew1) | exact HB.out))) : w.heap.size ≤ gb246)); clear HB; have HB := n0_; have BK246 := n1_; have GW246 := n2_; have GE246 := n3_; clear n0_ n1_ n2_ n3_; clear hb hbox hg; have hcz4_0 : w3.cell? ⟨gb246, 0, none⟩ = some (.int .i64 0) := (blk_cell BK246.out 0).trans rfl; have hcz4_1 : w3.cell? ⟨gb246, 1, none⟩ = some (.int .i64 0) := (blk_cell BK246.out 1).trans rfl; have hcz4_2 : w3.cell? ⟨gb246, 2, none⟩ = some (.int .i64 0) := (blk_cell BK246.out 2).trans rfl; have hcz4_3 : w3.cell? ⟨gb246, 3, none⟩ = some (.slice none 0 0) := (blk_cell BK246.out 3).trans rfl; have hfz4_0 := blk_frozen BK246.out 0; have hfz4_1 := blk_frozen BK246.out 1; have hfz4_2 := blk_frozen BK246.out 2; have hfz4_3 := blk_frozen BK246.out 3))
    repeat (go_quiet (first | ((with_reducible refine gate_dst (N := 2) rfl ?_); refine box_event ?hg (N := 2) ?hd (cs := #[.int .i64 0, .int .i64 0, .int .i64 0, .slice none 0 0]) (t := 30) ?hr ?_; (case hd => rfl); (case hg => rfl); (case hr => first | (go_simp; done) | (go_simp; rfl)); intro gb246 hg w3 hbox hb; have n0_ := Aside0.mk (below_step (by repeat (first | (with_reducible first | exact HB.out | apply below_alloc | apply pw_below_drewN | apply below_drew1) | exact HB.out)) hb); have n1_ := Aside0.mk (hbox); have n2_ := Aside0.mk ((by rw [hg]; exact (below_size (by repeat (first | (with_reducible first | exact HB.out | apply below_alloc | apply pw_below_drewN | apply below_drew1) | exact HB.out))) : w.heap.size ≤ gb246)); have n3_ := Aside0.mk ((by rw [hg]; exact (below_size (by repeat (first | (with_reducible first | exact HB.out | apply below_alloc | apply pw_below_drewN | apply below_drew1) | exact HB.out))) : w.heap.size ≤ gb246)); clear HB; have HB := n0_; have BK246 := n1_; have GW246 := n2_; have GE246 := n3_; clear n0_ n1_ n2_ n3_; clear hb hbox hg; have hcz4_0 : w3.cell? ⟨gb246, 0, none⟩ = some (.int .i64 0) := (blk_cell BK246.out 0).trans rfl; have hcz4_1 : w3.cell? ⟨gb246, 1, none⟩ = some (.int .i64 0) := (blk_cell BK246.out 1).trans rfl; have hcz4_2 : w3.cell? ⟨gb246, 2, none⟩ = some (.int .i64 0) := (blk_cell BK246.out 2).trans rfl; have hcz4_3 : w3.cell? ⟨gb246, 3, none⟩ = some (.slice none 0 0) := (blk_cell BK246.out 3).trans rfl; have hfz4_0 := blk_frozen BK246.out 0; have hfz4_1 := blk_frozen BK246.out 1; have hfz4_2 := blk_frozen BK246.out 2; have hfz4_3 := blk_frozen BK246.out 3)); try go_wp2_with (first | ((with_reducible refine gate_dst (N := 2) rfl ?_); refine box_event ?hg (N := 2) ?hd (cs := #[.int .i64 0, .int .i64 0, .int .i64 0, .slice none 0 0]) (t := 30) ?hr ?_; (case hd => rfl); (case hg => rfl); (case hr => first | (go_simp; done) | (go_simp; rfl)); intro gb246 hg w3 hbox hb; have n0_ := Aside0.mk (below_step (by repeat (first | (with_reducible first | exact HB.out | apply below_alloc | apply pw_below_drewN | apply below_drew1) | exact HB.out)) hb); have n1_ := Aside0.mk (hbox); have n2_ := Aside0.mk ((by rw [hg]; exact (below_size (by repeat (first | (with_reducible first | exact HB.out | apply below_alloc | apply pw_below_drewN | apply below_drew1) | exact HB.out))) : w.heap.size ≤ gb246)); have n3_ := Aside0.mk ((by rw [hg]; exact (below_size (by repeat (first | (with_reducible first | exact HB.out | apply below_alloc | apply pw_below_drewN | apply below_drew1) | exact HB.out))) : w.heap.size ≤ gb246)); clear HB; have HB := n0_; have BK246 := n1_; have GW246 := n2_; have GE246 := n3_; clear n0_ n1_ n2_ n3_; clear hb hbox hg; have hcz4_0 : w3.cell? ⟨gb246, 0, none⟩ = some (.int .i64 0) := (blk_cell BK246.out 0).trans rfl; have hcz4_1 : w3.cell? ⟨gb246, 1, none⟩ = some (.int .i64 0) := (blk_cell BK246.out 1).trans rfl; have hcz4_2 : w3.cell? ⟨gb246, 2, none⟩ = some (.int .i64 0) := (blk_cell BK246.out 2).trans rfl; have hcz4_3 : w3.cell? ⟨gb246, 3, none⟩ = some (.slice none 0 0) := (blk_cell BK246.out 3).trans rfl; have hfz4_0 := blk_frozen BK246.out 0; have hfz4_1 := blk_frozen BK246.out 1; have hfz4_2 := blk_frozen BK246.out 2; have hfz4_3 := blk_frozen BK246.out 3)))
    refine bodyPost_ret (results_ctt rfl _ _ gb246 30 #[.int .i64 0, .int .i64 0, .int .i64 0, .slice none 0 0] (0, 0) _ rfl (by (with_reducible repeat (first | refine blk_drewN ?_ _ | refine blk_drew ?_ | refine blk_alloc ?_ _)); refine blk_put (cs := #[.int .i64 0, .int .i64 0, .int .i64 0, .slice none 0 0]) ?_ 3 _ rfl; (with_reducible repeat (first | refine blk_drewN ?_ _ | refine blk_drew ?_ | refine blk_alloc ?_ _)); refine blk_put (cs := #[.int .i64 0, .int .i64 0, .int .i64 0, .slice none 0 0]) ?_ 2 _ rfl; (with_reducible repeat (first | refine blk_drewN ?_ _ | refine blk_drew ?_ | refine blk_alloc ?_ _)); refine blk_put (cs := #[.int .i64 0, .int .i64 0, .int .i64 0, .slice none 0 0]) ?_ 1 _ rfl; (with_reducible repeat (first | refine blk_drewN ?_ _ | refine blk_drew ?_ | refine blk_alloc ?_ _)); refine blk_put (cs := #[.int .i64 0, .int .i64 0, .int .i64 0, .slice none 0 0]) ?_ 0 _ rfl; (with_reducible repeat (first | refine blk_drewN ?_ _ | refine blk_drew ?_ | refine blk_alloc ?_ _)); exact BK246.out) Try.underlying30 rfl (by kernel_rfl)) rfl ?_
    exact ⟨_, by first | rfl | (simp [errW_none, errW_some] <;> rfl) | (simp [*, errW_none, errW_some] <;> rfl), by first | exact Kd.R_nil _ _ _ _ _ | exact Kd.N_nil _ _ _ _ _ | exact Kd.V_nil _ _ _ _ _ | exact Kd.Q_nil _ _ _ _ _ | exact Kd.S_nil _ _ _ _ _, by repeat (first | (with_reducible first | exact HB.out | apply below_alloc | apply pw_below_drewN | apply below_drew1 | refine below_set ?_ GE246.out) | exact HB.out)⟩
  · rw [if_neg c2] at H
    have c2b0 : decide ((l0.length : Int) < 9) = false := decide_eq_false c2
    have c2b1 : decide (l0.length < 9) = false := decide_eq_false (by omega)
    clear c2
    by_cases c5 : 4 < (l0.length : Int)
    · rw [if_pos c5] at H
      have c5b0 : decide (4 < (l0.length : Int)) = true := decide_eq_true c5
      have c5b1 : decide (4 < l0.length) = true := decide_eq_true (by omega)
      clear c5
      by_cases c6 : 5 < (l0.length : Int)
      · rw [if_pos c6] at H
        have c6b0 : decide (5 < (l0.length : Int)) = true := decide_eq_true c6
        have c6b1 : decide (5 < l0.length) = true := decide_eq_true (by omega)
        clear c6
        by_cases c7 : 7 < (l0.length : Int)
        · rw [if_pos c7] at H
          have c7b0 : decide (7 < (l0.length : Int)) = true := decide_eq_true c7
          have c7b1 : decide (7 < l0.length) = true := decide_eq_true (by omega)
          clear c7
          replace H := Option.bind_eq_some_iff.mp H
          obtain ⟨⟨t250, t251⟩, A80, H⟩ := H
          replace H : (if t251 = true then (if 0 < (l0.length : Int) then (if (rd l0 0) = 0 then (if 1 < (l0.length : Int) then (if (rd l0 1) = 0 then (if 2 < (l0.length : Int) then (if (rd l0 2) = 1 then (if 3 < (l0.length : Int) then (if (rd l0 3) < 192 then (pes_Take.j0 k l0 (Go.bits .or .i64 (wrap64 ((wrap64 (rd l0 4)) * 256)) (wrap64 (rd l0 5))) t250 true) else (if (rd l0 3) > 239 then (pes_Take.j0 k l0 (Go.bits .or .i64 (wrap64 ((wrap64 (rd l0 4)) * 256)) (wrap64 (rd l0 5))) t250 true) else (if 6 < (l0.length : Int) then (if (rd l0 6) = 128 then (if 8 < (l0.length : Int) then (if (wrap64 (rd l0 8)) = t250 then (pes_Take.j0 k l0 (Go.bits .or .i64 (wrap64 ((wrap64 (rd l0 4)) * 256)) (wrap64 (rd l0 5))) t250 (decide ((Go.bits .or .i64 (wrap64 ((wrap64 (rd l0 4)) * 256)) (wrap64 (rd l0 5))) < (wrap64 (3 + t250))))) else (pes_Take.j0 k l0 (Go.bits .or .i64 (wrap64 ((wrap64 (rd l0 4)) * 256)) (wrap64 (rd l0 5))) t250 true)) else (none)) else (pes_Take.j0 k l0 (Go.bits .or .i64 (wrap64 ((wrap64 (rd l0 4)) * 256)) (wrap64 (rd l0 5))) t250 true)) else (none)))) else (none)) else (pes_Take.j0 k l0 (Go.bits .or .i64 (wrap64 ((wrap64 (rd l0 4)) * 256)) (wrap64 (rd l0 5))) t250 true)) else (none)) else (pes_Take.j0 k l0 (Go.bits .or .i64 (wrap64 ((wrap64 (rd l0 4)) * 256)) (wrap64 (rd l0 5))) t250 true)) else (none)) else (pes_Take.j0 k l0 (Go.bits .or .i64 (wrap64 ((wrap64 (rd l0 4)) * 256)) (wrap64 (rd l0 5))) t250 true)) else (none)) else (pes_Take.j0 k l0 (Go.bits .or .i64 (wrap64 ((wrap64 (rd l0 4)) * 256)) (wrap64 (rd l0 5))) t250 true)) = some (r1, r2, r3, r4, r5, r6) := H
          have A8 := Aside0.mk A80
          clear A80
          have HC9 := Aside0.mk H
          clear H
          go_enter Try.func22, Try.ntmps22
          go_upto_region 5 with (first | ((with_reducible refine gate_dst (N := 2) rfl ?_); refine box_event ?hg (N := 2) ?hd (cs := #[.int .i64 0, .int .i64 0, .int .i64 0, .slice none 0 0]) (t := 30) ?hr ?_; (case hd => rfl); (case hg => rfl); (case hr => first | (go_simp; done) | (go_simp; rfl)); intro gb246 hg w10 hbox hb; have n0_ := Aside0.mk (below_step (by repeat (first | (with_reducible first | exact HB.out | apply below_alloc | apply pw_below_drewN | apply below_drew1) | exact HB.out)) hb); have n1_ := Aside0.mk (hbox); have n2_ := Aside0.mk ((by rw [hg]; exact (below_size (by repeat (first | (with_reducible first | exact HB.out | apply below_alloc | apply pw_below_drewN | apply below_drew1) | exact HB.out))) : w.heap.size ≤ gb246)); have n3_ := Aside0.mk ((by rw [hg]; exact (below_size (by repeat (first | (with_reducible first | exact HB.out | apply below_alloc | apply pw_below_drewN | apply below_drew1) | exact HB.out))) : w.heap.size ≤ gb246)); clear HB; have HB := n0_; have BK246 := n1_; have GW246 := n2_; have GE246 := n3_; clear n0_ n1_ n2_ n3_; clear hb hbox hg; have p247 : 0 ≤ (4 : Int) := (by omega); have q247 : 4 < (l0.length : Int) := of_decide_eq_true (by first | (with_reducible assumption) | assumption); obtain ⟨ad247, e247, hx247_0⟩ := Kd.at_int HR0.out 4 p247 q247; cases e247; (try simp only [show (4 : Int).toNat = 4 from rfl, Nat.reduceMul, Nat.reduceEqDiff, Go.Addr.add, ↓reduceIte] at hx247_0); have qi247 : (4 < l0.length) = True := eq_true (by omega); (try rw [show ((4 : Int)).toNat = 4 from rfl] at hx247_0); replace hx247_0 := (HB.out.cell (World.block_lt_of_cell? w _ hx247_0)).trans hx247_0; replace p247 := eq_true p247; replace q247 := eq_true q247; have p248 : 0 ≤ (5 : Int) := (by omega); have q248 : 5 < (l0.length : Int) := of_decide_eq_true (by first | (with_reducible assumption) | assumption); obtain ⟨ad248, e248, hx248_0⟩ := Kd.at_int HR0.out 5 p248 q248; obtain rfl : ad247 = ad248 := (by injection e248); (try simp only [show (5 : Int).toNat = 5 from rfl, Nat.reduceMul, Nat.reduceEqDiff, Go.Addr.add, ↓reduceIte] at hx248_0); have qi248 : (5 < l0.length) = True := eq_true (by omega); (try rw [show ((5 : Int)).toNat = 5 from rfl] at hx248_0); replace hx248_0 := (HB.out.cell (World.block_lt_of_cell? w _ hx248_0)).trans hx248_0; replace p248 := eq_true p248; replace q248 := eq_true q248; have p249 : 0 ≤ (7 : Int) := (by omega); have q249 : 7 < (l0.length : Int) := of_decide_eq_true (by first | (with_reducible assumption) | assumption); obtain ⟨ad249, e249, hx249_0⟩ := Kd.at_int HR0.out 7 p249 q249; obtain rfl : ad247 = ad249 := (by injection e249); (try simp only [show (7 : Int).toNat = 7 from rfl, Nat.reduceMul, Nat.reduceEqDiff, Go.Addr.add, ↓reduceIte] at hx249_0); have qi249 : (7 < l0.length) = True := eq_true (by omega); (try rw [show ((7 : Int)).toNat = 7 from rfl] at hx249_0); replace hx249_0 := (HB.out.cell (World.block_lt_of_cell? w _ hx249_0)).trans hx249_0; replace p249 := eq_true p249; replace q249 := eq_true q249) | (go_at_call 36; (with_reducible refine (pes_stamped.calls (rd l0 7) t250 t251 _ A8.out).mono ?_); rintro e w' ⟨rfl, ⟨nd, rfl⟩⟩; (try first | exact ⟨rfl, _, World.drewN_drewN _ _ _⟩ | exact ⟨rfl, _, Eq.trans (World.drewN_drewN _ _ _) (congrArg (World.drewN _) (Nat.add_assoc _ _ _))⟩)))
          repeat (go_quiet (first | ((with_reducible refine gate_dst (N := 2) rfl ?_); refine box_event ?hg (N := 2) ?hd (cs := #[.int .i64 0, .int .i64 0, .int .i64 0, .slice none 0 0]) (t := 30) ?hr ?_; (case hd => rfl); (case hg => rfl); (case hr => first | (go_simp; done) | (go_simp; rfl)); intro gb246 hg w10 hbox hb; have n0_ := Aside0.mk (below_step (by repeat (first | (with_reducible first | exact HB.out | apply below_alloc | apply pw_below_drewN | apply below_drew1) | exact HB.out)) hb); have n1_ := Aside0.mk (hbox); have n2_ := Aside0.mk ((by rw [hg]; exact (below_size (by repeat (first | (with_reducible first | exact HB.out | apply below_alloc | apply pw_below_drewN | apply below_drew1) | exact HB.out))) : w.heap.size ≤ gb246)); have n3_ := Aside0.mk ((by rw [hg]; exact (below_size (by repeat (first | (with_reducible first | exact HB.out | apply below_alloc | apply pw_below_drewN | apply below_drew1) | exact HB.out))) : w.heap.size ≤ gb246)); clear HB; have HB := n0_; have BK246 := n1_; have GW246 := n2_; have GE246 := n3_; clear n0_ n1_ n2_ n3_; clear hb hbox hg; have p247 : 0 ≤ (4 : Int) := (by omega); have q247 : 4 < (l0.length : Int) := of_decide_eq_true (by first | (with_reducible assumption) | assumption); obtain ⟨ad247, e247, hx247_0⟩ := Kd.at_int HR0.out 4 p247 q247; cases e247; (try simp only [show (4 : Int).toNat = 4 from rfl, Nat.reduceMul, Nat.reduceEqDiff, Go.Addr.add, ↓reduceIte] at hx247_0); have qi247 : (4 < l0.length) = True := eq_true (by omega); (try rw [show ((4 : Int)).toNat = 4 from rfl] at hx247_0); replace hx247_0 := (HB.out.cell (World.block_lt_of_cell? w _ hx247_0)).trans hx247_0; replace p247 := eq_true p247; replace q247 := eq_true q247; have p248 : 0 ≤ (5 : Int) := (by omega); have q248 : 5 < (l0.length : Int) := of_decide_eq_true (by first | (with_reducible assumption) | assumption); obtain ⟨ad248, e248, hx248_0⟩ := Kd.at_int HR0.out 5 p248 q248; obtain rfl : ad247 = ad248 := (by injection e248); (try simp only [show (5 : Int).toNat = 5 from rfl, Nat.reduceMul, Nat.reduceEqDiff, Go.Addr.add, ↓reduceIte] at hx248_0); have qi248 : (5 < l0.length) = True := eq_true (by omega); (try rw [show ((5 : Int)).toNat = 5 from rfl] at hx248_0); replace hx248_0 := (HB.out.cell (World.block_lt_of_cell? w _ hx248_0)).trans hx248_0; replace p248 := eq_true p248; replace q248 := eq_true q248; have p249 : 0 ≤ (7 : Int) := (by omega); have q249 : 7 < (l0.length : Int) := of_decide_eq_true (by first | (with_reducible assumption) | assumption); obtain ⟨ad249, e249, hx249_0⟩ := Kd.at_int HR0.out 7 p249 q249; obtain rfl : ad247 = ad249 := (by injection e249); (try simp only [show (7 : Int).toNat = 7 from rfl, Nat.reduceMul, Nat.reduceEqDiff, Go.Addr.add, ↓reduceIte] at hx249_0); have qi249 : (7 < l0.length) = True := eq_true (by omega); (try rw [show ((7 : Int)).toNat = 7 from rfl] at hx249_0); replace hx249_0 := (HB.out.cell (World.block_lt_of_cell? w _ hx249_0)).trans hx249_0; replace p249 := eq_true p249; replace q249 := eq_true q249) | (go_at_call 36; (with_reducible refine (pes_stamped.calls (rd l0 7) t250 t251 _ A8.out).mono ?_); rintro e w' ⟨rfl, ⟨nd, rfl⟩⟩; (try first | exact ⟨rfl, _, World.drewN_drewN _ _ _⟩ | exact ⟨rfl, _, Eq.trans (World.drewN_drewN _ _ _) (congrArg (World.drewN _) (Nat.add_assoc _ _ _))⟩))); go_upto_region 5 with (first | ((with_reducible refine gate_dst (N := 2) rfl ?_); refine box_event ?hg (N := 2) ?hd (cs := #[.int .i64 0, .int .i64 0, .int .i64 0, .slice none 0 0]) (t := 30) ?hr ?_; (case hd => rfl); (case hg => rfl); (case hr => first | (go_simp; done) | (go_simp; rfl)); intro gb246 hg w10 hbox hb; have n0_ := Aside0.mk (below_step (by repeat (first | (with_reducible first | exact HB.out | apply below_alloc | apply pw_below_drewN | apply below_drew1) | exact HB.out)) hb); have n1_ := Aside0.mk (hbox); have n2_ := Aside0.mk ((by rw [hg]; exact (below_size (by repeat (first | (with_reducible first | exact HB.out | apply below_alloc | apply pw_below_drewN | apply below_drew1) | exact HB.out))) : w.heap.size ≤ gb246)); have n3_ := Aside0.mk ((by rw [hg]; exact (below_size (by repeat (first | (with_reducible first | exact HB.out | apply below_alloc | apply pw_below_drewN | apply below_drew1) | exact HB.out))) : w.heap.size ≤ gb246)); clear HB; have HB := n0_; have BK246 := n1_; have GW246 := n2_; have GE246 := n3_; clear n0_ n1_ n2_ n3_; clear hb hbox hg; have p247 : 0 ≤ (4 : Int) := (by omega); have q247 : 4 < (l0.length : Int) := of_decide_eq_true (by first | (with_reducible assumption) | assumption); obtain ⟨ad247, e247, hx247_0⟩ := Kd.at_int HR0.out 4 p247 q247; cases e247; (try simp only [show (4 : Int).toNat = 4 from rfl, Nat.reduceMul, Nat.reduceEqDiff, Go.Addr.add, ↓reduceIte] at hx247_0); have qi247 : (4 < l0.length) = True := eq_true (by omega); (try rw [show ((4 : Int)).toNat = 4 from rfl] at hx247_0); replace hx247_0 := (HB.out.cell (World.block_lt_of_cell? w _ hx247_0)).trans hx247_0; replace p247 := eq_true p247; replace q247 := eq_true q247; have p248 : 0 ≤ (5 : Int) := (by omega); have q248 : 5 < (l0.length : Int) := of_decide_eq_true (by first | (with_reducible assumption) | assumption); obtain ⟨ad248, e248, hx248_0⟩ := Kd.at_int HR0.out 5 p248 q248; obtain rfl : ad247 = ad248 := (by injection e248); (try simp only [show (5 : Int).toNat = 5 from rfl, Nat.reduceMul, Nat.reduceEqDiff, Go.Addr.add, ↓reduceIte] at hx248_0); have qi248 : (5 < l0.length) = True := eq_true (by omega); (try rw [show ((5 : Int)).toNat = 5 from rfl] at hx248_0); replace hx248_0 := (HB.out.cell (World.block_lt_of_cell? w _ hx248_0)).trans hx248_0; replace p248 := eq_true p248; replace q248 := eq_true q248; have p249 : 0 ≤ (7 : Int) := (by omega); have q249 : 7 < (l0.length : Int) := of_decide_eq_true (by first | (with_reducible assumption) | assumption); obtain ⟨ad249, e249, hx249_0⟩ := Kd.at_int HR0.out 7 p249 q249; obtain rfl : ad247 = ad249 := (by injection e249); (try simp only [show (7 : Int).toNat = 7 from rfl, Nat.reduceMul, Nat.reduceEqDiff, Go.Addr.add, ↓reduceIte] at hx249_0); have qi249 : (7 < l0.length) = True := eq_true (by omega); (try rw [show ((7 : Int)).toNat = 7 from rfl] at hx249_0); replace hx249_0 := (HB.out.cell (World.block_lt_of_cell? w _ hx249_0)).trans hx249_0; replace p249 := eq_true p249; replace q249 := eq_true q249) | (go_at_call 36; (with_reducible refine (pes_stamped.calls (rd l0 7) t250 t251 _ A8.out).mono ?_); rintro e w' ⟨rfl, ⟨nd, rfl⟩⟩; (try first | exact ⟨rfl, _, World.drewN_drewN _ _ _⟩ | exact ⟨rfl, _, Eq.trans (World.drewN_drewN _ _ _) (congrArg (World.drewN _) (Nat.add_assoc _ _ _))⟩))))
          (try simp only [Act.put, List.setIfInBounds_toArray, List.set_cons_zero, List.set_cons_succ])
          go_cut [84] (fun v84 wc => ∃ (kq : Nat) (x84_8 : Bool), v84 = .bool x84_8 ∧ Aside0 (pes_Take.j0 kq l0 (Go.bits .or .i64 (wrap64 ((wrap64 (rd l0 4)) * 256)) (wrap64 (rd l0 5))) t250 x84_8 = some (r1, r2, r3, r4, r5, r6)) ∧ Aside0 (kq ≤ k) ∧ Aside0 (wc.heap[gb246]? = some (.cells #[.int .i64 0, .int .i64 0, .int .i64 0, (.slice none 0 0)] 30 (0, 0))) ∧ Aside0 (Below w.heap.size w wc))
          case first =>
            have H := HC9.out
            clear HC9
            by_cases c11 : t251 = true
            · subst c11
              have H1 : (if 0 < (l0.length : Int) then (if (rd l0 0) = 0 then (if 1 < (l0.length : Int) then (if (rd l0 1) = 0 then (if 2 < (l0.length : Int) then (if (rd l0 2) = 1 then (if 3 < (l0.length : Int) then (if (rd l0 3) < 192 then (pes_Take.j0 k l0 (Go.bits .or .i64 (wrap64 ((wrap64 (rd l0 4)) * 256)) (wrap64 (rd l0 5))) t250 true) else (if (rd l0 3) > 239 then (pes_Take.j0 k l0 (Go.bits .or .i64 (wrap64 ((wrap64 (rd l0 4)) * 256)) (wrap64 (rd l0 5))) t250 true) else (if 6 < (l0.length : Int) then (if (rd l0 6) = 128 then (if 8 < (l0.length : Int) then (if (wrap64 (rd l0 8)) = t250 then (pes_Take.j0 k l0 (Go.bits .or .i64 (wrap64 ((wrap64 (rd l0 4)) * 256)) (wrap64 (rd l0 5))) t250 (decide ((Go.bits .or .i64 (wrap64 ((wrap64 (rd l0 4)) * 256)) (wrap64 (rd l0 5))) < (wrap64 (3 + t250))))) else (pes_Take.j0 k l0 (Go.bits .or .i64 (wrap64 ((wrap64 (rd l0 4)) * 256)) (wrap64 (rd l0 5))) t250 true)) else (none)) else (pes_Take.j0 k l0 (Go.bits .or .i64 (wrap64 ((wrap64 (rd l0 4)) * 256)) (wrap64 (rd l0 5))) t250 true)) else (none)))) else (none)) else (pes_Take.j0 k l0 (Go.bits .or .i64 (wrap64 ((wrap64 (rd l0 4)) * 256)) (wrap64 (rd l0 5))) t250 true)) else (none)) else (pes_Take.j0 k l0 (Go.bits .or .i64 (wrap64 ((wrap64 (rd l0 4)) * 256)) (wrap64 (rd l0 5))) t250 true)) else (none)) else (pes_Take.j0 k l0 (Go.bits .or .i64 (wrap64 ((wrap64 (rd l0 4)) * 256)) (wrap64 (rd l0 5))) t250 true)) else (none)) = some (r1, r2, r3, r4, r5, r6) := by rw [if_pos rfl] at H; exact H
              clear H
              have H := H1
              clear H1
              by_cases c12 : 0 < (l0.length : Int)
              · rw [if_pos c12] at H
                have c12b0 : decide (0 < (l0.length : Int)) = true := decide_eq_true c12
                have c12b1 : decide (0 < l0.length) = true := decide_eq_true (by omega)
                clear c12
                (first | rw [c12b0] | (simp only [i64_w, i32_w]; rw [c12b0]) | skip)
                by_cases c13 : (rd l0 0) = 0
                · rw [if_pos c13] at H
                  have c13b0 : ((rd l0 0) == 0) = true := beq_iff_eq.mpr c13
                  have c13b1 : ((rd l0 0) != 0) = false := bne_eq_false_iff_eq.mpr c13
                  clear c13
                  by_cases c14 : 1 < (l0.length : Int)
                  · rw [if_pos c14] at H
                    have c14b0 : decide (1 < (l0.length : Int)) = true := decide_eq_true c14
                    have c14b1 : decide (1 < l0.length) = true := decide_eq_true (by omega)
                    clear c14
                    by_cases c15 : (rd l0 1) = 0
                    · rw [if_pos c15] at H
                      have c15b0 : ((rd l0 1) == 0) = true := beq_iff_eq.mpr c15
                      have c15b1 : ((rd l0 1) != 0) = false := bne_eq_false_iff_eq.mpr c15
                      clear c15
                      by_cases c16 : 2 < (l0.length : Int)
                      · rw [if_pos c16] at H
                        have c16b0 : decide (2 < (l0.length : Int)) = true := decide_eq_true c16
                        have c16b1 : decide (2 < l0.length) = true := decide_eq_true (by omega)
                        clear c16
                        by_cases c17 : (rd l0 2) = 1
                        · rw [if_pos c17] at H
                          have c17b0 : ((rd l0 2) == 1) = true := beq_iff_eq.mpr c17
                          have c17b1 : ((rd l0 2) != 1) = false := bne_eq_false_iff_eq.mpr c17
                          clear c17
                          by_cases c18 : 3 < (l0.length : Int)
                          · rw [if_pos c18] at H
                            have c18b0 : decide (3 < (l0.length : Int)) = true := decide_eq_true c18
                            have c18b1 : decide (3 < l0.length) = true := decide_eq_true (by omega)
                            clear c18
                            by_cases c19 : (rd l0 3) < 192
                            · rw [if_pos c19] at H
                              have c19b0 : decide ((rd l0 3) < 192) = true := decide_eq_true c19
                              clear c19
                              have H' := Aside0.mk H
                              clear H
                              have p252 : 0 ≤ (0 : Int) := (by omega)
                              have q252 : 0 < (l0.length : Int) := of_decide_eq_true (by first | (with_reducible assumption) | assumption)
                              obtain ⟨ad252, e252, hx252_0⟩ := Kd.at_int HR0.out 0 p252 q252
                              obtain rfl : ad247 = ad252 := (by injection e252)
                              have qi252 : (0 < l0.length) = True := eq_true (by omega)
                              (try rw [show ((0 : Int)).toNat = 0 from rfl] at hx252_0)
                              (try rw [Addr.add_zero'] at hx252_0)
                              replace hx252_0 := (HB.out.cell (World.block_lt_of_cell? w _ hx252_0)).trans hx252_0
                              replace p252 := eq_true p252
                              replace q252 := eq_true q252
                              have p253 : 0 ≤ (1 : Int) := (by omega)
                              have q253 : 1 < (l0.length : Int) := of_decide_eq_true (by first | (with_reducible assumption) | assumption)
                              obtain ⟨ad253, e253, hx253_0⟩ := Kd.at_int HR0.out 1 p253 q253
                              obtain rfl : ad247 = ad253 := (by injection e253)
                              (try simp only [show (1 : Int).toNat = 1 from rfl, Nat.reduceMul, Nat.reduceEqDiff, Go.Addr.add, ↓reduceIte] at hx253_0)
                              have qi253 : (1 < l0.length) = True := eq_true (by omega)
                              (try rw [show ((1 : Int)).toNat = 1 from rfl] at hx253_0)
                              replace hx253_0 := (HB.out.cell (World.block_lt_of_cell? w _ hx253_0)).trans hx253_0
                              replace p253 := eq_true p253
                              replace q253 := eq_true q253
                              have p254 : 0 ≤ (2 : Int) := (by omega)
                              have q254 : 2 < (l0.length : Int) := of_decide_eq_true (by first | (with_reducible assumption) | assumption)
                              obtain ⟨ad254, e254, hx254_0⟩ := Kd.at_int HR0.out 2 p254 q254
                              obtain rfl : ad247 = ad254 := (by injection e254)
                              (try simp only [show (2 : Int).toNat = 2 from rfl, Nat.reduceMul, Nat.reduceEqDiff, Go.Addr.add, ↓reduceIte] at hx254_0)
                              have qi254 : (2 < l0.length) = True := eq_true (by omega)
                              (try rw [show ((2 : Int)).toNat = 2 from rfl] at hx254_0)
                              replace hx254_0 := (HB.out.cell (World.block_lt_of_cell? w _ hx254_0)).trans hx254_0
                              replace p254 := eq_true p254
                              replace q254 := eq_true q254
                              have p255 : 0 ≤ (3 : Int) := (by omega)
                              have q255 : 3 < (l0.length : Int) := of_decide_eq_true (by first | (with_reducible assumption) | assumption)
                              obtain ⟨ad255, e255, hx255_0⟩ := Kd.at_int HR0.out 3 p255 q255
                              obtain rfl : ad247 = ad255 := (by injection e255)
                              (try simp only [show (3 : Int).toNat = 3 from rfl, Nat.reduceMul, Nat.reduceEqDiff, Go.Addr.add, ↓reduceIte] at hx255_0)
                              have qi255 : (3 < l0.length) = True := eq_true (by omega)
                              (try rw [show ((3 : Int)).toNat = 3 from rfl] at hx255_0)
                              replace hx255_0 := (HB.out.cell (World.block_lt_of_cell? w _ hx255_0)).trans hx255_0
                              replace p255 := eq_true p255
                              replace q255 := eq_true q255
                              go_wp2
                              repeat (go_quiet (fail); try go_wp2)
                              go_meet
                              case rel => exact ⟨_, (true), (by first | rfl | (simp; done) | (simp [*]; done)), H', ⟨by first | omega | exact Nat.le_refl _⟩, ⟨by (with_reducible repeat (first | refine blk_drewN ?_ _ | refine blk_drew ?_ | refine blk_alloc ?_ _)); exact BK246.out⟩, ⟨by repeat (first | (with_reducible first | exact HB.out | apply below_alloc | apply pw_below_drewN | apply below_drew1 | refine below_set ?_ GE246.out) | exact HB.out)⟩⟩
                            · rw [if_neg c19] at H
                              have c19b0 : decide ((rd l0 3) < 192) = false := decide_eq_false c19
                              clear c19
                              by_cases c20 : (rd l0 3) > 239
                              · rw [if_pos c20] at H
                                have c20b0 : decide (239 < (rd l0 3)) = true := decide_eq_true c20
                                clear c20
                                have H' := Aside0.mk H
                                clear H
                                have p252 : 0 ≤ (0 : Int) := (by omega)
                                have q252 : 0 < (l0.length : Int) := of_decide_eq_true (by first | (with_reducible assumption) | assumption)
                                obtain ⟨ad252, e252, hx252_0⟩ := Kd.at_int HR0.out 0 p252 q252
                                obtain rfl : ad247 = ad252 := (by injection e252)
                                have qi252 : (0 < l0.length) = True := eq_true (by omega)
                                (try rw [show ((0 : Int)).toNat = 0 from rfl] at hx252_0)
                                (try rw [Addr.add_zero'] at hx252_0)
                                replace hx252_0 := (HB.out.cell (World.block_lt_of_cell? w _ hx252_0)).trans hx252_0
                                replace p252 := eq_true p252
                                replace q252 := eq_true q252
                                have p253 : 0 ≤ (1 : Int) := (by omega)
                                have q253 : 1 < (l0.length : Int) := of_decide_eq_true (by first | (with_reducible assumption) | assumption)
                                obtain ⟨ad253, e253, hx253_0⟩ := Kd.at_int HR0.out 1 p253 q253
                                obtain rfl : ad247 = ad253 := (by injection e253)
                                (try simp only [show (1 : Int).toNat = 1 from rfl, Nat.reduceMul, Nat.reduceEqDiff, Go.Addr.add, ↓reduceIte] at hx253_0)
                                have qi253 : (1 < l0.length) = True := eq_true (by omega)
                                (try rw [show ((1 : Int)).toNat = 1 from rfl] at hx253_0)
                                replace hx253_0 := (HB.out.cell (World.block_lt_of_cell? w _ hx253_0)).trans hx253_0
                                replace p253 := eq_true p253
                                replace q253 := eq_true q253
                                have p254 : 0 ≤ (2 : Int) := (by omega)
                                have q254 : 2 < (l0.length : Int) := of_decide_eq_true (by first | (with_reducible assumption) | assumption)
                                obtain ⟨ad254, e254, hx254_0⟩ := Kd.at_int HR0.out 2 p254 q254
                                obtain rfl : ad247 = ad254 := (by injection e254)
                                (try simp only [show (2 : Int).toNat = 2 from rfl, Nat.reduceMul, Nat.reduceEqDiff, Go.Addr.add, ↓reduceIte] at hx254_0)
                                have qi254 : (2 < l0.length) = True := eq_true (by omega)
                                (try rw [show ((2 : Int)).toNat = 2 from rfl] at hx254_0)
                                replace hx254_0 := (HB.out.cell (World.block_lt_of_cell? w _ hx254_0)).trans hx254_0
                                replace p254 := eq_true p254
                                replace q254 := eq_true q254
                                have p255 : 0 ≤ (3 : Int) := (by omega)
                                have q255 : 3 < (l0.length : Int) := of_decide_eq_true (by first | (with_reducible assumption) | assumption)
                                obtain ⟨ad255, e255, hx255_0⟩ := Kd.at_int HR0.out 3 p255 q255
                                obtain rfl : ad247 = ad255 := (by injection e255)
                                (try simp only [show (3 : Int).toNat = 3 from rfl, Nat.reduceMul, Nat.reduceEqDiff, Go.Addr.add, ↓reduceIte] at hx255_0)
                                have qi255 : (3 < l0.length) = True := eq_true (by omega)
                                (try rw [show ((3 : Int)).toNat = 3 from rfl] at hx255_0)
                                replace hx255_0 := (HB.out.cell (World.block_lt_of_cell? w _ hx255_0)).trans hx255_0
                                replace p255 := eq_true p255
                                replace q255 := eq_true q255
                                have p256 : 0 ≤ (3 : Int) := (by omega)
                                have q256 : 3 < (l0.length : Int) := of_decide_eq_true (by first | (with_reducible assumption) | assumption)
                                obtain ⟨ad256, e256, hx256_0⟩ := Kd.at_int HR0.out 3 p256 q256
                                obtain rfl : ad247 = ad256 := (by injection e256)
                                (try simp only [show (3 : Int).toNat = 3 from rfl, Nat.reduceMul, Nat.reduceEqDiff, Go.Addr.add, ↓reduceIte] at hx256_0)
                                have qi256 : (3 < l0.length) = True := eq_true (by omega)
                                (try rw [show ((3 : Int)).toNat = 3 from rfl] at hx256_0)
                                replace hx256_0 := (HB.out.cell (World.block_lt_of_cell? w _ hx256_0)).trans hx256_0
                                replace p256 := eq_true p256
                                replace q256 := eq_true q256
                                go_wp2
                                repeat (go_quiet (fail); try go_wp2)
                                go_meet
                                case rel => exact ⟨_, (true), (by first | rfl | (simp; done) | (simp [*]; done)), H', ⟨by first | omega | exact Nat.le_refl _⟩, ⟨by (with_reducible repeat (first | refine blk_drewN ?_ _ | refine blk_drew ?_ | refine blk_alloc ?_ _)); exact BK246.out⟩, ⟨by repeat (first | (with_reducible first | exact HB.out | apply below_alloc | apply pw_below_drewN | apply below_drew1 | refine below_set ?_ GE246.out) | exact HB.out)⟩⟩
                              · rw [if_neg c20] at H
                                have c20b0 : decide (239 < (rd l0 3)) = false := decide_eq_false c20
                                clear c20
                                by_cases c21 : 6 < (l0.length : Int)
                                · rw [if_pos c21] at H
                                  have c21b0 : decide (6 < (l0.length : Int)) = true := decide_eq_true c21
                                  have c21b1 : decide (6 < l0.length) = true := decide_eq_true (by omega)
                                  clear c21
                                  by_cases c22 : (rd l0 6) = 128
                                  · rw [if_pos c22] at H
                                    have c22b0 : ((rd l0 6) == 128) = true := beq_iff_eq.mpr c22
                                    have c22b1 : ((rd l0 6) != 128) = false := bne_eq_false_iff_eq.mpr c22
                                    clear c22
                                    by_cases c23 : 8 < (l0.length : Int)
                                    · rw [if_pos c23] at H
                                      have c23b0 : decide (8 < (l0.length : Int)) = true := decide_eq_true c23
                                      have c23b1 : decide (8 < l0.length) = true := decide_eq_true (by omega)
                                      clear c23
                                      by_cases c24 : (wrap64 (rd l0 8)) = t250
                                      · rw [if_pos c24] at H
                                        have c24b0 : ((wrap64 (rd l0 8)) == t250) = true := beq_iff_eq.mpr c24
                                        have c24b1 : ((wrap64 (rd l0 8)) != t250) = false := bne_eq_false_iff_eq.mpr c24
                                        clear c24
                                        have H' := Aside0.mk H
                                        clear H
                                        have p252 : 0 ≤ (0 : Int) := (by omega)
                                        have q252 : 0 < (l0.length : Int) := of_decide_eq_true (by first | (with_reducible assumption) | assumption)
                                        obtain ⟨ad252, e252, hx252_0⟩ := Kd.at_int HR0.out 0 p252 q252
                                        obtain rfl : ad247 = ad252 := (by injection e252)
                                        have qi252 : (0 < l0.length) = True := eq_true (by omega)
                                        (try rw [show ((0 : Int)).toNat = 0 from rfl] at hx252_0)
                                        (try rw [Addr.add_zero'] at hx252_0)
                                        replace hx252_0 := (HB.out.cell (World.block_lt_of_cell? w _ hx252_0)).trans hx252_0
                                        replace p252 := eq_true p252
                                        replace q252 := eq_true q252
                                        have p253 : 0 ≤ (1 : Int) := (by omega)
                                        have q253 : 1 < (l0.length : Int) := of_decide_eq_true (by first | (with_reducible assumption) | assumption)
                                        obtain ⟨ad253, e253, hx253_0⟩ := Kd.at_int HR0.out 1 p253 q253
                                        obtain rfl : ad247 = ad253 := (by injection e253)
                                        (try simp only [show (1 : Int).toNat = 1 from rfl, Nat.reduceMul, Nat.reduceEqDiff, Go.Addr.add, ↓reduceIte] at hx253_0)
                                        have qi253 : (1 < l0.length) = True := eq_true (by omega)
                                        (try rw [show ((1 : Int)).toNat = 1 from rfl] at hx253_0)
                                        replace hx253_0 := (HB.out.cell (World.block_lt_of_cell? w _ hx253_0)).trans hx253_0
                                        replace p253 := eq_true p253
                                        replace q253 := eq_true q253
                                        have p254 : 0 ≤ (2 : Int) := (by omega)
                                        have q254 : 2 < (l0.length : Int) := of_decide_eq_true (by first | (with_reducible assumption) | assumption)
                                        obtain ⟨ad254, e254, hx254_0⟩ := Kd.at_int HR0.out 2 p254 q254
                                        obtain rfl : ad247 = ad254 := (by injection e254)
                                        (try simp only [show (2 : Int).toNat = 2 from rfl, Nat.reduceMul, Nat.reduceEqDiff, Go.Addr.add, ↓reduceIte] at hx254_0)
                                        have qi254 : (2 < l0.length) = True := eq_true (by omega)
                                        (try rw [show ((2 : Int)).toNat = 2 from rfl] at hx254_0)
                                        replace hx254_0 := (HB.out.cell (World.block_lt_of_cell? w _ hx254_0)).trans hx254_0
                                        replace p254 := eq_true p254
                                        replace q254 := eq_true q254
                                        have p255 : 0 ≤ (3 : Int) := (by omega)
                                        have q255 : 3 < (l0.length : Int) := of_decide_eq_true (by first | (with_reducible assumption) | assumption)
                                        obtain ⟨ad255, e255, hx255_0⟩ := Kd.at_int HR0.out 3 p255 q255
                                        obtain rfl : ad247 = ad255 := (by injection e255)
                                        (try simp only [show (3 : Int).toNat = 3 from rfl, Nat.reduceMul, Nat.reduceEqDiff, Go.Addr.add, ↓reduceIte] at hx255_0)
                                        have qi255 : (3 < l0.length) = True := eq_true (by omega)
                                        (try rw [show ((3 : Int)).toNat = 3 from rfl] at hx255_0)
                                        replace hx255_0 := (HB.out.cell (World.block_lt_of_cell? w _ hx255_0)).trans hx255_0
                                        replace p255 := eq_true p255
                                        replace q255 := eq_true q255
                                        have p256 : 0 ≤ (3 : Int) := (by omega)
                                        have q256 : 3 < (l0.length : Int) := of_decide_eq_true (by first | (with_reducible assumption) | assumption)
                                        obtain ⟨ad256, e256, hx256_0⟩ := Kd.at_int HR0.out 3 p256 q256
                                        obtain rfl : ad247 = ad256 := (by injection e256)
                                        (try simp only [show (3 : Int).toNat = 3 from rfl, Nat.reduceMul, Nat.reduceEqDiff, Go.Addr.add, ↓reduceIte] at hx256_0)
                                        have qi256 : (3 < l0.length) = True := eq_true (by omega)
                                        (try rw [show ((3 : Int)).toNat = 3 from rfl] at hx256_0)
                                        replace hx256_0 := (HB.out.cell (World.block_lt_of_cell? w _ hx256_0)).trans hx256_0
                                        replace p256 := eq_true p256
                                        replace q256 := eq_true q256
                                        have p257 : 0 ≤ (6 : Int) := (by omega)
                                        have q257 : 6 < (l0.length : Int) := of_decide_eq_true (by first | (with_reducible assumption) | assumption)
                                        obtain ⟨ad257, e257, hx257_0⟩ := Kd.at_int HR0.out 6 p257 q257
                                        obtain rfl : ad247 = ad257 := (by injection e257)
                                        (try simp only [show (6 : Int).toNat = 6 from rfl, Nat.reduceMul, Nat.reduceEqDiff, Go.Addr.add, ↓reduceIte] at hx257_0)
                                        have qi257 : (6 < l0.length) = True := eq_true (by omega)
                                        (try rw [show ((6 : Int)).toNat = 6 from rfl] at hx257_0)
                                        replace hx257_0 := (HB.out.cell (World.block_lt_of_cell? w _ hx257_0)).trans hx257_0
                                        replace p257 := eq_true p257
                                        replace q257 := eq_true q257
                                        have p258 : 0 ≤ (8 : Int) := (by omega)
                                        have q258 : 8 < (l0.length : Int) := of_decide_eq_true (by first | (with_reducible assumption) | assumption)
                                        obtain ⟨ad258, e258, hx258_0⟩ := Kd.at_int HR0.out 8 p258 q258
                                        obtain rfl : ad247 = ad258 := (by injection e258)
                                        (try simp only [show (8 : Int).toNat = 8 from rfl, Nat.reduceMul, Nat.reduceEqDiff, Go.Addr.add, ↓reduceIte] at hx258_0)
                                        have qi258 : (8 < l0.length) = True := eq_true (by omega)
                                        (try rw [show ((8 : Int)).toNat = 8 from rfl] at hx258_0)
                                        replace hx258_0 := (HB.out.cell (World.block_lt_of_cell? w _ hx258_0)).trans hx258_0
                                        replace p258 := eq_true p258
                                        replace q258 := eq_true q258
                                        go_wp2
                                        repeat (go_quiet (fail); try go_wp2)
                                        go_meet
                                        case rel => exact ⟨_, (decide ((Go.bits .or .i64 (wrap64 ((wrap64 (rd l0 4)) * 256)) (wrap64 (rd l0 5))) < (wrap64 (3 + t250)))), (by first | rfl | (simp; done) | (simp [*]; done)), H', ⟨by first | omega | exact Nat.le_refl _⟩, ⟨by (with_reducible repeat (first | refine blk_drewN ?_ _ | refine blk_drew ?_ | refine blk_alloc ?_ _)); exact BK246.out⟩, ⟨by repeat (first | (with_reducible first | exact HB.out | apply below_alloc | apply pw_below_drewN | apply below_drew1 | refine below_set ?_ GE246.out) | exact HB.out)⟩⟩
                                      · rw [if_neg c24] at H
                                        have c24b0 : ((wrap64 (rd l0 8)) == t250) = false := beq_eq_false_iff_ne.mpr c24
                                        have c24b1 : ((wrap64 (rd l0 8)) != t250) = true := bne_iff_ne.mpr c24
                                        have H' := Aside0.mk H
                                        clear H
                                        have p252 : 0 ≤ (0 : Int) := (by omega)
                                        have q252 : 0 < (l0.length : Int) := of_decide_eq_true (by first | (with_reducible assumption) | assumption)
                                        obtain ⟨ad252, e252, hx252_0⟩ := Kd.at_int HR0.out 0 p252 q252
                                        obtain rfl : ad247 = ad252 := (by injection e252)
                                        have qi252 : (0 < l0.length) = True := eq_true (by omega)
                                        (try rw [show ((0 : Int)).toNat = 0 from rfl] at hx252_0)
                                        (try rw [Addr.add_zero'] at hx252_0)
                                        replace hx252_0 := (HB.out.cell (World.block_lt_of_cell? w _ hx252_0)).trans hx252_0
                                        replace p252 := eq_true p252
                                        replace q252 := eq_true q252
                                        have p253 : 0 ≤ (1 : Int) := (by omega)
                                        have q253 : 1 < (l0.length : Int) := of_decide_eq_true (by first | (with_reducible assumption) | assumption)
                                        obtain ⟨ad253, e253, hx253_0⟩ := Kd.at_int HR0.out 1 p253 q253
                                        obtain rfl : ad247 = ad253 := (by injection e253)
                                        (try simp only [show (1 : Int).toNat = 1 from rfl, Nat.reduceMul, Nat.reduceEqDiff, Go.Addr.add, ↓reduceIte] at hx253_0)
                                        have qi253 : (1 < l0.length) = True := eq_true (by omega)
                                        (try rw [show ((1 : Int)).toNat = 1 from rfl] at hx253_0)
                                        replace hx253_0 := (HB.out.cell (World.block_lt_of_cell? w _ hx253_0)).trans hx253_0
                                        replace p253 := eq_true p253
                                        replace q253 := eq_true q253
                                        have p254 : 0 ≤ (2 : Int) := (by omega)
                                        have q254 : 2 < (l0.length : Int) := of_decide_eq_true (by first | (with_reducible assumption) | assumption)
                                        obtain ⟨ad254, e254, hx254_0⟩ := Kd.at_int HR0.out 2 p254 q254
                                        obtain rfl : ad247 = ad254 := (by injection e254)
                                        (try simp only [show (2 : Int).toNat = 2 from rfl, Nat.reduceMul, Nat.reduceEqDiff, Go.Addr.add, ↓reduceIte] at hx254_0)
                                        have qi254 : (2 < l0.length) = True := eq_true (by omega)
                                        (try rw [show ((2 : Int)).toNat = 2 from rfl] at hx254_0)
                                        replace hx254_0 := (HB.out.cell (World.block_lt_of_cell? w _ hx254_0)).trans hx254_0
                                        replace p254 := eq_true p254
                                        replace q254 := eq_true q254
                                        have p255 : 0 ≤ (3 : Int) := (by omega)
                                        have q255 : 3 < (l0.length : Int) := of_decide_eq_true (by first | (with_reducible assumption) | assumption)
                                        obtain ⟨ad255, e255, hx255_0⟩ := Kd.at_int HR0.out 3 p255 q255
                                        obtain rfl : ad247 = ad255 := (by injection e255)
                                        (try simp only [show (3 : Int).toNat = 3 from rfl, Nat.reduceMul, Nat.reduceEqDiff, Go.Addr.add, ↓reduceIte] at hx255_0)
                                        have qi255 : (3 < l0.length) = True := eq_true (by omega)
                                        (try rw [show ((3 : Int)).toNat = 3 from rfl] at hx255_0)
                                        replace hx255_0 := (HB.out.cell (World.block_lt_of_cell? w _ hx255_0)).trans hx255_0
                                        replace p255 := eq_true p255
                                        replace q255 := eq_true q255
                                        have p256 : 0 ≤ (3 : Int) := (by omega)
                                        have q256 : 3 < (l0.length : Int) := of_decide_eq_true (by first | (with_reducible assumption) | assumption)
                                        obtain ⟨ad256, e256, hx256_0⟩ := Kd.at_int HR0.out 3 p256 q256
                                        obtain rfl : ad247 = ad256 := (by injection e256)
                                        (try simp only [show (3 : Int).toNat = 3 from rfl, Nat.reduceMul, Nat.reduceEqDiff, Go.Addr.add, ↓reduceIte] at hx256_0)
                                        have qi256 : (3 < l0.length) = True := eq_true (by omega)
                                        (try rw [show ((3 : Int)).toNat = 3 from rfl] at hx256_0)
                                        replace hx256_0 := (HB.out.cell (World.block_lt_of_cell? w _ hx256_0)).trans hx256_0
                                        replace p256 := eq_true p256
                                        replace q256 := eq_true q256
                                        have p257 : 0 ≤ (6 : Int) := (by omega)
                                        have q257 : 6 < (l0.length : Int) := of_decide_eq_true (by first | (with_reducible assumption) | assumption)
                                        obtain ⟨ad257, e257, hx257_0⟩ := Kd.at_int HR0.out 6 p257 q257
                                        obtain rfl : ad247 = ad257 := (by injection e257)
                                        (try simp only [show (6 : Int).toNat = 6 from rfl, Nat.reduceMul, Nat.reduceEqDiff, Go.Addr.add, ↓reduceIte] at hx257_0)
                                        have qi257 : (6 < l0.length) = True := eq_true (by omega)
                                        (try rw [show ((6 : Int)).toNat = 6 from rfl] at hx257_0)
                                        replace hx257_0 := (HB.out.cell (World.block_lt_of_cell? w _ hx257_0)).trans hx257_0
                                        replace p257 := eq_true p257
                                        replace q257 := eq_true q257
                                        have p258 : 0 ≤ (8 : Int) := (by omega)
                                        have q258 : 8 < (l0.length : Int) := of_decide_eq_true (by first | (with_reducible assumption) | assumption)
                                        obtain ⟨ad258, e258, hx258_0⟩ := Kd.at_int HR0.out 8 p258 q258
                                        obtain rfl : ad247 = ad258 := (by injection e258)
                                        (try simp only [show (8 : Int).toNat = 8 from rfl, Nat.reduceMul, Nat.reduceEqDiff, Go.Addr.add, ↓reduceIte] at hx258_0)
                                        have qi258 : (8 < l0.length) = True := eq_true (by omega)
                                        (try rw [show ((8 : Int)).toNat = 8 from rfl] at hx258_0)
                                        replace hx258_0 := (HB.out.cell (World.block_lt_of_cell? w _ hx258_0)).trans hx258_0
                                        replace p258 := eq_true p258
                                        replace q258 := eq_true q258
                                        go_wp2
                                        repeat (go_quiet (fail); try go_wp2)
                                        go_meet
                                        case rel => exact ⟨_, (true), (by first | rfl | (simp; done) | (simp [*]; done)), H', ⟨by first | omega | exact Nat.le_refl _⟩, ⟨by (with_reducible repeat (first | refine blk_drewN ?_ _ | refine blk_drew ?_ | refine blk_alloc ?_ _)); exact BK246.out⟩, ⟨by repeat (first | (with_reducible first | exact HB.out | apply below_alloc | apply pw_below_drewN | apply below_drew1 | refine below_set ?_ GE246.out) | exact HB.out)⟩⟩
                                    · rw [if_neg c23] at H
                                      exact absurd H (by simp)
                                  · rw [if_neg c22] at H
                                    have c22b0 : ((rd l0 6) == 128) = false := beq_eq_false_iff_ne.mpr c22
                                    have c22b1 : ((rd l0 6) != 128) = true := bne_iff_ne.mpr c22
                                    have H' := Aside0.mk H
                                    clear H
                                    have p252 : 0 ≤ (0 : Int) := (by omega)
                                    have q252 : 0 < (l0.length : Int) := of_decide_eq_true (by first | (with_reducible assumption) | assumption)
                                    obtain ⟨ad252, e252, hx252_0⟩ := Kd.at_int HR0.out 0 p252 q252
                                    obtain rfl : ad247 = ad252 := (by injection e252)
                                    have qi252 : (0 < l0.length) = True := eq_true (by omega)
                                    (try rw [show ((0 : Int)).toNat = 0 from rfl] at hx252_0)
                                    (try rw [Addr.add_zero'] at hx252_0)
                                    replace hx252_0 := (HB.out.cell (World.block_lt_of_cell? w _ hx252_0)).trans hx252_0
                                    replace p252 := eq_true p252
                                    replace q252 := eq_true q252
                                    have p253 : 0 ≤ (1 : Int) := (by omega)
                                    have q253 : 1 < (l0.length : Int) := of_decide_eq_true (by first | (with_reducible assumption) | assumption)
                                    obtain ⟨ad253, e253, hx253_0⟩ := Kd.at_int HR0.out 1 p253 q253
                                    obtain rfl : ad247 = ad253 := (by injection e253)
                                    (try simp only [show (1 : Int).toNat = 1 from rfl, Nat.reduceMul, Nat.reduceEqDiff, Go.Addr.add, ↓reduceIte] at hx253_0)
                                    have qi253 : (1 < l0.length) = True := eq_true (by omega)
                                    (try rw [show ((1 : Int)).toNat = 1 from rfl] at hx253_0)
                                    replace hx253_0 := (HB.out.cell (World.block_lt_of_cell? w _ hx253_0)).trans hx253_0
                                    replace p253 := eq_true p253
                                    replace q253 := eq_true q253
                                    have p254 : 0 ≤ (2 : Int) := (by omega)
                                    have q254 : 2 < (l0.length : Int) := of_decide_eq_true (by first | (with_reducible assumption) | assumption)
                                    obtain ⟨ad254, e254, hx254_0⟩ := Kd.at_int HR0.out 2 p254 q254
                                    obtain rfl : ad247 = ad254 := (by injection e254)
                                    (try simp only [show (2 : Int).toNat = 2 from rfl, Nat.reduceMul, Nat.reduceEqDiff, Go.Addr.add, ↓reduceIte] at hx254_0)
                                    have qi254 : (2 < l0.length) = True := eq_true (by omega)
                                    (try rw [show ((2 : Int)).toNat = 2 from rfl] at hx254_0)
                                    replace hx254_0 := (HB.out.cell (World.block_lt_of_cell? w _ hx254_0)).trans hx254_0
                                    replace p254 := eq_true p254
                                    replace q254 := eq_true q254
                                    have p255 : 0 ≤ (3 : Int) := (by omega)
                                    have q255 : 3 < (l0.length : Int) := of_decide_eq_true (by first | (with_reducible assumption) | assumption)
                                    obtain ⟨ad255, e255, hx255_0⟩ := Kd.at_int HR0.out 3 p255 q255
                                    obtain rfl : ad247 = ad255 := (by injection e255)
                                    (try simp only [show (3 : Int).toNat = 3 from rfl, Nat.reduceMul, Nat.reduceEqDiff, Go.Addr.add, ↓reduceIte] at hx255_0)
                                    have qi255 : (3 < l0.length) = True := eq_true (by omega)
                                    (try rw [show ((3 : Int)).toNat = 3 from rfl] at hx255_0)
                                    replace hx255_0 := (HB.out.cell (World.block_lt_of_cell? w _ hx255_0)).trans hx255_0
                                    replace p255 := eq_true p255
                                    replace q255 := eq_true q255
                                    have p256 : 0 ≤ (3 : Int) := (by omega)
                                    have q256 : 3 < (l0.length : Int) := of_decide_eq_true (by first | (with_reducible assumption) | assumption)
                                    obtain ⟨ad256, e256, hx256_0⟩ := Kd.at_int HR0.out 3 p256 q256
                                    obtain rfl : ad247 = ad256 := (by injection e256)
                                    (try simp only [show (3 : Int).toNat = 3 from rfl, Nat.reduceMul, Nat.reduceEqDiff, Go.Addr.add, ↓reduceIte] at hx256_0)
                                    have qi256 : (3 < l0.length) = True := eq_true (by omega)
                                    (try rw [show ((3 : Int)).toNat = 3 from rfl] at hx256_0)
                                    replace hx256_0 := (HB.out.cell (World.block_lt_of_cell? w _ hx256_0)).trans hx256_0
                                    replace p256 := eq_true p256
                                    replace q256 := eq_true q256
                                    have p257 : 0 ≤ (6 : Int) := (by omega)
                                    have q257 : 6 < (l0.length : Int) := of_decide_eq_true (by first | (with_reducible assumption) | assumption)
                                    obtain ⟨ad257, e257, hx257_0⟩ := Kd.at_int HR0.out 6 p257 q257
                                    obtain rfl : ad247 = ad257 := (by injection e257)
                                    (try simp only [show (6 : Int).toNat = 6 from rfl, Nat.reduceMul, Nat.reduceEqDiff, Go.Addr.add, ↓reduceIte] at hx257_0)
                                    have qi257 : (6 < l0.length) = True := eq_true (by omega)
                                    (try rw [show ((6 : Int)).toNat = 6 from rfl] at hx257_0)
                                    replace hx257_0 := (HB.out.cell (World.block_lt_of_cell? w _ hx257_0)).trans hx257_0
                                    replace p257 := eq_true p257
                                    replace q257 := eq_true q257
                                    go_wp2
                                    repeat (go_quiet (fail); try go_wp2)
                                    go_meet
                                    case rel => exact ⟨_, (true), (by first | rfl | (simp; done) | (simp [*]; done)), H', ⟨by first | omega | exact Nat.le_refl _⟩, ⟨by (with_reducible repeat (first | refine blk_drewN ?_ _ | refine blk_drew ?_ | refine blk_alloc ?_ _)); exact BK246.out⟩, ⟨by repeat (first | (with_reducible first | exact HB.out | apply below_alloc | apply pw_below_drewN | apply below_drew1 | refine below_set ?_ GE246.out) | exact HB.out)⟩⟩
                                · rw [if_neg c21] at H
                                  exact absurd H (by simp)
                          · rw [if_neg c18] at H
                            exact absurd H (by simp)
                        · rw [if_neg c17] at H
                          have c17b0 : ((rd l0 2) == 1) = false := beq_eq_false_iff_ne.mpr c17
                          have c17b1 : ((rd l0 2) != 1) = true := bne_iff_ne.mpr c17
                          have H' := Aside0.mk H
                          clear H
                          have p252 : 0 ≤ (0 : Int) := (by omega)
                          have q252 : 0 < (l0.length : Int) := of_decide_eq_true (by first | (with_reducible assumption) | assumption)
                          obtain ⟨ad252, e252, hx252_0⟩ := Kd.at_int HR0.out 0 p252 q252
                          obtain rfl : ad247 = ad252 := (by injection e252)
                          have qi252 : (0 < l0.length) = True := eq_true (by omega)
                          (try rw [show ((0 : Int)).toNat = 0 from rfl] at hx252_0)
                          (try rw [Addr.add_zero'] at hx252_0)
                          replace hx252_0 := (HB.out.cell (World.block_lt_of_cell? w _ hx252_0)).trans hx252_0
                          replace p252 := eq_true p252
                          replace q252 := eq_true q252
                          have p253 : 0 ≤ (1 : Int) := (by omega)
                          have q253 : 1 < (l0.length : Int) := of_decide_eq_true (by first | (with_reducible assumption) | assumption)
                          obtain ⟨ad253, e253, hx253_0⟩ := Kd.at_int HR0.out 1 p253 q253
                          obtain rfl : ad247 = ad253 := (by injection e253)
                          (try simp only [show (1 : Int).toNat = 1 from rfl, Nat.reduceMul, Nat.reduceEqDiff, Go.Addr.add, ↓reduceIte] at hx253_0)
                          have qi253 : (1 < l0.length) = True := eq_true (by omega)
                          (try rw [show ((1 : Int)).toNat = 1 from rfl] at hx253_0)
                          replace hx253_0 := (HB.out.cell (World.block_lt_of_cell? w _ hx253_0)).trans hx253_0
                          replace p253 := eq_true p253
                          replace q253 := eq_true q253
                          have p254 : 0 ≤ (2 : Int) := (by omega)
                          have q254 : 2 < (l0.length : Int) := of_decide_eq_true (by first | (with_reducible assumption) | assumption)
                          obtain ⟨ad254, e254, hx254_0⟩ := Kd.at_int HR0.out 2 p254 q254
                          obtain rfl : ad247 = ad254 := (by injection e254)
                          (try simp only [show (2 : Int).toNat = 2 from rfl, Nat.reduceMul, Nat.reduceEqDiff, Go.Addr.add, ↓reduceIte] at hx254_0)
                          have qi254 : (2 < l0.length) = True := eq_true (by omega)
                          (try rw [show ((2 : Int)).toNat = 2 from rfl] at hx254_0)
                          replace hx254_0 := (HB.out.cell (World.block_lt_of_cell? w _ hx254_0)).trans hx254_0
                          replace p254 := eq_true p254
                          replace q254 := eq_true q254
                          go_wp2
                          repeat (go_quiet (fail); try go_wp2)
                          go_meet
                          case rel => exact ⟨_, (true), (by first | rfl | (simp; done) | (simp [*]; done)), H', ⟨by first | omega | exact Nat.le_refl _⟩, ⟨by (with_reducible repeat (first | refine blk_drewN ?_ _ | refine blk_drew ?_ | refine blk_alloc ?_ _)); exact BK246.out⟩, ⟨by repeat (first | (with_reducible first | exact HB.out | apply below_alloc | apply pw_below_drewN | apply below_drew1 | refine below_set ?_ GE246.out) | exact HB.out)⟩⟩
                      · rw [if_neg c16] at H
                        exact absurd H (by simp)
                    · rw [if_neg c15] at H
                      have c15b0 : ((rd l0 1) == 0) = false := beq_eq_false_iff_ne.mpr c15
                      have c15b1 : ((rd l0 1) != 0) = true := bne_iff_ne.mpr c15
                      have H' := Aside0.mk H
                      clear H
                      have p252 : 0 ≤ (0 : Int) := (by omega)
                      have q252 : 0 < (l0.length : Int) := of_decide_eq_true (by first | (with_reducible assumption) | assumption)
                      obtain ⟨ad252, e252, hx252_0⟩ := Kd.at_int HR0.out 0 p252 q252
                      obtain rfl : ad247 = ad252 := (by injection e252)
                      have qi252 : (0 < l0.length) = True := eq_true (by omega)
                      (try rw [show ((0 : Int)).toNat = 0 from rfl] at hx252_0)
                      (try rw [Addr.add_zero'] at hx252_0)
                      replace hx252_0 := (HB.out.cell (World.block_lt_of_cell? w _ hx252_0)).trans hx252_0
                      replace p252 := eq_true p252
                      replace q252 := eq_true q252
                      have p253 : 0 ≤ (1 : Int) := (by omega)
                      have q253 : 1 < (l0.length : Int) := of_decide_eq_true (by first | (with_reducible assumption) | assumption)
                      obtain ⟨ad253, e253, hx253_0⟩ := Kd.at_int HR0.out 1 p253 q253
                      obtain rfl : ad247 = ad253 := (by injection e253)
                      (try simp only [show (1 : Int).toNat = 1 from rfl, Nat.reduceMul, Nat.reduceEqDiff, Go.Addr.add, ↓reduceIte] at hx253_0)
                      have qi253 : (1 < l0.length) = True := eq_true (by omega)
                      (try rw [show ((1 : Int)).toNat = 1 from rfl] at hx253_0)
                      replace hx253_0 := (HB.out.cell (World.block_lt_of_cell? w _ hx253_0)).trans hx253_0
                      replace p253 := eq_true p253
                      replace q253 := eq_true q253
                      go_wp2
                      repeat (go_quiet (fail); try go_wp2)
                      go_meet
                      case rel => exact ⟨_, (true), (by first | rfl | (simp; done) | (simp [*]; done)), H', ⟨by first | omega | exact Nat.le_refl _⟩, ⟨by (with_reducible repeat (first | refine blk_drewN ?_ _ | refine blk_drew ?_ | refine blk_alloc ?_ _)); exact BK246.out⟩, ⟨by repeat (first | (with_reducible first | exact HB.out | apply below_alloc | apply pw_below_drewN | apply below_drew1 | refine below_set ?_ GE246.out) | exact HB.out)⟩⟩
                  · rw [if_neg c14] at H
                    exact absurd H (by simp)
                · rw [if_neg c13] at H
                  have c13b0 : ((rd l0 0) == 0) = false := beq_eq_false_iff_ne.mpr c13
                  have c13b1 : ((rd l0 0) != 0) = true := bne_iff_ne.mpr c13
                  have H' := Aside0.mk H
                  clear H
                  have p252 : 0 ≤ (0 : Int) := (by omega)
                  have q252 : 0 < (l0.length : Int) := of_decide_eq_true (by first | (with_reducible assumption) | assumption)
                  obtain ⟨ad252, e252, hx252_0⟩ := Kd.at_int HR0.out 0 p252 q252
                  obtain rfl : ad247 = ad252 := (by injection e252)
                  have qi252 : (0 < l0.length) = True := eq_true (by omega)
                  (try rw [show ((0 : Int)).toNat = 0 from rfl] at hx252_0)
                  (try rw [Addr.add_zero'] at hx252_0)
                  replace hx252_0 := (HB.out.cell (World.block_lt_of_cell? w _ hx252_0)).trans hx252_0
                  replace p252 := eq_true p252
                  replace q252 := eq_true q252
                  go_wp2
                  repeat (go_quiet (fail); try go_wp2)
                  go_meet
                  case rel => exact ⟨_, (true), (by first | rfl | (simp; done) | (simp [*]; done)), H', ⟨by first | omega | exact Nat.le_refl _⟩, ⟨by (with_reducible repeat (first | refine blk_drewN ?_ _ | refine blk_drew ?_ | refine blk_alloc ?_ _)); exact BK246.out⟩, ⟨by repeat (first | (with_reducible first | exact HB.out | apply below_alloc | apply pw_below_drewN | apply below_drew1 | refine below_set ?_ GE246.out) | exact HB.out)⟩⟩
              · rw [if_neg c12] at H
                exact absurd H (by simp)
            · replace c11 := Bool.eq_false_iff.mpr c11
              subst c11
              have H1 : (pes_Take.j0 k l0 (Go.bits .or .i64 (wrap64 ((wrap64 (rd l0 4)) * 256)) (wrap64 (rd l0 5))) t250 true) = some (r1, r2, r3, r4, r5, r6) := by rw [if_neg (show ¬ (false = true) by decide)] at H; exact H
              clear H
              have H := H1
              clear H1
              have H' := Aside0.mk H
              clear H
              go_wp2
              repeat (go_quiet (fail); try go_wp2)
              go_meet
              case rel => exact ⟨_, (true), (by first | rfl | (simp; done) | (simp [*]; done)), H', ⟨by first | omega | exact Nat.le_refl _⟩, ⟨by (with_reducible repeat (first | refine blk_drewN ?_ _ | refine blk_drew ?_ | refine blk_alloc ?_ _)); exact BK246.out⟩, ⟨by repeat (first | (with_reducible first | exact HB.out | apply below_alloc | apply pw_below_drewN | apply below_drew1 | refine below_set ?_ GE246.out) | exact HB.out)⟩⟩
          case rest =>
            clear HC9
            try clear c1
            try clear c2
            try clear c2b0
            try clear c2b1
            try clear p2
            try clear q2
            try clear hx2
            try clear qi2
            try clear c5
            try clear c5b0
            try clear c5b1
            try clear c6
            try clear c6b0
            try clear c6b1
            try clear p6
            try clear c7
            try clear c7b0
            try clear c7b1
            try clear c11
            try clear c12
            try clear c12b0
            try clear c12b1
            try clear c13
            try clear c13b0
            try clear c13b1
            try clear c14
            try clear c14b0
            try clear c14b1
            try clear c15
            try clear c15b0
            try clear c15b1
            try clear c16
            try clear c16b0
            try clear c16b1
            try clear c17
            try clear c17b0
            try clear c17b1
            try clear c18
            try clear c18b0
            try clear c18b1
            try clear c19
            try clear c19b0
            try clear c20
            try clear c20b0
            try clear c21
            try clear c21b0
            try clear c21b1
            try clear c22
            try clear c22b0
            try clear c22b1
            try clear c23
            try clear c23b0
            try clear c23b1
            try clear c24
            try clear c24b0
            try clear c24b1
            try clear p24
            try clear q24
            try clear hx24
            try clear qi24
            try clear hcz4_0
            try clear hcz4_1
            try clear hcz4_2
            try clear hcz4_3
            try clear hfz4_0
            try clear hfz4_1
            try clear hfz4_2
            try clear hfz4_3
            try clear hx247_0
            try clear hx248_0
            try clear hx249_0
            try clear hx252_0
            try clear hx253_0
            try clear hx254_0
            try clear hx255_0
            try clear hx256_0
            try clear hx257_0
            try clear hx258_0
            try clear p247
            try clear p248
            try clear p249
            try clear p252
            try clear p253
            try clear p254
            try clear p255
            try clear p256
            try clear p257
            try clear p258
            try clear q247
            try clear q248
            try clear q249
            try clear q252
            try clear q253
            try clear q254
            try clear q255
            try clear q256
            try clear q257
            try clear q258
            obtain ⟨kq, x84_8, rfl, HA, HJ8, BK246, HB⟩ := hcut
            cases kq with
            | zero => exact absurd HA.out (by simp [pes_Take.j0])
            | succ kj8 =>
              have H := HA.out
              clear HA
              simp only [pes_Take.j0] at H
              by_cases c25 : x84_8 = true
              · subst c25
                have H1 : (some (0, 0, 0, ([] : List Int), 0, 3)) = some (r1, r2, r3, r4, r5, r6) := by rw [if_pos rfl] at H; exact H
                clear H
                have H := H1
                clear H1
                simp only [Option.some.injEq, Prod.mk.injEq] at H
                obtain ⟨rfl, rfl, rfl, rfl, rfl, rfl⟩ := H
                have hcz26_0 : wc.cell? ⟨gb246, 0, none⟩ = some (.int .i64 0) := (blk_cell BK246.out 0).trans rfl
                have hcz26_1 : wc.cell? ⟨gb246, 1, none⟩ = some (.int .i64 0) := (blk_cell BK246.out 1).trans rfl
                have hcz26_2 : wc.cell? ⟨gb246, 2, none⟩ = some (.int .i64 0) := (blk_cell BK246.out 2).trans rfl
                have hcz26_3 : wc.cell? ⟨gb246, 3, none⟩ = some (.slice none 0 0) := (blk_cell BK246.out 3).trans rfl
                have hfz26_0 := blk_frozen BK246.out 0
                have hfz26_1 := blk_frozen BK246.out 1
                have hfz26_2 := blk_frozen BK246.out 2
                have hfz26_3 := blk_frozen BK246.out 3
                go_wp2
                repeat (go_quiet (fail); try go_wp2)
                refine bodyPost_ret (results_ctt rfl _ _ gb246 30 #[.int .i64 0, .int .i64 0, .int .i64 0, .slice none 0 0] (0, 0) _ rfl (by (with_reducible repeat (first | refine blk_drewN ?_ _ | refine blk_drew ?_ | refine blk_alloc ?_ _)); refine blk_put (cs := #[.int .i64 0, .int .i64 0, .int .i64 0, .slice none 0 0]) ?_ 3 _ rfl; (with_reducible repeat (first | refine blk_drewN ?_ _ | refine blk_drew ?_ | refine blk_alloc ?_ _)); refine blk_put (cs := #[.int .i64 0, .int .i64 0, .int .i64 0, .slice none 0 0]) ?_ 2 _ rfl; (with_reducible repeat (first | refine blk_drewN ?_ _ | refine blk_drew ?_ | refine blk_alloc ?_ _)); refine blk_put (cs := #[.int .i64 0, .int .i64 0, .int .i64 0, .slice none 0 0]) ?_ 1 _ rfl; (with_reducible repeat (first | refine blk_drewN ?_ _ | refine blk_drew ?_ | refine blk_alloc ?_ _)); refine blk_put (cs := #[.int .i64 0, .int .i64 0, .int .i64 0, .slice none 0 0]) ?_ 0 _ rfl; (with_reducible repeat (first | refine blk_drewN ?_ _ | refine blk_drew ?_ | refine blk_alloc ?_ _)); exact BK246.out) Try.underlying30 rfl (by kernel_rfl)) rfl ?_
                exact ⟨_, by first | rfl | (simp [errW_none, errW_some] <;> rfl) | (simp [*, errW_none, errW_some] <;> rfl), by first | exact Kd.R_nil _ _ _ _ _ | exact Kd.N_nil _ _ _ _ _ | exact Kd.V_nil _ _ _ _ _ | exact Kd.Q_nil _ _ _ _ _ | exact Kd.S_nil _ _ _ _ _, by repeat (first | (with_reducible first | exact HB.out | apply below_alloc | apply pw_below_drewN | apply below_drew1 | refine below_set ?_ GE246.out) | exact HB.out)⟩
              · replace c25 := Bool.eq_false_iff.mpr c25
                subst c25
                have H1 : (if (l0.length : Int) < (wrap64 (6 + (Go.bits .or .i64 (wrap64 ((wrap64 (rd l0 4)) * 256)) (wrap64 (rd l0 5))))) then (some (0, 0, 0, ([] : List Int), 0, 4)) else (if 3 < (l0.length : Int) then (if 7 < (l0.length : Int) then (if (rd l0 7) = 128 then (if 9 ≤ (l0.length : Int) then ((pes_unstamp.f (l0.drop 9) 2).bind fun bt263 => (pes_Take.j1 kj8 l0 t250 (wrap64 (6 + (Go.bits .or .i64 (wrap64 ((wrap64 (rd l0 4)) * 256)) (wrap64 (rd l0 5))))) bt263.2 true (wrap64 (rd l0 3)) bt263.1 (-1))) else (none)) else (if (rd l0 7) = 192 then (if 9 ≤ (l0.length : Int) then ((pes_unstamp.f (l0.drop 9) 3).bind fun bt266 => (if 14 ≤ (l0.length : Int) then ((pes_unstamp.f (l0.drop 14) 1).bind fun bt269 => (pes_Take.j1 kj8 l0 t250 (wrap64 (6 + (Go.bits .or .i64 (wrap64 ((wrap64 (rd l0 4)) * 256)) (wrap64 (rd l0 5))))) bt266.2 bt269.2 (wrap64 (rd l0 3)) bt266.1 bt269.1)) else (none))) else (none)) else (pes_Take.j1 kj8 l0 t250 (wrap64 (6 + (Go.bits .or .i64 (wrap64 ((wrap64 (rd l0 4)) * 256)) (wrap64 (rd l0 5))))) true true (wrap64 (rd l0 3)) (-1) (-1)))) else (none)) else (none))) = some (r1, r2, r3, r4, r5, r6) := by rw [if_neg (show ¬ (false = true) by decide)] at H; exact H
                clear H
                have H := H1
                clear H1
                by_cases c27 : (l0.length : Int) < (wrap64 (6 + (Go.bits .or .i64 (wrap64 ((wrap64 (rd l0 4)) * 256)) (wrap64 (rd l0 5)))))
                · rw [if_pos c27] at H
                  have c27b0 : decide ((l0.length : Int) < (wrap64 (6 + (Go.bits .or .i64 (wrap64 ((wrap64 (rd l0 4)) * 256)) (wrap64 (rd l0 5)))))) = true := decide_eq_true c27
                  clear c27
                  simp only [Option.some.injEq, Prod.mk.injEq] at H
                  obtain ⟨rfl, rfl, rfl, rfl, rfl, rfl⟩ := H
                  have hcz28_0 : wc.cell? ⟨gb246, 0, none⟩ = some (.int .i64 0) := (blk_cell BK246.out 0).trans rfl
                  have hcz28_1 : wc.cell? ⟨gb246, 1, none⟩ = some (.int .i64 0) := (blk_cell BK246.out 1).trans rfl
                  have hcz28_2 : wc.cell? ⟨gb246, 2, none⟩ = some (.int .i64 0) := (blk_cell BK246.out 2).trans rfl
                  have hcz28_3 : wc.cell? ⟨gb246, 3, none⟩ = some (.slice none 0 0) := (blk_cell BK246.out 3).trans rfl
                  have hfz28_0 := blk_frozen BK246.out 0
                  have hfz28_1 := blk_frozen BK246.out 1
                  have hfz28_2 := blk_frozen BK246.out 2
                  have hfz28_3 := blk_frozen BK246.out 3
                  go_wp2
                  repeat (go_quiet (fail); try go_wp2)
                  refine bodyPost_ret (results_ctt rfl _ _ gb246 30 #[.int .i64 0, .int .i64 0, .int .i64 0, .slice none 0 0] (0, 0) _ rfl (by (with_reducible repeat (first | refine blk_drewN ?_ _ | refine blk_drew ?_ | refine blk_alloc ?_ _)); refine blk_put (cs := #[.int .i64 0, .int .i64 0, .int .i64 0, .slice none 0 0]) ?_ 3 _ rfl; (with_reducible repeat (first | refine blk_drewN ?_ _ | refine blk_drew ?_ | refine blk_alloc ?_ _)); refine blk_put (cs := #[.int .i64 0, .int .i64 0, .int .i64 0, .slice none 0 0]) ?_ 2 _ rfl; (with_reducible repeat (first | refine blk_drewN ?_ _ | refine blk_drew ?_ | refine blk_alloc ?_ _)); refine blk_put (cs := #[.int .i64 0, .int .i64 0, .int .i64 0, .slice none 0 0]) ?_ 1 _ rfl; (with_reducible repeat (first | refine blk_drewN ?_ _ | refine blk_drew ?_ | refine blk_alloc ?_ _)); refine blk_put (cs := #[.int .i64 0, .int .i64 0, .int .i64 0, .slice none 0 0]) ?_ 0 _ rfl; (with_reducible repeat (first | refine blk_drewN ?_ _ | refine blk_drew ?_ | refine blk_alloc ?_ _)); exact BK246.out) Try.underlying30 rfl (by kernel_rfl)) rfl ?_
                  exact ⟨_, by first | rfl | (simp [errW_none, errW_some] <;> rfl) | (simp [*, errW_none, errW_some] <;> rfl), by first | exact Kd.R_nil _ _ _ _ _ | exact Kd.N_nil _ _ _ _ _ | exact Kd.V_nil _ _ _ _ _ | exact Kd.Q_nil _ _ _ _ _ | exact Kd.S_nil _ _ _ _ _, by repeat (first | (with_reducible first | exact HB.out | apply below_alloc | apply pw_below_drewN | apply below_drew1 | refine below_set ?_ GE246.out) | exact HB.out)⟩
                · rw [if_neg c27] at H
                  have c27b0 : decide ((l0.length : Int) < (wrap64 (6 + (Go.bits .or .i64 (wrap64 ((wrap64 (rd l0 4)) * 256)) (wrap64 (rd l0 5)))))) = false := decide_eq_false c27
                  clear c27
                  by_cases c29 : 3 < (l0.length : Int)
                  · rw [if_pos c29] at H
                    have c29b0 : decide (3 < (l0.length : Int)) = true := decide_eq_true c29
                    have c29b1 : decide (3 < l0.length) = true := decide_eq_true (by omega)
                    clear c29
                    by_cases c30 : 7 < (l0.length : Int)
                    · rw [if_pos c30] at H
                      have c30b0 : decide (7 < (l0.length : Int)) = true := decide_eq_true c30
                      have c30b1 : decide (7 < l0.length) = true := decide_eq_true (by omega)
                      clear c30
                      have HC31 := Aside0.mk H
                      clear H
                      have p259 : 0 ≤ (3 : Int) := (by omega)
                      have q259 : 3 < (l0.length : Int) := of_decide_eq_true (by first | (with_reducible assumption) | assumption)
                      obtain ⟨ad259, e259, hx259_0⟩ := Kd.at_int HR0.out 3 p259 q259
                      obtain rfl : ad247 = ad259 := (by injection e259)
                      (try simp only [show (3 : Int).toNat = 3 from rfl, Nat.reduceMul, Nat.reduceEqDiff, Go.Addr.add, ↓reduceIte] at hx259_0)
                      have qi259 : (3 < l0.length) = True := eq_true (by omega)
                      (try rw [show ((3 : Int)).toNat = 3 from rfl] at hx259_0)
                      replace hx259_0 := (HB.out.cell (World.block_lt_of_cell? w _ hx259_0)).trans hx259_0
                      replace p259 := eq_true p259
                      replace q259 := eq_true q259
                      go_upto_block 0 with (first | ((with_reducible refine gate_dst (N := 9) rfl ?_); refine box_event ?hg (N := 9) ?hd (cs := #[.int .i64 0, .int .i64 0, .int .i64 0, .slice none 0 0]) (t := 30) ?hr ?_; (case hd => rfl); (case hg => rfl); (case hr => first | (go_simp; done) | (go_simp; rfl)); intro gb260 hg w32 hbox hb; have n0_ := Aside0.mk (blk_below (g := gb246) (o := .cells #[.int .i64 0, .int .i64 0, .int .i64 0, .slice none 0 0] 30 (0, 0)) (by (with_reducible repeat (first | refine blk_drewN ?_ _ | refine blk_drew ?_ | refine blk_alloc ?_ _)); exact BK246.out) hb); have n1_ := Aside0.mk (below_step (by repeat (first | (with_reducible first | exact HB.out | apply below_alloc | apply pw_below_drewN | apply below_drew1 | refine below_set ?_ GE246.out) | exact HB.out)) hb); have n2_ := Aside0.mk (hbox); have n3_ := Aside0.mk ((by rw [hg]; exact (below_size (by repeat (first | (with_reducible first | exact HB.out | apply below_alloc | apply pw_below_drewN | apply below_drew1 | refine below_set ?_ GE246.out) | exact HB.out))) : w.heap.size ≤ gb260)); have n4_ := Aside0.mk ((by rw [hg]; exact (below_size (by repeat (first | (with_reducible first | exact HB.out | apply below_alloc | apply pw_below_drewN | apply below_drew1 | refine below_set ?_ GE246.out) | exact HB.out))) : w.heap.size ≤ gb260)); have n5_ := Aside0.mk ((by rw [hg]; exact Nat.ne_of_lt (blk_lt (g := gb246) (o := .cells #[.int .i64 0, .int .i64 0, .int .i64 0, .slice none 0 0] 30 (0, 0)) (by (with_reducible repeat (first | refine blk_drewN ?_ _ | refine blk_drew ?_ | refine blk_alloc ?_ _)); exact BK246.out)) : gb246 ≠ gb260)); have n6_ := Aside0.mk ((by rw [hg]; exact Nat.ne_of_gt (blk_lt (g := gb246) (o := .cells #[.int .i64 0, .int .i64 0, .int .i64 0, .slice none 0 0] 30 (0, 0)) (by (with_reducible repeat (first | refine blk_drewN ?_ _ | refine blk_drew ?_ | refine blk_alloc ?_ _)); exact BK246.out)) : gb260 ≠ gb246)); clear BK246; clear HB; have BK246 := n0_; have HB := n1_; have BK260 := n2_; have GW260 := n3_; have GE260 := n4_; have NB246_260 := n5_; have NB260_246 := n6_; clear n0_ n1_ n2_ n3_ n4_ n5_ n6_; clear hb hbox hg; have hnb33 := NB260_246.out; have hnc33 := NB246_260.out; have hcz34_0 : w32.cell? ⟨gb260, 0, none⟩ = some (.int .i64 0) := (blk_cell BK260.out 0).trans rfl; have hcz34_1 : w32.cell? ⟨gb260, 1, none⟩ = some (.int .i64 0) := (blk_cell BK260.out 1).trans rfl; have hcz34_2 : w32.cell? ⟨gb260, 2, none⟩ = some (.int .i64 0) := (blk_cell BK260.out 2).trans rfl; have hcz34_3 : w32.cell? ⟨gb260, 3, none⟩ = some (.slice none 0 0) := (blk_cell BK260.out 3).trans rfl; have hfz34_0 := blk_frozen BK260.out 0; have hfz34_1 := blk_frozen BK260.out 1; have hfz34_2 := blk_frozen BK260.out 2; have hfz34_3 := blk_frozen BK260.out 3; have p261 : 0 ≤ (7 : Int) := (by omega); have q261 : 7 < (l0.length : Int) := of_decide_eq_true (by first | (with_reducible assumption) | assumption); obtain ⟨ad261, e261, hx261_0⟩ := Kd.at_int HR0.out 7 p261 q261; obtain rfl : ad247 = ad261 := (by injection e261); (try simp only [show (7 : Int).toNat = 7 from rfl, Nat.reduceMul, Nat.reduceEqDiff, Go.Addr.add, ↓reduceIte] at hx261_0); have qi261 : (7 < l0.length) = True := eq_true (by omega); (try rw [show ((7 : Int)).toNat = 7 from rfl] at hx261_0); have hn261_0 : ad247.block ≠ gb260 := Nat.ne_of_lt (Nat.lt_of_lt_of_le (by have := World.block_lt_of_cell? _ _ hx261_0; first | rwa [add_block] at this | exact this) GW260.out); have hn261_1 : ad247.block ≠ gb260 := Nat.ne_of_lt (Nat.lt_of_lt_of_le (by have := World.block_lt_of_cell? _ _ hx261_0; first | rwa [add_block] at this | exact this) GW260.out); have hn261_2 : ad247.block ≠ gb260 := Nat.ne_of_lt (Nat.lt_of_lt_of_le (by have := World.block_lt_of_cell? _ _ hx261_0; first | rwa [add_block] at this | exact this) GW260.out); have hn261_3 : ad247.block ≠ gb260 := Nat.ne_of_lt (Nat.lt_of_lt_of_le (by have := World.block_lt_of_cell? _ _ hx261_0; first | rwa [add_block] at this | exact this) GW260.out); replace hx261_0 := (HB.out.cell (World.block_lt_of_cell? w _ hx261_0)).trans hx261_0; replace hx261_0 := (cell_far (p := ⟨gb260, 0, none⟩) (by first | (rw [add_block]; exact hn261_0) | (show (Addr.add _ _).block ≠ _; rw [add_block]; exact hn261_0) | exact hn261_0) (.int .i64 (wrap64 (rd l0 3)))).trans hx261_0; replace hx261_0 := (cell_far (p := ⟨gb260, 1, none⟩) (by first | (rw [add_block]; exact hn261_1) | (show (Addr.add _ _).block ≠ _; rw [add_block]; exact hn261_1) | exact hn261_1) (.int .i64 (-1))).trans hx261_0; replace hx261_0 := (cell_far (p := ⟨gb260, 2, none⟩) (by first | (rw [add_block]; exact hn261_2) | (show (Addr.add _ _).block ≠ _; rw [add_block]; exact hn261_2) | exact hn261_2) (.int .i64 (-1))).trans hx261_0; replace hx261_0 := (cell_far (p := ⟨gb260, 3, none⟩) (by first | (rw [add_block]; exact hn261_3) | (show (Addr.add _ _).block ≠ _; rw [add_block]; exact hn261_3) | exact hn261_3) (.slice none 0 0)).trans hx261_0; (try have hy261_0 := fun (n_ : Nat) => (show ((((((w32.drewN n_).setCell ⟨gb260, 0, none⟩ (.int .i64 (wrap64 (rd l0 3)))).setCell ⟨gb260, 1, none⟩ (.int .i64 (-1))).setCell ⟨gb260, 2, none⟩ (.int .i64 (-1))).setCell ⟨gb260, 3, none⟩ (.slice none 0 0))).cell? _ = some _ from hx261_0)); clear hn261_0; clear hn261_1; clear hn261_2; clear hn261_3; replace p261 := eq_true p261; replace q261 := eq_true q261))
                      repeat (go_quiet (first | ((with_reducible refine gate_dst (N := 9) rfl ?_); refine box_event ?hg (N := 9) ?hd (cs := #[.int .i64 0, .int .i64 0, .int .i64 0, .slice none 0 0]) (t := 30) ?hr ?_; (case hd => rfl); (case hg => rfl); (case hr => first | (go_simp; done) | (go_simp; rfl)); intro gb260 hg w32 hbox hb; have n0_ := Aside0.mk (blk_below (g := gb246) (o := .cells #[.int .i64 0, .int .i64 0, .int .i64 0, .slice none 0 0] 30 (0, 0)) (by (with_reducible repeat (first | refine blk_drewN ?_ _ | refine blk_drew ?_ | refine blk_alloc ?_ _)); exact BK246.out) hb); have n1_ := Aside0.mk (below_step (by repeat (first | (with_reducible first | exact HB.out | apply below_alloc | apply pw_below_drewN | apply below_drew1 | refine below_set ?_ GE246.out) | exact HB.out)) hb); have n2_ := Aside0.mk (hbox); have n3_ := Aside0.mk ((by rw [hg]; exact (below_size (by repeat (first | (with_reducible first | exact HB.out | apply below_alloc | apply pw_below_drewN | apply below_drew1 | refine below_set ?_ GE246.out) | exact HB.out))) : w.heap.size ≤ gb260)); have n4_ := Aside0.mk ((by rw [hg]; exact (below_size (by repeat (first | (with_reducible first | exact HB.out | apply below_alloc | apply pw_below_drewN | apply below_drew1 | refine below_set ?_ GE246.out) | exact HB.out))) : w.heap.size ≤ gb260)); have n5_ := Aside0.mk ((by rw [hg]; exact Nat.ne_of_lt (blk_lt (g := gb246) (o := .cells #[.int .i64 0, .int .i64 0, .int .i64 0, .slice none 0 0] 30 (0, 0)) (by (with_reducible repeat (first | refine blk_drewN ?_ _ | refine blk_drew ?_ | refine blk_alloc ?_ _)); exact BK246.out)) : gb246 ≠ gb260)); have n6_ := Aside0.mk ((by rw [hg]; exact Nat.ne_of_gt (blk_lt (g := gb246) (o := .cells #[.int .i64 0, .int .i64 0, .int .i64 0, .slice none 0 0] 30 (0, 0)) (by (with_reducible repeat (first | refine blk_drewN ?_ _ | refine blk_drew ?_ | refine blk_alloc ?_ _)); exact BK246.out)) : gb260 ≠ gb246)); clear BK246; clear HB; have BK246 := n0_; have HB := n1_; have BK260 := n2_; have GW260 := n3_; have GE260 := n4_; have NB246_260 := n5_; have NB260_246 := n6_; clear n0_ n1_ n2_ n3_ n4_ n5_ n6_; clear hb hbox hg; have hnb33 := NB260_246.out; have hnc33 := NB246_260.out; have hcz34_0 : w32.cell? ⟨gb260, 0, none⟩ = some (.int .i64 0) := (blk_cell BK260.out 0).trans rfl; have hcz34_1 : w32.cell? ⟨gb260, 1, none⟩ = some (.int .i64 0) := (blk_cell BK260.out 1).trans rfl; have hcz34_2 : w32.cell? ⟨gb260, 2, none⟩ = some (.int .i64 0) := (blk_cell BK260.out 2).trans rfl; have hcz34_3 : w32.cell? ⟨gb260, 3, none⟩ = some (.slice none 0 0) := (blk_cell BK260.out 3).trans rfl; have hfz34_0 := blk_frozen BK260.out 0; have hfz34_1 := blk_frozen BK260.out 1; have hfz34_2 := blk_frozen BK260.out 2; have hfz34_3 := blk_frozen BK260.out 3; have p261 : 0 ≤ (7 : Int) := (by omega); have q261 : 7 < (l0.length : Int) := of_decide_eq_true (by first | (with_reducible assumption) | assumption); obtain ⟨ad261, e261, hx261_0⟩ := Kd.at_int HR0.out 7 p261 q261; obtain rfl : ad247 = ad261 := (by injection e261); (try simp only [show (7 : Int).toNat = 7 from rfl, Nat.reduceMul, Nat.reduceEqDiff, Go.Addr.add, ↓reduceIte] at hx261_0); have qi261 : (7 < l0.length) = True := eq_true (by omega); (try rw [show ((7 : Int)).toNat = 7 from rfl] at hx261_0); have hn261_0 : ad247.block ≠ gb260 := Nat.ne_of_lt (Nat.lt_of_lt_of_le (by have := World.block_lt_of_cell? _ _ hx261_0; first | rwa [add_block] at this | exact this) GW260.out); have hn261_1 : ad247.block ≠ gb260 := Nat.ne_of_lt (Nat.lt_of_lt_of_le (by have := World.block_lt_of_cell? _ _ hx261_0; first | rwa [add_block] at this | exact this) GW260.out); have hn261_2 : ad247.block ≠ gb260 := Nat.ne_of_lt (Nat.lt_of_lt_of_le (by have := World.block_lt_of_cell? _ _ hx261_0; first | rwa [add_block] at this | exact this) GW260.out); have hn261_3 : ad247.block ≠ gb260 := Nat.ne_of_lt (Nat.lt_of_lt_of_le (by have := World.block_lt_of_cell? _ _ hx261_0; first | rwa [add_block] at this | exact this) GW260.out); replace hx261_0 := (HB.out.cell (World.block_lt_of_cell? w _ hx261_0)).trans hx261_0; replace hx261_0 := (cell_far (p := ⟨gb260, 0, none⟩) (by first | (rw [add_block]; exact hn261_0) | (show (Addr.add _ _).block ≠ _; rw [add_block]; exact hn261_0) | exact hn261_0) (.int .i64 (wrap64 (rd l0 3)))).trans hx261_0; replace hx261_0 := (cell_far (p := ⟨gb260, 1, none⟩) (by first | (rw [add_block]; exact hn261_1) | (show (Addr.add _ _).block ≠ _; rw [add_block]; exact hn261_1) | exact hn261_1) (.int .i64 (-1))).trans hx261_0; replace hx261_0 := (cell_far (p := ⟨gb260, 2, none⟩) (by first | (rw [add_block]; exact hn261_2) | (show (Addr.add _ _).block ≠ _; rw [add_block]; exact hn261_2) | exact hn261_2) (.int .i64 (-1))).trans hx261_0; replace hx261_0 := (cell_far (p := ⟨gb260, 3, none⟩) (by first | (rw [add_block]; exact hn261_3) | (show (Addr.add _ _).block ≠ _; rw [add_block]; exact hn261_3) | exact hn261_3) (.slice none 0 0)).trans hx261_0; (try have hy261_0 := fun (n_ : Nat) => (show ((((((w32.drewN n_).setCell ⟨gb260, 0, none⟩ (.int .i64 (wrap64 (rd l0 3)))).setCell ⟨gb260, 1, none⟩ (.int .i64 (-1))).setCell ⟨gb260, 2, none⟩ (.int .i64 (-1))).setCell ⟨gb260, 3, none⟩ (.slice none 0 0))).cell? _ = some _ from hx261_0)); clear hn261_0; clear hn261_1; clear hn261_2; clear hn261_3; replace p261 := eq_true p261; replace q261 := eq_true q261)); go_upto_block 0 with (first | ((with_reducible refine gate_dst (N := 9) rfl ?_); refine box_event ?hg (N := 9) ?hd (cs := #[.int .i64 0, .int .i64 0, .int .i64 0, .slice none 0 0]) (t := 30) ?hr ?_; (case hd => rfl); (case hg => rfl); (case hr => first | (go_simp; done) | (go_simp; rfl)); intro gb260 hg w32 hbox hb; have n0_ := Aside0.mk (blk_below (g := gb246) (o := .cells #[.int .i64 0, .int .i64 0, .int .i64 0, .slice none 0 0] 30 (0, 0)) (by (with_reducible repeat (first | refine blk_drewN ?_ _ | refine blk_drew ?_ | refine blk_alloc ?_ _)); exact BK246.out) hb); have n1_ := Aside0.mk (below_step (by repeat (first | (with_reducible first | exact HB.out | apply below_alloc | apply pw_below_drewN | apply below_drew1 | refine below_set ?_ GE246.out) | exact HB.out)) hb); have n2_ := Aside0.mk (hbox); have n3_ := Aside0.mk ((by rw [hg]; exact (below_size (by repeat (first | (with_reducible first | exact HB.out | apply below_alloc | apply pw_below_drewN | apply below_drew1 | refine below_set ?_ GE246.out) | exact HB.out))) : w.heap.size ≤ gb260)); have n4_ := Aside0.mk ((by rw [hg]; exact (below_size (by repeat (first | (with_reducible first | exact HB.out | apply below_alloc | apply pw_below_drewN | apply below_drew1 | refine below_set ?_ GE246.out) | exact HB.out))) : w.heap.size ≤ gb260)); have n5_ := Aside0.mk ((by rw [hg]; exact Nat.ne_of_lt (blk_lt (g := gb246) (o := .cells #[.int .i64 0, .int .i64 0, .int .i64 0, .slice none 0 0] 30 (0, 0)) (by (with_reducible repeat (first | refine blk_drewN ?_ _ | refine blk_drew ?_ | refine blk_alloc ?_ _)); exact BK246.out)) : gb246 ≠ gb260)); have n6_ := Aside0.mk ((by rw [hg]; exact Nat.ne_of_gt (blk_lt (g := gb246) (o := .cells #[.int .i64 0, .int .i64 0, .int .i64 0, .slice none 0 0] 30 (0, 0)) (by (with_reducible repeat (first | refine blk_drewN ?_ _ | refine blk_drew ?_ | refine blk_alloc ?_ _)); exact BK246.out)) : gb260 ≠ gb246)); clear BK246; clear HB; have BK246 := n0_; have HB := n1_; have BK260 := n2_; have GW260 := n3_; have GE260 := n4_; have NB246_260 := n5_; have NB260_246 := n6_; clear n0_ n1_ n2_ n3_ n4_ n5_ n6_; clear hb hbox hg; have hnb33 := NB260_246.out; have hnc33 := NB246_260.out; have hcz34_0 : w32.cell? ⟨gb260, 0, none⟩ = some (.int .i64 0) := (blk_cell BK260.out 0).trans rfl; have hcz34_1 : w32.cell? ⟨gb260, 1, none⟩ = some (.int .i64 0) := (blk_cell BK260.out 1).trans rfl; have hcz34_2 : w32.cell? ⟨gb260, 2, none⟩ = some (.int .i64 0) := (blk_cell BK260.out 2).trans rfl; have hcz34_3 : w32.cell? ⟨gb260, 3, none⟩ = some (.slice none 0 0) := (blk_cell BK260.out 3).trans rfl; have hfz34_0 := blk_frozen BK260.out 0; have hfz34_1 := blk_frozen BK260.out 1; have hfz34_2 := blk_frozen BK260.out 2; have hfz34_3 := blk_frozen BK260.out 3; have p261 : 0 ≤ (7 : Int) := (by omega); have q261 : 7 < (l0.length : Int) := of_decide_eq_true (by first | (with_reducible assumption) | assumption); obtain ⟨ad261, e261, hx261_0⟩ := Kd.at_int HR0.out 7 p261 q261; obtain rfl : ad247 = ad261 := (by injection e261); (try simp only [show (7 : Int).toNat = 7 from rfl, Nat.reduceMul, Nat.reduceEqDiff, Go.Addr.add, ↓reduceIte] at hx261_0); have qi261 : (7 < l0.length) = True := eq_true (by omega); (try rw [show ((7 : Int)).toNat = 7 from rfl] at hx261_0); have hn261_0 : ad247.block ≠ gb260 := Nat.ne_of_lt (Nat.lt_of_lt_of_le (by have := World.block_lt_of_cell? _ _ hx261_0; first | rwa [add_block] at this | exact this) GW260.out); have hn261_1 : ad247.block ≠ gb260 := Nat.ne_of_lt (Nat.lt_of_lt_of_le (by have := World.block_lt_of_cell? _ _ hx261_0; first | rwa [add_block] at this | exact this) GW260.out); have hn261_2 : ad247.block ≠ gb260 := Nat.ne_of_lt (Nat.lt_of_lt_of_le (by have := World.block_lt_of_cell? _ _ hx261_0; first | rwa [add_block] at this | exact this) GW260.out); have hn261_3 : ad247.block ≠ gb260 := Nat.ne_of_lt (Nat.lt_of_lt_of_le (by have := World.block_lt_of_cell? _ _ hx261_0; first | rwa [add_block] at this | exact this) GW260.out); replace hx261_0 := (HB.out.cell (World.block_lt_of_cell? w _ hx261_0)).trans hx261_0; replace hx261_0 := (cell_far (p := ⟨gb260, 0, none⟩) (by first | (rw [add_block]; exact hn261_0) | (show (Addr.add _ _).block ≠ _; rw [add_block]; exact hn261_0) | exact hn261_0) (.int .i64 (wrap64 (rd l0 3)))).trans hx261_0; replace hx261_0 := (cell_far (p := ⟨gb260, 1, none⟩) (by first | (rw [add_block]; exact hn261_1) | (show (Addr.add _ _).block ≠ _; rw [add_block]; exact hn261_1) | exact hn261_1) (.int .i64 (-1))).trans hx261_0; replace hx261_0 := (cell_far (p := ⟨gb260, 2, none⟩) (by first | (rw [add_block]; exact hn261_2) | (show (Addr.add _ _).block ≠ _; rw [add_block]; exact hn261_2) | exact hn261_2) (.int .i64 (-1))).trans hx261_0; replace hx261_0 := (cell_far (p := ⟨gb260, 3, none⟩) (by first | (rw [add_block]; exact hn261_3) | (show (Addr.add _ _).block ≠ _; rw [add_block]; exact hn261_3) | exact hn261_3) (.slice none 0 0)).trans hx261_0; (try have hy261_0 := fun (n_ : Nat) => (show ((((((w32.drewN n_).setCell ⟨gb260, 0, none⟩ (.int .i64 (wrap64 (rd l0 3)))).setCell ⟨gb260, 1, none⟩ (.int .i64 (-1))).setCell ⟨gb260, 2, none⟩ (.int .i64 (-1))).setCell ⟨gb260, 3, none⟩ (.slice none 0 0))).cell? _ = some _ from hx261_0)); clear hn261_0; clear hn261_1; clear hn261_2; clear hn261_3; replace p261 := eq_true p261; replace q261 := eq_true q261)))
                      (try simp only [Act.put, List.setIfInBounds_toArray, List.set_cons_zero, List.set_cons_succ])
                      go_cut [10, 11] (fun v10 v11 wc => ∃ (kq : Nat) (x10_30 : Bool) (x11_30 : Bool) (x261001_30 : Int) (x261002_30 : Int), v10 = .bool x10_30 ∧ v11 = .bool x11_30 ∧ Aside0 (pes_Take.j1 kq l0 t250 (wrap64 (6 + (Go.bits .or .i64 (wrap64 ((wrap64 (rd l0 4)) * 256)) (wrap64 (rd l0 5))))) x10_30 x11_30 (wrap64 (rd l0 3)) x261001_30 x261002_30 = some (r1, r2, r3, r4, r5, r6)) ∧ Aside0 (kq ≤ kj8) ∧ Aside0 (wc.heap[gb246]? = some (.cells #[.int .i64 0, .int .i64 0, .int .i64 0, (.slice none 0 0)] 30 (0, 0))) ∧ Aside0 (wc.heap[gb260]? = some (.cells #[.int .i64 (wrap64 (rd l0 3)), .int .i64 x261001_30, .int .i64 x261002_30, (.slice none 0 0)] 30 (0, 0))) ∧ Aside0 (Below w.heap.size w wc))
                      case first =>
                        have H := HC31.out
                        clear HC31
                        by_cases c35 : (rd l0 7) = 128
                        · rw [if_pos c35] at H
                          have c35b0 : ((rd l0 7) == 128) = true := beq_iff_eq.mpr c35
                          have c35b1 : ((rd l0 7) != 128) = false := bne_eq_false_iff_eq.mpr c35
                          clear c35
                          (first | rw [c35b0] | (simp only [i64_w, i32_w]; rw [c35b0]) | skip)
                          by_cases c36 : 9 ≤ (l0.length : Int)
                          · rw [if_pos c36] at H
                            have c36b0 := eq_true c36
                            have c36b1 : decide (9 ≤ (l0.length : Int)) = true := decide_eq_true c36
                            clear c36
                            replace H := Option.bind_eq_some_iff.mp H
                            obtain ⟨⟨t263, t264⟩, A370, H⟩ := H
                            replace H : (pes_Take.j1 kj8 l0 t250 (wrap64 (6 + (Go.bits .or .i64 (wrap64 ((wrap64 (rd l0 4)) * 256)) (wrap64 (rd l0 5))))) t264 true (wrap64 (rd l0 3)) t263 (-1)) = some (r1, r2, r3, r4, r5, r6) := H
                            have A37 := Aside0.mk A370
                            clear A370
                            have H' := Aside0.mk H
                            clear H
                            obtain ⟨i038, hi038, _, hsz38, _⟩ := info_parts info5
                            obtain ⟨A38, hcut38, hA38, hC38⟩ := print_drop_of (P := Try.prog) (Value.int .u8) 0 27 5 .i64 Try.underlying27 hi038 hsz38 (some ad247) c0 l0 9 (by omega) (of_decide_eq_true (by first | (with_reducible assumption) | assumption)) HC0.out
                            have HR262 := Aside0.mk (Kd.C_of_reads (h1 := fun _ => rfl) (hA38 _ (Kd.reads_of_C HR0.out)))
                            have HC262 := Aside0.mk hC38
                            clear hA38 hC38 hi038 hsz38
                            go_wp2_with (first | (go_at_call 37; refine calls_of_args (args' := #[.slice A38 (l0.drop 9).length (c0 - 9), .int .i64 2]) (by first | rfl | (rw [show (l0.drop 9).length = (l0.length - 9) from List.length_drop]; done) | (simp only [List.length_drop, List.length_take]; done) | (simp only [List.length_drop, List.length_take]; rfl)) ?_; (with_reducible refine (pes_unstamp.calls _ _ (l0.drop 9) 2 t263 t264 _ ?side1 ?side2 A37.out).mono ?_); (case side1 => exact Kd.C_below HR262.out (by repeat (first | (with_reducible first | exact HB.out | apply below_alloc | apply pw_below_drewN | apply below_drew1 | refine below_set ?_ GE246.out | refine below_set ?_ GE260.out) | exact HB.out))); (case side2 => exact HC262.out); rintro e w' ⟨rfl, ⟨nd, rfl⟩⟩; (try first | exact ⟨rfl, _, World.drewN_drewN _ _ _⟩ | exact ⟨rfl, _, Eq.trans (World.drewN_drewN _ _ _) (congrArg (World.drewN _) (Nat.add_assoc _ _ _))⟩); (try (have hnb39 := NB260_246.out)); (try (have hnc39 := NB246_260.out)); (try (have hcz40_0 : w32.cell? ⟨gb260, 0, none⟩ = some (.int .i64 0) := (blk_cell BK260.out 0).trans rfl)); (try (have hcz40_1 : w32.cell? ⟨gb260, 1, none⟩ = some (.int .i64 0) := (blk_cell BK260.out 1).trans rfl)); (try (have hcz40_2 : w32.cell? ⟨gb260, 2, none⟩ = some (.int .i64 0) := (blk_cell BK260.out 2).trans rfl)); (try (have hcz40_3 : w32.cell? ⟨gb260, 3, none⟩ = some (.slice none 0 0) := (blk_cell BK260.out 3).trans rfl)); (try (have hfz40_0 := blk_frozen BK260.out 0)); (try (have hfz40_1 := blk_frozen BK260.out 1)); (try (have hfz40_2 := blk_frozen BK260.out 2)); (try (have hfz40_3 := blk_frozen BK260.out 3))))
                            repeat (go_quiet (first | (go_at_call 37; refine calls_of_args (args' := #[.slice A38 (l0.drop 9).length (c0 - 9), .int .i64 2]) (by first | rfl | (rw [show (l0.drop 9).length = (l0.length - 9) from List.length_drop]; done) | (simp only [List.length_drop, List.length_take]; done) | (simp only [List.length_drop, List.length_take]; rfl)) ?_; (with_reducible refine (pes_unstamp.calls _ _ (l0.drop 9) 2 t263 t264 _ ?side1 ?side2 A37.out).mono ?_); (case side1 => exact Kd.C_below HR262.out (by repeat (first | (with_reducible first | exact HB.out | apply below_alloc | apply pw_below_drewN | apply below_drew1 | refine below_set ?_ GE246.out | refine below_set ?_ GE260.out) | exact HB.out))); (case side2 => exact HC262.out); rintro e w' ⟨rfl, ⟨nd, rfl⟩⟩; (try first | exact ⟨rfl, _, World.drewN_drewN _ _ _⟩ | exact ⟨rfl, _, Eq.trans (World.drewN_drewN _ _ _) (congrArg (World.drewN _) (Nat.add_assoc _ _ _))⟩); (try (have hnb39 := NB260_246.out)); (try (have hnc39 := NB246_260.out)); (try (have hcz40_0 : w32.cell? ⟨gb260, 0, none⟩ = some (.int .i64 0) := (blk_cell BK260.out 0).trans rfl)); (try (have hcz40_1 : w32.cell? ⟨gb260, 1, none⟩ = some (.int .i64 0) := (blk_cell BK260.out 1).trans rfl)); (try (have hcz40_2 : w32.cell? ⟨gb260, 2, none⟩ = some (.int .i64 0) := (blk_cell BK260.out 2).trans rfl)); (try (have hcz40_3 : w32.cell? ⟨gb260, 3, none⟩ = some (.slice none 0 0) := (blk_cell BK260.out 3).trans rfl)); (try (have hfz40_0 := blk_frozen BK260.out 0)); (try (have hfz40_1 := blk_frozen BK260.out 1)); (try (have hfz40_2 := blk_frozen BK260.out 2)); (try (have hfz40_3 := blk_frozen BK260.out 3)))); try go_wp2_with (first | (go_at_call 37; refine calls_of_args (args' := #[.slice A38 (l0.drop 9).length (c0 - 9), .int .i64 2]) (by first | rfl | (rw [show (l0.drop 9).length = (l0.length - 9) from List.length_drop]; done) | (simp only [List.length_drop, List.length_take]; done) | (simp only [List.length_drop, List.length_take]; rfl)) ?_; (with_reducible refine (pes_unstamp.calls _ _ (l0.drop 9) 2 t263 t264 _ ?side1 ?side2 A37.out).mono ?_); (case side1 => exact Kd.C_below HR262.out (by repeat (first | (with_reducible first | exact HB.out | apply below_alloc | apply pw_below_drewN | apply below_drew1 | refine below_set ?_ GE246.out | refine below_set ?_ GE260.out) | exact HB.out))); (case side2 => exact HC262.out); rintro e w' ⟨rfl, ⟨nd, rfl⟩⟩; (try first | exact ⟨rfl, _, World.drewN_drewN _ _ _⟩ | exact ⟨rfl, _, Eq.trans (World.drewN_drewN _ _ _) (congrArg (World.drewN _) (Nat.add_assoc _ _ _))⟩); (try (have hnb39 := NB260_246.out)); (try (have hnc39 := NB246_260.out)); (try (have hcz40_0 : w32.cell? ⟨gb260, 0, none⟩ = some (.int .i64 0) := (blk_cell BK260.out 0).trans rfl)); (try (have hcz40_1 : w32.cell? ⟨gb260, 1, none⟩ = some (.int .i64 0) := (blk_cell BK260.out 1).trans rfl)); (try (have hcz40_2 : w32.cell? ⟨gb260, 2, none⟩ = some (.int .i64 0) := (blk_cell BK260.out 2).trans rfl)); (try (have hcz40_3 : w32.cell? ⟨gb260, 3, none⟩ = some (.slice none 0 0) := (blk_cell BK260.out 3).trans rfl)); (try (have hfz40_0 := blk_frozen BK260.out 0)); (try (have hfz40_1 := blk_frozen BK260.out 1)); (try (have hfz40_2 := blk_frozen BK260.out 2)); (try (have hfz40_3 := blk_frozen BK260.out 3)))))
                            go_meet
                            case rel => exact ⟨_, (t264), (true), (t263), ((-1)), (by first | rfl | (simp; done) | (simp [*]; done)), (by first | rfl | (simp; done) | (simp [*]; done)), H', ⟨by have := HJ8.out; first | omega | exact Nat.le_refl _⟩, ⟨by (with_reducible repeat (first | refine blk_drewN ?_ _ | refine blk_drew ?_ | refine blk_alloc ?_ _)); refine blk_far ?_ NB246_260.out _; (with_reducible repeat (first | refine blk_drewN ?_ _ | refine blk_drew ?_ | refine blk_alloc ?_ _)); refine blk_far ?_ NB246_260.out _; (with_reducible repeat (first | refine blk_drewN ?_ _ | refine blk_drew ?_ | refine blk_alloc ?_ _)); refine blk_far ?_ NB246_260.out _; (with_reducible repeat (first | refine blk_drewN ?_ _ | refine blk_drew ?_ | refine blk_alloc ?_ _)); refine blk_far ?_ NB246_260.out _; (with_reducible repeat (first | refine blk_drewN ?_ _ | refine blk_drew ?_ | refine blk_alloc ?_ _)); refine blk_far ?_ NB246_260.out _; (with_reducible repeat (first | refine blk_drewN ?_ _ | refine blk_drew ?_ | refine blk_alloc ?_ _)); exact BK246.out⟩, ⟨by (with_reducible repeat (first | refine blk_drewN ?_ _ | refine blk_drew ?_ | refine blk_alloc ?_ _)); refine blk_put (cs := #[.int .i64 (wrap64 (rd l0 3)), .int .i64 (-1), .int .i64 (-1), .slice none 0 0]) ?_ 1 _ rfl; (with_reducible repeat (first | refine blk_drewN ?_ _ | refine blk_drew ?_ | refine blk_alloc ?_ _)); refine blk_put (cs := #[.int .i64 (wrap64 (rd l0 3)), .int .i64 (-1), .int .i64 (-1), .slice none 0 0]) ?_ 3 _ rfl; (with_reducible repeat (first | refine blk_drewN ?_ _ | refine blk_drew ?_ | refine blk_alloc ?_ _)); refine blk_put (cs := #[.int .i64 (wrap64 (rd l0 3)), .int .i64 (-1), .int .i64 0, .slice none 0 0]) ?_ 2 _ rfl; (with_reducible repeat (first | refine blk_drewN ?_ _ | refine blk_drew ?_ | refine blk_alloc ?_ _)); refine blk_put (cs := #[.int .i64 (wrap64 (rd l0 3)), .int .i64 0, .int .i64 0, .slice none 0 0]) ?_ 1 _ rfl; (with_reducible repeat (first | refine blk_drewN ?_ _ | refine blk_drew ?_ | refine blk_alloc ?_ _)); refine blk_put (cs := #[.int .i64 0, .int .i64 0, .int .i64 0, .slice none 0 0]) ?_ 0 _ rfl; (with_reducible repeat (first | refine blk_drewN ?_ _ | refine blk_drew ?_ | refine blk_alloc ?_ _)); exact BK260.out⟩, ⟨by repeat (first | (with_reducible first | exact HB.out | apply below_alloc | apply pw_below_drewN | apply below_drew1 | refine below_set ?_ GE246.out | refine below_set ?_ GE260.out) | exact HB.out)⟩⟩
                          · rw [if_neg c36] at H
                            exact absurd H (by simp)
                        · rw [if_neg c35] at H
                          have c35b0 : ((rd l0 7) == 128) = false := beq_eq_false_iff_ne.mpr c35
                          have c35b1 : ((rd l0 7) != 128) = true := bne_iff_ne.mpr c35
                          (first | rw [c35b0] | (simp only [i64_w, i32_w]; rw [c35b0]) | skip)
                          by_cases c41 : (rd l0 7) = 192
                          · rw [if_pos c41] at H
                            have c41b0 : ((rd l0 7) == 192) = true := beq_iff_eq.mpr c41
                            have c41b1 : ((rd l0 7) != 192) = false := bne_eq_false_iff_eq.mpr c41
                            clear c41
                            by_cases c42 : 9 ≤ (l0.length : Int)
                            · rw [if_pos c42] at H
                              have c42b0 := eq_true c42
                              have c42b1 : decide (9 ≤ (l0.length : Int)) = true := decide_eq_true c42
                              clear c42
                              replace H := Option.bind_eq_some_iff.mp H
                              obtain ⟨⟨t266, t267⟩, A430, H⟩ := H
                              replace H : (if 14 ≤ (l0.length : Int) then ((pes_unstamp.f (l0.drop 14) 1).bind fun bt269 => (pes_Take.j1 kj8 l0 t250 (wrap64 (6 + (Go.bits .or .i64 (wrap64 ((wrap64 (rd l0 4)) * 256)) (wrap64 (rd l0 5))))) t267 bt269.2 (wrap64 (rd l0 3)) t266 bt269.1)) else (none)) = some (r1, r2, r3, r4, r5, r6) := H
                              have A43 := Aside0.mk A430
                              clear A430
                              by_cases c44 : 14 ≤ (l0.length : Int)
                              · rw [if_pos c44] at H
                                have c44b0 := eq_true c44
                                have c44b1 : decide (14 ≤ (l0.length : Int)) = true := decide_eq_true c44
                                clear c44
                                replace H := Option.bind_eq_some_iff.mp H
                                obtain ⟨⟨t269, t270⟩, A450, H⟩ := H
                                replace H : (pes_Take.j1 kj8 l0 t250 (wrap64 (6 + (Go.bits .or .i64 (wrap64 ((wrap64 (rd l0 4)) * 256)) (wrap64 (rd l0 5))))) t267 t270 (wrap64 (rd l0 3)) t266 t269) = some (r1, r2, r3, r4, r5, r6) := H
                                have A45 := Aside0.mk A450
                                clear A450
                                have H' := Aside0.mk H
                                clear H
                                obtain ⟨i046, hi046, _, hsz46, _⟩ := info_parts info5
                                obtain ⟨A46, hcut46, hA46, hC46⟩ := print_drop_of (P := Try.prog) (Value.int .u8) 0 27 5 .i64 Try.underlying27 hi046 hsz46 (some ad247) c0 l0 9 (by omega) (of_decide_eq_true (by first | (with_reducible assumption) | assumption)) HC0.out
                                have HR265 := Aside0.mk (Kd.C_of_reads (h1 := fun _ => rfl) (hA46 _ (Kd.reads_of_C HR0.out)))
                                have HC265 := Aside0.mk hC46
                                clear hA46 hC46 hi046 hsz46
                                go_wp2_with (first | (go_at_call 37; refine calls_of_args (args' := #[.slice A46 (l0.drop 9).length (c0 - 9), .int .i64 3]) (by first | rfl | (rw [show (l0.drop 9).length = (l0.length - 9) from List.length_drop]; done) | (simp only [List.length_drop, List.length_take]; done) | (simp only [List.length_drop, List.length_take]; rfl)) ?_; (with_reducible refine (pes_unstamp.calls _ _ (l0.drop 9) 3 t266 t267 _ ?side1 ?side2 A43.out).mono ?_); (case side1 => exact Kd.C_below HR265.out (by repeat (first | (with_reducible first | exact HB.out | apply below_alloc | apply pw_below_drewN | apply below_drew1 | refine below_set ?_ GE246.out | refine below_set ?_ GE260.out) | exact HB.out))); (case side2 => exact HC265.out); rintro e w' ⟨rfl, ⟨nd, rfl⟩⟩; (try first | exact ⟨rfl, _, World.drewN_drewN _ _ _⟩ | exact ⟨rfl, _, Eq.trans (World.drewN_drewN _ _ _) (congrArg (World.drewN _) (Nat.add_assoc _ _ _))⟩); (try (have hnb47 := NB260_246.out)); (try (have hnc47 := NB246_260.out)); (try (have hcz48_0 : w32.cell? ⟨gb260, 0, none⟩ = some (.int .i64 0) := (blk_cell BK260.out 0).trans rfl)); (try (have hcz48_1 : w32.cell? ⟨gb260, 1, none⟩ = some (.int .i64 0) := (blk_cell BK260.out 1).trans rfl)); (try (have hcz48_2 : w32.cell? ⟨gb260, 2, none⟩ = some (.int .i64 0) := (blk_cell BK260.out 2).trans rfl)); (try (have hcz48_3 : w32.cell? ⟨gb260, 3, none⟩ = some (.slice none 0 0) := (blk_cell BK260.out 3).trans rfl)); (try (have hfz48_0 := blk_frozen BK260.out 0)); (try (have hfz48_1 := blk_frozen BK260.out 1)); (try (have hfz48_2 := blk_frozen BK260.out 2)); (try (have hfz48_3 := blk_frozen BK260.out 3)); (try (obtain ⟨i049, hi049, _, hsz49, _⟩ := info_parts info5)); (try (obtain ⟨A49, hcut49, hA49, hC49⟩ := print_drop_of (P := Try.prog) (Value.int .u8) 0 27 5 .i64 Try.underlying27 hi049 hsz49 (some ad247) c0 l0 14 (by omega) (of_decide_eq_true (by first | (with_reducible assumption) | assumption)) HC0.out)); (try (have HR268 := Aside0.mk (Kd.C_of_reads (h1 := fun _ => rfl) (hA49 _ (Kd.reads_of_C HR0.out))))); (try (have HC268 := Aside0.mk hC49)); (try (clear hA49 hC49 hi049 hsz49))) | (go_at_call 37; refine calls_of_args (args' := #[.slice A49 (l0.drop 14).length (c0 - 14), .int .i64 1]) (by first | rfl | (rw [show (l0.drop 14).length = (l0.length - 14) from List.length_drop]; done) | (simp only [List.length_drop, List.length_take]; done) | (simp only [List.length_drop, List.length_take]; rfl)) ?_; (with_reducible refine (pes_unstamp.calls _ _ (l0.drop 14) 1 t269 t270 _ ?side1 ?side2 A45.out).mono ?_); (case side1 => exact Kd.C_below HR268.out (by repeat (first | (with_reducible first | exact HB.out | apply below_alloc | apply pw_below_drewN | apply below_drew1 | refine below_set ?_ GE246.out | refine below_set ?_ GE260.out) | exact HB.out))); (case side2 => exact HC268.out); rintro e w' ⟨rfl, ⟨nd, rfl⟩⟩; (try first | exact ⟨rfl, _, World.drewN_drewN _ _ _⟩ | exact ⟨rfl, _, Eq.trans (World.drewN_drewN _ _ _) (congrArg (World.drewN _) (Nat.add_assoc _ _ _))⟩)))
                                repeat (go_quiet (first | (go_at_call 37; refine calls_of_args (args' := #[.slice A46 (l0.drop 9).length (c0 - 9), .int .i64 3]) (by first | rfl | (rw [show (l0.drop 9).length = (l0.length - 9) from List.length_drop]; done) | (simp only [List.length_drop, List.length_take]; done) | (simp only [List.length_drop, List.length_take]; rfl)) ?_; (with_reducible refine (pes_unstamp.calls _ _ (l0.drop 9) 3 t266 t267 _ ?side1 ?side2 A43.out).mono ?_); (case side1 => exact Kd.C_below HR265.out (by repeat (first | (with_reducible first | exact HB.out | apply below_alloc | apply pw_below_drewN | apply below_drew1 | refine below_set ?_ GE246.out | refine below_set ?_ GE260.out) | exact HB.out))); (case side2 => exact HC265.out); rintro e w' ⟨rfl, ⟨nd, rfl⟩⟩; (try first | exact ⟨rfl, _, World.drewN_drewN _ _ _⟩ | exact ⟨rfl, _, Eq.trans (World.drewN_drewN _ _ _) (congrArg (World.drewN _) (Nat.add_assoc _ _ _))⟩); (try (have hnb47 := NB260_246.out)); (try (have hnc47 := NB246_260.out)); (try (have hcz48_0 : w32.cell? ⟨gb260, 0, none⟩ = some (.int .i64 0) := (blk_cell BK260.out 0).trans rfl)); (try (have hcz48_1 : w32.cell? ⟨gb260, 1, none⟩ = some (.int .i64 0) := (blk_cell BK260.out 1).trans rfl)); (try (have hcz48_2 : w32.cell? ⟨gb260, 2, none⟩ = some (.int .i64 0) := (blk_cell BK260.out 2).trans rfl)); (try (have hcz48_3 : w32.cell? ⟨gb260, 3, none⟩ = some (.slice none 0 0) := (blk_cell BK260.out 3).trans rfl)); (try (have hfz48_0 := blk_frozen BK260.out 0)); (try (have hfz48_1 := blk_frozen BK260.out 1)); (try (have hfz48_2 := blk_frozen BK260.out 2)); (try (have hfz48_3 := blk_frozen BK260.out 3)); (try (obtain ⟨i049, hi049, _, hsz49, _⟩ := info_parts info5)); (try (obtain ⟨A49, hcut49, hA49, hC49⟩ := print_drop_of (P := Try.prog) (Value.int .u8) 0 27 5 .i64 Try.underlying27 hi049 hsz49 (some ad247) c0 l0 14 (by omega) (of_decide_eq_true (by first | (with_reducible assumption) | assumption)) HC0.out)); (try (have HR268 := Aside0.mk (Kd.C_of_reads (h1 := fun _ => rfl) (hA49 _ (Kd.reads_of_C HR0.out))))); (try (have HC268 := Aside0.mk hC49)); (try (clear hA49 hC49 hi049 hsz49))) | (go_at_call 37; refine calls_of_args (args' := #[.slice A49 (l0.drop 14).length (c0 - 14), .int .i64 1]) (by first | rfl | (rw [show (l0.drop 14).length = (l0.length - 14) from List.length_drop]; done) | (simp only [List.length_drop, List.length_take]; done) | (simp only [List.length_drop, List.length_take]; rfl)) ?_; (with_reducible refine (pes_unstamp.calls _ _ (l0.drop 14) 1 t269 t270 _ ?side1 ?side2 A45.out).mono ?_); (case side1 => exact Kd.C_below HR268.out (by repeat (first | (with_reducible first | exact HB.out | apply below_alloc | apply pw_below_drewN | apply below_drew1 | refine below_set ?_ GE246.out | refine below_set ?_ GE260.out) | exact HB.out))); (case side2 => exact HC268.out); rintro e w' ⟨rfl, ⟨nd, rfl⟩⟩; (try first | exact ⟨rfl, _, World.drewN_drewN _ _ _⟩ | exact ⟨rfl, _, Eq.trans (World.drewN_drewN _ _ _) (congrArg (World.drewN _) (Nat.add_assoc _ _ _))⟩))); try go_wp2_with (first | (go_at_call 37; refine calls_of_args (args' := #[.slice A46 (l0.drop 9).length (c0 - 9), .int .i64 3]) (by first | rfl | (rw [show (l0.drop 9).length = (l0.length - 9) from List.length_drop]; done) | (simp only [List.length_drop, List.length_take]; done) | (simp only [List.length_drop, List.length_take]; rfl)) ?_; (with_reducible refine (pes_unstamp.calls _ _ (l0.drop 9) 3 t266 t267 _ ?side1 ?side2 A43.out).mono ?_); (case side1 => exact Kd.C_below HR265.out (by repeat (first | (with_reducible first | exact HB.out | apply below_alloc | apply pw_below_drewN | apply below_drew1 | refine below_set ?_ GE246.out | refine below_set ?_ GE260.out) | exact HB.out))); (case side2 => exact HC265.out); rintro e w' ⟨rfl, ⟨nd, rfl⟩⟩; (try first | exact ⟨rfl, _, World.drewN_drewN _ _ _⟩ | exact ⟨rfl, _, Eq.trans (World.drewN_drewN _ _ _) (congrArg (World.drewN _) (Nat.add_assoc _ _ _))⟩); (try (have hnb47 := NB260_246.out)); (try (have hnc47 := NB246_260.out)); (try (have hcz48_0 : w32.cell? ⟨gb260, 0, none⟩ = some (.int .i64 0) := (blk_cell BK260.out 0).trans rfl)); (try (have hcz48_1 : w32.cell? ⟨gb260, 1, none⟩ = some (.int .i64 0) := (blk_cell BK260.out 1).trans rfl)); (try (have hcz48_2 : w32.cell? ⟨gb260, 2, none⟩ = some (.int .i64 0) := (blk_cell BK260.out 2).trans rfl)); (try (have hcz48_3 : w32.cell? ⟨gb260, 3, none⟩ = some (.slice none 0 0) := (blk_cell BK260.out 3).trans rfl)); (try (have hfz48_0 := blk_frozen BK260.out 0)); (try (have hfz48_1 := blk_frozen BK260.out 1)); (try (have hfz48_2 := blk_frozen BK260.out 2)); (try (have hfz48_3 := blk_frozen BK260.out 3)); (try (obtain ⟨i049, hi049, _, hsz49, _⟩ := info_parts info5)); (try (obtain ⟨A49, hcut49, hA49, hC49⟩ := print_drop_of (P := Try.prog) (Value.int .u8) 0 27 5 .i64 Try.underlying27 hi049 hsz49 (some ad247) c0 l0 14 (by omega) (of_decide_eq_true (by first | (with_reducible assumption) | assumption)) HC0.out)); (try (have HR268 := Aside0.mk (Kd.C_of_reads (h1 := fun _ => rfl) (hA49 _ (Kd.reads_of_C HR0.out))))); (try (have HC268 := Aside0.mk hC49)); (try (clear hA49 hC49 hi049 hsz49))) | (go_at_call 37; refine calls_of_args (args' := #[.slice A49 (l0.drop 14).length (c0 - 14), .int .i64 1]) (by first | rfl | (rw [show (l0.drop 14).length = (l0.length - 14) from List.length_drop]; done) | (simp only [List.length_drop, List.length_take]; done) | (simp only [List.length_drop, List.length_take]; rfl)) ?_; (with_reducible refine (pes_unstamp.calls _ _ (l0.drop 14) 1 t269 t270 _ ?side1 ?side2 A45.out).mono ?_); (case side1 => exact Kd.C_below HR268.out (by repeat (first | (with_reducible first | exact HB.out | apply below_alloc | apply pw_below_drewN | apply below_drew1 | refine below_set ?_ GE246.out | refine below_set ?_ GE260.out) | exact HB.out))); (case side2 => exact HC268.out); rintro e w' ⟨rfl, ⟨nd, rfl⟩⟩; (try first | exact ⟨rfl, _, World.drewN_drewN _ _ _⟩ | exact ⟨rfl, _, Eq.trans (World.drewN_drewN _ _ _) (congrArg (World.drewN _) (Nat.add_assoc _ _ _))⟩))))
                                go_meet
                                case rel => exact ⟨_, (t267), (t270), (t266), (t269), (by first | rfl | (simp; done) | (simp [*]; done)), (by first | rfl | (simp; done) | (simp [*]; done)), H', ⟨by have := HJ8.out; first | omega | exact Nat.le_refl _⟩, ⟨by (with_reducible repeat (first | refine blk_drewN ?_ _ | refine blk_drew ?_ | refine blk_alloc ?_ _)); refine blk_far ?_ NB246_260.out _; (with_reducible repeat (first | refine blk_drewN ?_ _ | refine blk_drew ?_ | refine blk_alloc ?_ _)); refine blk_far ?_ NB246_260.out _; (with_reducible repeat (first | refine blk_drewN ?_ _ | refine blk_drew ?_ | refine blk_alloc ?_ _)); refine blk_far ?_ NB246_260.out _; (with_reducible repeat (first | refine blk_drewN ?_ _ | refine blk_drew ?_ | refine blk_alloc ?_ _)); refine blk_far ?_ NB246_260.out _; (with_reducible repeat (first | refine blk_drewN ?_ _ | refine blk_drew ?_ | refine blk_alloc ?_ _)); refine blk_far ?_ NB246_260.out _; (with_reducible repeat (first | refine blk_drewN ?_ _ | refine blk_drew ?_ | refine blk_alloc ?_ _)); refine blk_far ?_ NB246_260.out _; (with_reducible repeat (first | refine blk_drewN ?_ _ | refine blk_drew ?_ | refine blk_alloc ?_ _)); exact BK246.out⟩, ⟨by (with_reducible repeat (first | refine blk_drewN ?_ _ | refine blk_drew ?_ | refine blk_alloc ?_ _)); refine blk_put (cs := #[.int .i64 (wrap64 (rd l0 3)), .int .i64 t266, .int .i64 (-1), .slice none 0 0]) ?_ 2 _ rfl; (with_reducible repeat (first | refine blk_drewN ?_ _ | refine blk_drew ?_ | refine blk_alloc ?_ _)); refine blk_put (cs := #[.int .i64 (wrap64 (rd l0 3)), .int .i64 (-1), .int .i64 (-1), .slice none 0 0]) ?_ 1 _ rfl; (with_reducible repeat (first | refine blk_drewN ?_ _ | refine blk_drew ?_ | refine blk_alloc ?_ _)); refine blk_put (cs := #[.int .i64 (wrap64 (rd l0 3)), .int .i64 (-1), .int .i64 (-1), .slice none 0 0]) ?_ 3 _ rfl; (with_reducible repeat (first | refine blk_drewN ?_ _ | refine blk_drew ?_ | refine blk_alloc ?_ _)); refine blk_put (cs := #[.int .i64 (wrap64 (rd l0 3)), .int .i64 (-1), .int .i64 0, .slice none 0 0]) ?_ 2 _ rfl; (with_reducible repeat (first | refine blk_drewN ?_ _ | refine blk_drew ?_ | refine blk_alloc ?_ _)); refine blk_put (cs := #[.int .i64 (wrap64 (rd l0 3)), .int .i64 0, .int .i64 0, .slice none 0 0]) ?_ 1 _ rfl; (with_reducible repeat (first | refine blk_drewN ?_ _ | refine blk_drew ?_ | refine blk_alloc ?_ _)); refine blk_put (cs := #[.int .i64 0, .int .i64 0, .int .i64 0, .slice none 0 0]) ?_ 0 _ rfl; (with_reducible repeat (first | refine blk_drewN ?_ _ | refine blk_drew ?_ | refine blk_alloc ?_ _)); exact BK260.out⟩, ⟨by repeat (first | (with_reducible first | exact HB.out | apply below_alloc | apply pw_below_drewN | apply below_drew1 | refine below_set ?_ GE246.out | refine below_set ?_ GE260.out) | exact HB.out)⟩⟩
                              · rw [if_neg c44] at H
                                exact absurd H (by simp)
                            · rw [if_neg c42] at H
                              exact absurd H (by simp)
                          · rw [if_neg c41] at H
                            have c41b0 : ((rd l0 7) == 192) = false := beq_eq_false_iff_ne.mpr c41
                            have c41b1 : ((rd l0 7) != 192) = true := bne_iff_ne.mpr c41
                            have H' := Aside0.mk H
                            clear H
                            go_wp2
                            repeat (go_quiet (fail); try go_wp2)
                            go_meet
                            case rel => exact ⟨_, (true), (true), ((-1)), ((-1)), (by first | rfl | (simp; done) | (simp [*]; done)), (by first | rfl | (simp; done) | (simp [*]; done)), H', ⟨by have := HJ8.out; first | omega | exact Nat.le_refl _⟩, ⟨by (with_reducible repeat (first | refine blk_drewN ?_ _ | refine blk_drew ?_ | refine blk_alloc ?_ _)); refine blk_far ?_ NB246_260.out _; (with_reducible repeat (first | refine blk_drewN ?_ _ | refine blk_drew ?_ | refine blk_alloc ?_ _)); refine blk_far ?_ NB246_260.out _; (with_reducible repeat (first | refine blk_drewN ?_ _ | refine blk_drew ?_ | refine blk_alloc ?_ _)); refine blk_far ?_ NB246_260.out _; (with_reducible repeat (first | refine blk_drewN ?_ _ | refine blk_drew ?_ | refine blk_alloc ?_ _)); refine blk_far ?_ NB246_260.out _; (with_reducible repeat (first | refine blk_drewN ?_ _ | refine blk_drew ?_ | refine blk_alloc ?_ _)); exact BK246.out⟩, ⟨by (with_reducible repeat (first | refine blk_drewN ?_ _ | refine blk_drew ?_ | refine blk_alloc ?_ _)); refine blk_put (cs := #[.int .i64 (wrap64 (rd l0 3)), .int .i64 (-1), .int .i64 (-1), .slice none 0 0]) ?_ 3 _ rfl; (with_reducible repeat (first | refine blk_drewN ?_ _ | refine blk_drew ?_ | refine blk_alloc ?_ _)); refine blk_put (cs := #[.int .i64 (wrap64 (rd l0 3)), .int .i64 (-1), .int .i64 0, .slice none 0 0]) ?_ 2 _ rfl; (with_reducible repeat (first | refine blk_drewN ?_ _ | refine blk_drew ?_ | refine blk_alloc ?_ _)); refine blk_put (cs := #[.int .i64 (wrap64 (rd l0 3)), .int .i64 0, .int .i64 0, .slice none 0 0]) ?_ 1 _ rfl; (with_reducible repeat (first | refine blk_drewN ?_ _ | refine blk_drew ?_ | refine blk_alloc ?_ _)); refine blk_put (cs := #[.int .i64 0, .int .i64 0, .int .i64 0, .slice none 0 0]) ?_ 0 _ rfl; (with_reducible repeat (first | refine blk_drewN ?_ _ | refine blk_drew ?_ | refine blk_alloc ?_ _)); exact BK260.out⟩, ⟨by repeat (first | (with_reducible first | exact HB.out | apply below_alloc | apply pw_below_drewN | apply below_drew1 | refine below_set ?_ GE246.out | refine below_set ?_ GE260.out) | exact HB.out)⟩⟩
                      case rest =>
                        clear HC31
                        try clear c1
                        try clear c2
                        try clear c2b0
                        try clear c2b1
                        try clear p2
                        try clear q2
                        try clear hx2
                        try clear qi2
                        try clear c3
                        try clear c4
                        try clear c5
                        try clear c5b0
                        try clear c5b1
                        try clear c6
                        try clear c6b0
                        try clear c6b1
                        try clear p6
                        try clear c7
                        try clear c7b0
                        try clear c7b1
                        try clear c11
                        try clear c12
                        try clear c12b0
                        try clear c12b1
                        try clear c13
                        try clear c13b0
                        try clear c13b1
                        try clear c14
                        try clear c14b0
                        try clear c14b1
                        try clear c15
                        try clear c15b0
                        try clear c15b1
                        try clear c16
                        try clear c16b0
                        try clear c16b1
                        try clear c17
                        try clear c17b0
                        try clear c17b1
                        try clear c18
                        try clear c18b0
                        try clear c18b1
                        try clear c19
                        try clear c19b0
                        try clear c20
                        try clear c20b0
                        try clear c21
                        try clear c21b0
                        try clear c21b1
                        try clear c22
                        try clear c22b0
                        try clear c22b1
                        try clear c23
                        try clear c23b0
                        try clear c23b1
                        try clear c24
                        try clear c24b0
                        try clear c24b1
                        try clear p24
                        try clear q24
                        try clear hx24
                        try clear qi24
                        try clear c25
                        try clear p25
                        try clear q25
                        try clear hx25
                        try clear qi25
                        try clear p26
                        try clear q26
                        try clear hx26
                        try clear qi26
                        try clear c27
                        try clear c27b0
                        try clear c29
                        try clear c29b0
                        try clear c29b1
                        try clear c30
                        try clear c30b0
                        try clear c30b1
                        try clear c33
                        try clear c35
                        try clear c35b0
                        try clear c35b1
                        try clear c36
                        try clear c36b0
                        try clear c36b1
                        try clear c39
                        try clear c41
                        try clear c41b0
                        try clear c41b1
                        try clear c42
                        try clear c42b0
                        try clear c42b1
                        try clear c44
                        try clear c44b0
                        try clear c44b1
                        try clear c47
                        try clear hcz26_0
                        try clear hcz26_1
                        try clear hcz26_2
                        try clear hcz26_3
                        try clear hcz28_0
                        try clear hcz28_1
                        try clear hcz28_2
                        try clear hcz28_3
                        try clear hcz34_0
                        try clear hcz34_1
                        try clear hcz34_2
                        try clear hcz34_3
                        try clear hcz40_0
                        try clear hcz40_1
                        try clear hcz40_2
                        try clear hcz40_3
                        try clear hcz48_0
                        try clear hcz48_1
                        try clear hcz48_2
                        try clear hcz48_3
                        try clear hcz4_0
                        try clear hcz4_1
                        try clear hcz4_2
                        try clear hcz4_3
                        try clear hfz26_0
                        try clear hfz26_1
                        try clear hfz26_2
                        try clear hfz26_3
                        try clear hfz28_0
                        try clear hfz28_1
                        try clear hfz28_2
                        try clear hfz28_3
                        try clear hfz34_0
                        try clear hfz34_1
                        try clear hfz34_2
                        try clear hfz34_3
                        try clear hfz40_0
                        try clear hfz40_1
                        try clear hfz40_2
                        try clear hfz40_3
                        try clear hfz48_0
                        try clear hfz48_1
                        try clear hfz48_2
                        try clear hfz48_3
                        try clear hfz4_0
                        try clear hfz4_1
                        try clear hfz4_2
                        try clear hfz4_3
                        try clear hx247_0
                        try clear hx248_0
                        try clear hx249_0
                        try clear hx252_0
                        try clear hx253_0
                        try clear hx254_0
                        try clear hx255_0
                        try clear hx256_0
                        try clear hx257_0
                        try clear hx258_0
                        try clear hx259_0
                        try clear hx261_0
                        try clear p2
                        try clear p24
                        try clear p247
                        try clear p248
                        try clear p249
                        try clear p252
                        try clear p253
                        try clear p254
                        try clear p255
                        try clear p256
                        try clear p257
                        try clear p258
                        try clear p259
                        try clear p261
                        try clear p6
                        try clear q2
                        try clear q24
                        try clear q247
                        try clear q248
                        try clear q249
                        try clear q252
                        try clear q253
                        try clear q254
                        try clear q255
                        try clear q256
                        try clear q257
                        try clear q258
                        try clear q259
                        try clear q261
                        obtain ⟨kq, x10_30, x11_30, x261001_30, x261002_30, rfl, rfl, HA, HJ30, BK246, BK260, HB⟩ := hcut
                        cases kq with
                        | zero => exact absurd HA.out (by simp [pes_Take.j1])
                        | succ kj30 =>
                          have H := HA.out
                          clear HA
                          simp only [pes_Take.j1] at H
                          by_cases c50 : x10_30 = true
                          · subst c50
                            have H1 : (if x11_30 = true then (if 0 ≤ (wrap64 (9 + t250)) then (if (wrap64 (9 + t250)) ≤ (wrap64 (6 + (Go.bits .or .i64 (wrap64 ((wrap64 (rd l0 4)) * 256)) (wrap64 (rd l0 5))))) then (if (wrap64 (6 + (Go.bits .or .i64 (wrap64 ((wrap64 (rd l0 4)) * 256)) (wrap64 (rd l0 5))))) ≤ (l0.length : Int) then ((slices_Clone_byte_byte.f ((l0.take ((wrap64 (6 + (Go.bits .or .i64 (wrap64 ((wrap64 (rd l0 4)) * 256)) (wrap64 (rd l0 5))))) : Int).toNat).drop ((wrap64 (9 + t250)) : Int).toNat)).bind fun t272 => (some ((wrap64 (rd l0 3)), x261001_30, x261002_30, t272, (wrap64 (6 + (Go.bits .or .i64 (wrap64 ((wrap64 (rd l0 4)) * 256)) (wrap64 (rd l0 5))))), 0))) else (none)) else (none)) else (none)) else (some (0, 0, 0, ([] : List Int), 0, 3))) = some (r1, r2, r3, r4, r5, r6) := by rw [if_pos rfl] at H; exact H
                            clear H
                            have H := H1
                            clear H1
                            by_cases c51 : x11_30 = true
                            · subst c51
                              have H1 : (if 0 ≤ (wrap64 (9 + t250)) then (if (wrap64 (9 + t250)) ≤ (wrap64 (6 + (Go.bits .or .i64 (wrap64 ((wrap64 (rd l0 4)) * 256)) (wrap64 (rd l0 5))))) then (if (wrap64 (6 + (Go.bits .or .i64 (wrap64 ((wrap64 (rd l0 4)) * 256)) (wrap64 (rd l0 5))))) ≤ (l0.length : Int) then ((slices_Clone_byte_byte.f ((l0.take ((wrap64 (6 + (Go.bits .or .i64 (wrap64 ((wrap64 (rd l0 4)) * 256)) (wrap64 (rd l0 5))))) : Int).toNat).drop ((wrap64 (9 + t250)) : Int).toNat)).bind fun t272 => (some ((wrap64 (rd l0 3)), x261001_30, x261002_30, t272, (wrap64 (6 + (Go.bits .or .i64 (wrap64 ((wrap64 (rd l0 4)) * 256)) (wrap64 (rd l0 5))))), 0))) else (none)) else (none)) else (none)) = some (r1, r2, r3, r4, r5, r6) := by rw [if_pos rfl] at H; exact H
                              clear H
                              have H := H1
                              clear H1
                              obtain ⟨ji52, hji52⟩ : ∃ j_ : Int, (wrap64 (9 + t250)) = j_ := ⟨_, rfl⟩
                              replace H : (if 0 ≤ (ji52) then (if (ji52) ≤ (wrap64 (6 + (Go.bits .or .i64 (wrap64 ((wrap64 (rd l0 4)) * 256)) (wrap64 (rd l0 5))))) then (if (wrap64 (6 + (Go.bits .or .i64 (wrap64 ((wrap64 (rd l0 4)) * 256)) (wrap64 (rd l0 5))))) ≤ (l0.length : Int) then ((slices_Clone_byte_byte.f ((l0.take ((wrap64 (6 + (Go.bits .or .i64 (wrap64 ((wrap64 (rd l0 4)) * 256)) (wrap64 (rd l0 5))))) : Int).toNat).drop ((ji52) : Int).toNat)).bind fun t272 => (some ((wrap64 (rd l0 3)), x261001_30, x261002_30, t272, (wrap64 (6 + (Go.bits .or .i64 (wrap64 ((wrap64 (rd l0 4)) * 256)) (wrap64 (rd l0 5))))), 0))) else (none)) else (none)) else (none)) = some (r1, r2, r3, r4, r5, r6) := by first | (rw [hji52] at H; exact H) | (simp only [hji52] at H ⊢; exact H)
                              have hji52w : (IntKind.i64.wrap (9 + t250)) = ji52 := (i64_w _).trans hji52
                              by_cases c53 : 0 ≤ (ji52)
                              · rw [if_pos c53] at H
                                have c53b0 := eq_true c53
                                have c53b1 : decide (0 ≤ (ji52)) = true := decide_eq_true c53
                                clear c53
                                by_cases c54 : (ji52) ≤ (wrap64 (6 + (Go.bits .or .i64 (wrap64 ((wrap64 (rd l0 4)) * 256)) (wrap64 (rd l0 5)))))
                                · rw [if_pos c54] at H
                                  have c54b0 := eq_true c54
                                  have c54b1 : decide ((ji52) ≤ (wrap64 (6 + (Go.bits .or .i64 (wrap64 ((wrap64 (rd l0 4)) * 256)) (wrap64 (rd l0 5)))))) = true := decide_eq_true c54
                                  by_cases c55 : (wrap64 (6 + (Go.bits .or .i64 (wrap64 ((wrap64 (rd l0 4)) * 256)) (wrap64 (rd l0 5))))) ≤ (l0.length : Int)
                                  · rw [if_pos c55] at H
                                    have c55b0 := eq_true c55
                                    have c55b1 : decide ((wrap64 (6 + (Go.bits .or .i64 (wrap64 ((wrap64 (rd l0 4)) * 256)) (wrap64 (rd l0 5))))) ≤ (l0.length : Int)) = true := decide_eq_true c55
                                    replace H := Option.bind_eq_some_iff.mp H
                                    obtain ⟨t272, A560, H⟩ := H
                                    replace H : (some ((wrap64 (rd l0 3)), x261001_30, x261002_30, t272, (wrap64 (6 + (Go.bits .or .i64 (wrap64 ((wrap64 (rd l0 4)) * 256)) (wrap64 (rd l0 5))))), 0)) = some (r1, r2, r3, r4, r5, r6) := H
                                    have A56 := Aside0.mk A560
                                    clear A560
                                    simp only [Option.some.injEq, Prod.mk.injEq] at H
                                    obtain ⟨rfl, rfl, rfl, rfl, rfl, rfl⟩ := H
                                    obtain ⟨i057, hi057, _, hsz57, _⟩ := info_parts info5
                                    obtain ⟨A57, hcut57, hA57, hC57⟩ := print_mid3_of (P := Try.prog) (Value.int .u8) 0 27 5 .i64 .i64 Try.underlying27 hi057 hsz57 (some ad247) c0 l0 (ji52) (wrap64 (6 + (Go.bits .or .i64 (wrap64 ((wrap64 (rd l0 4)) * 256)) (wrap64 (rd l0 5))))) (of_decide_eq_true (by first | (with_reducible assumption) | assumption)) (by first | omega | exact of_decide_eq_true (by first | (with_reducible assumption) | assumption)) (of_decide_eq_true (by first | (with_reducible assumption) | assumption)) HC0.out
                                    have HR271 := Aside0.mk (Kd.C_of_reads (h1 := fun _ => rfl) (hA57 _ (Kd.reads_of_C HR0.out)))
                                    have HC271 := Aside0.mk hC57
                                    clear hA57 hC57 hi057 hsz57
                                    go_wp2_with (first | (go_at_call 31; refine calls_of_args (args' := #[.slice A57 ((l0.take ((wrap64 (6 + (Go.bits .or .i64 (wrap64 ((wrap64 (rd l0 4)) * 256)) (wrap64 (rd l0 5))))) : Int).toNat).drop ((ji52) : Int).toNat).length ((wrap64 (6 + (Go.bits .or .i64 (wrap64 ((wrap64 (rd l0 4)) * 256)) (wrap64 (rd l0 5))))).toNat - (ji52).toNat)]) (by first | rfl | (rw [show ((l0.take ((wrap64 (6 + (Go.bits .or .i64 (wrap64 ((wrap64 (rd l0 4)) * 256)) (wrap64 (rd l0 5))))) : Int).toNat).drop ((ji52) : Int).toNat).length = ((wrap64 (6 + (Go.bits .or .i64 (wrap64 ((wrap64 (rd l0 4)) * 256)) (wrap64 (rd l0 5))))).toNat - (ji52).toNat) from (by rw [List.length_drop, List.length_take]; have h_ : ((wrap64 (6 + (Go.bits .or .i64 (wrap64 ((wrap64 (rd l0 4)) * 256)) (wrap64 (rd l0 5))))) : Int) ≤ (l0.length : Int) := of_decide_eq_true (by first | (with_reducible assumption) | assumption); omega)]; done) | (simp only [List.length_drop, List.length_take]; done) | (simp only [List.length_drop, List.length_take]; rfl)) ?_; (with_reducible refine (slices_Clone_byte_byte.calls _ _ ((l0.take ((wrap64 (6 + (Go.bits .or .i64 (wrap64 ((wrap64 (rd l0 4)) * 256)) (wrap64 (rd l0 5))))) : Int).toNat).drop ((ji52) : Int).toNat) t272 _ ?side1 ?side2 A56.out).mono ?_); (case side1 => repeat (first | exact (Kd.C_below HR271.out HB.out) | (with_reducible refine Kd.C_alloc ?_ _) | (with_reducible refine Kd.C_drewN ?_ _) | (with_reducible refine Kd.C_drew ?_))); (case side2 => exact HC271.out); rintro e w58 ⟨v273, rfl, ho0, hb⟩; have n0_ := Aside0.mk (Kd.R_lower ho0 (below_size (by repeat (first | (with_reducible first | exact HB.out | apply below_alloc | apply pw_below_drewN | apply below_drew1 | refine below_set ?_ GE246.out | refine below_set ?_ GE260.out) | exact HB.out)))); have n1_ := Aside0.mk (blk_below (g := gb246) (o := .cells #[.int .i64 0, .int .i64 0, .int .i64 0, .slice none 0 0] 30 (0, 0)) (by (with_reducible repeat (first | refine blk_drewN ?_ _ | refine blk_drew ?_ | refine blk_alloc ?_ _)); exact BK246.out) hb); have n2_ := Aside0.mk (blk_below (g := gb260) (o := .cells #[.int .i64 (wrap64 (rd l0 3)), .int .i64 x261001_30, .int .i64 x261002_30, .slice none 0 0] 30 (0, 0)) (by (with_reducible repeat (first | refine blk_drewN ?_ _ | refine blk_drew ?_ | refine blk_alloc ?_ _)); exact BK260.out) hb); have n3_ := Aside0.mk (below_step (by repeat (first | (with_reducible first | exact HB.out | apply below_alloc | apply pw_below_drewN | apply below_drew1 | refine below_set ?_ GE246.out | refine below_set ?_ GE260.out) | exact HB.out)) hb); clear BK246; clear BK260; clear HB; have HO274 := n0_; have BK246 := n1_; have BK260 := n2_; have HB := n3_; clear n0_ n1_ n2_ n3_; (try clear hb); (try clear hb2); (try clear hk); (try clear hi); (try clear ho0); obtain ⟨Ao59, co59, eo59⟩ := Kd.R_slice HO274.out; subst eo59; have hnb60 := NB260_246.out; have hnc60 := NB246_260.out; have hcz61_0 : w58.cell? ⟨gb260, 0, none⟩ = some (.int .i64 (wrap64 (rd l0 3))) := (blk_cell BK260.out 0).trans rfl; have hcz61_1 : w58.cell? ⟨gb260, 1, none⟩ = some (.int .i64 x261001_30) := (blk_cell BK260.out 1).trans rfl; have hcz61_2 : w58.cell? ⟨gb260, 2, none⟩ = some (.int .i64 x261002_30) := (blk_cell BK260.out 2).trans rfl; have hcz61_3 : w58.cell? ⟨gb260, 3, none⟩ = some (.slice none 0 0) := (blk_cell BK260.out 3).trans rfl; have hfz61_0 := blk_frozen BK260.out 0; have hfz61_1 := blk_frozen BK260.out 1; have hfz61_2 := blk_frozen BK260.out 2; have hfz61_3 := blk_frozen BK260.out 3; have hcz62_0 : w58.cell? ⟨gb246, 0, none⟩ = some (.int .i64 0) := (blk_cell BK246.out 0).trans rfl; have hcz62_1 : w58.cell? ⟨gb246, 1, none⟩ = some (.int .i64 0) := (blk_cell BK246.out 1).trans rfl; have hcz62_2 : w58.cell? ⟨gb246, 2, none⟩ = some (.int .i64 0) := (blk_cell BK246.out 2).trans rfl; have hcz62_3 : w58.cell? ⟨gb246, 3, none⟩ = some (.slice none 0 0) := (blk_cell BK246.out 3).trans rfl; have hfz62_0 := blk_frozen BK246.out 0; have hfz62_1 := blk_frozen BK246.out 1; have hfz62_2 := blk_frozen BK246.out 2; have hfz62_3 := blk_frozen BK246.out 3))
                                    repeat (go_quiet (first | (go_at_call 31; refine calls_of_args (args' := #[.slice A57 ((l0.take ((wrap64 (6 + (Go.bits .or .i64 (wrap64 ((wrap64 (rd l0 4)) * 256)) (wrap64 (rd l0 5))))) : Int).toNat).drop ((ji52) : Int).toNat).length ((wrap64 (6 + (Go.bits .or .i64 (wrap64 ((wrap64 (rd l0 4)) * 256)) (wrap64 (rd l0 5))))).toNat - (ji52).toNat)]) (by first | rfl | (rw [show ((l0.take ((wrap64 (6 + (Go.bits .or .i64 (wrap64 ((wrap64 (rd l0 4)) * 256)) (wrap64 (rd l0 5))))) : Int).toNat).drop ((ji52) : Int).toNat).length = ((wrap64 (6 + (Go.bits .or .i64 (wrap64 ((wrap64 (rd l0 4)) * 256)) (wrap64 (rd l0 5))))).toNat - (ji52).toNat) from (by rw [List.length_drop, List.length_take]; have h_ : ((wrap64 (6 + (Go.bits .or .i64 (wrap64 ((wrap64 (rd l0 4)) * 256)) (wrap64 (rd l0 5))))) : Int) ≤ (l0.length : Int) := of_decide_eq_true (by first | (with_reducible assumption) | assumption); omega)]; done) | (simp only [List.length_drop, List.length_take]; done) | (simp only [List.length_drop, List.length_take]; rfl)) ?_; (with_reducible refine (slices_Clone_byte_byte.calls _ _ ((l0.take ((wrap64 (6 + (Go.bits .or .i64 (wrap64 ((wrap64 (rd l0 4)) * 256)) (wrap64 (rd l0 5))))) : Int).toNat).drop ((ji52) : Int).toNat) t272 _ ?side1 ?side2 A56.out).mono ?_); (case side1 => repeat (first | exact (Kd.C_below HR271.out HB.out) | (with_reducible refine Kd.C_alloc ?_ _) | (with_reducible refine Kd.C_drewN ?_ _) | (with_reducible refine Kd.C_drew ?_))); (case side2 => exact HC271.out); rintro e w58 ⟨v273, rfl, ho0, hb⟩; have n0_ := Aside0.mk (Kd.R_lower ho0 (below_size (by repeat (first | (with_reducible first | exact HB.out | apply below_alloc | apply pw_below_drewN | apply below_drew1 | refine below_set ?_ GE246.out | refine below_set ?_ GE260.out) | exact HB.out)))); have n1_ := Aside0.mk (blk_below (g := gb246) (o := .cells #[.int .i64 0, .int .i64 0, .int .i64 0, .slice none 0 0] 30 (0, 0)) (by (with_reducible repeat (first | refine blk_drewN ?_ _ | refine blk_drew ?_ | refine blk_alloc ?_ _)); exact BK246.out) hb); have n2_ := Aside0.mk (blk_below (g := gb260) (o := .cells #[.int .i64 (wrap64 (rd l0 3)), .int .i64 x261001_30, .int .i64 x261002_30, .slice none 0 0] 30 (0, 0)) (by (with_reducible repeat (first | refine blk_drewN ?_ _ | refine blk_drew ?_ | refine blk_alloc ?_ _)); exact BK260.out) hb); have n3_ := Aside0.mk (below_step (by repeat (first | (with_reducible first | exact HB.out | apply below_alloc | apply pw_below_drewN | apply below_drew1 | refine below_set ?_ GE246.out | refine below_set ?_ GE260.out) | exact HB.out)) hb); clear BK246; clear BK260; clear HB; have HO274 := n0_; have BK246 := n1_; have BK260 := n2_; have HB := n3_; clear n0_ n1_ n2_ n3_; (try clear hb); (try clear hb2); (try clear hk); (try clear hi); (try clear ho0); obtain ⟨Ao59, co59, eo59⟩ := Kd.R_slice HO274.out; subst eo59; have hnb60 := NB260_246.out; have hnc60 := NB246_260.out; have hcz61_0 : w58.cell? ⟨gb260, 0, none⟩ = some (.int .i64 (wrap64 (rd l0 3))) := (blk_cell BK260.out 0).trans rfl; have hcz61_1 : w58.cell? ⟨gb260, 1, none⟩ = some (.int .i64 x261001_30) := (blk_cell BK260.out 1).trans rfl; have hcz61_2 : w58.cell? ⟨gb260, 2, none⟩ = some (.int .i64 x261002_30) := (blk_cell BK260.out 2).trans rfl; have hcz61_3 : w58.cell? ⟨gb260, 3, none⟩ = some (.slice none 0 0) := (blk_cell BK260.out 3).trans rfl; have hfz61_0 := blk_frozen BK260.out 0; have hfz61_1 := blk_frozen BK260.out 1; have hfz61_2 := blk_frozen BK260.out 2; have hfz61_3 := blk_frozen BK260.out 3; have hcz62_0 : w58.cell? ⟨gb246, 0, none⟩ = some (.int .i64 0) := (blk_cell BK246.out 0).trans rfl; have hcz62_1 : w58.cell? ⟨gb246, 1, none⟩ = some (.int .i64 0) := (blk_cell BK246.out 1).trans rfl; have hcz62_2 : w58.cell? ⟨gb246, 2, none⟩ = some (.int .i64 0) := (blk_cell BK246.out 2).trans rfl; have hcz62_3 : w58.cell? ⟨gb246, 3, none⟩ = some (.slice none 0 0) := (blk_cell BK246.out 3).trans rfl; have hfz62_0 := blk_frozen BK246.out 0; have hfz62_1 := blk_frozen BK246.out 1; have hfz62_2 := blk_frozen BK246.out 2; have hfz62_3 := blk_frozen BK246.out 3)); try go_wp2_with (first | (go_at_call 31; refine calls_of_args (args' := #[.slice A57 ((l0.take ((wrap64 (6 + (Go.bits .or .i64 (wrap64 ((wrap64 (rd l0 4)) * 256)) (wrap64 (rd l0 5))))) : Int).toNat).drop ((ji52) : Int).toNat).length ((wrap64 (6 + (Go.bits .or .i64 (wrap64 ((wrap64 (rd l0 4)) * 256)) (wrap64 (rd l0 5))))).toNat - (ji52).toNat)]) (by first | rfl | (rw [show ((l0.take ((wrap64 (6 + (Go.bits .or .i64 (wrap64 ((wrap64 (rd l0 4)) * 256)) (wrap64 (rd l0 5))))) : Int).toNat).drop ((ji52) : Int).toNat).length = ((wrap64 (6 + (Go.bits .or .i64 (wrap64 ((wrap64 (rd l0 4)) * 256)) (wrap64 (rd l0 5))))).toNat - (ji52).toNat) from (by rw [List.length_drop, List.length_take]; have h_ : ((wrap64 (6 + (Go.bits .or .i64 (wrap64 ((wrap64 (rd l0 4)) * 256)) (wrap64 (rd l0 5))))) : Int) ≤ (l0.length : Int) := of_decide_eq_true (by first | (with_reducible assumption) | assumption); omega)]; done) | (simp only [List.length_drop, List.length_take]; done) | (simp only [List.length_drop, List.length_take]; rfl)) ?_; (with_reducible refine (slices_Clone_byte_byte.calls _ _ ((l0.take ((wrap64 (6 + (Go.bits .or .i64 (wrap64 ((wrap64 (rd l0 4)) * 256)) (wrap64 (rd l0 5))))) : Int).toNat).drop ((ji52) : Int).toNat) t272 _ ?side1 ?side2 A56.out).mono ?_); (case side1 => repeat (first | exact (Kd.C_below HR271.out HB.out) | (with_reducible refine Kd.C_alloc ?_ _) | (with_reducible refine Kd.C_drewN ?_ _) | (with_reducible refine Kd.C_drew ?_))); (case side2 => exact HC271.out); rintro e w58 ⟨v273, rfl, ho0, hb⟩; have n0_ := Aside0.mk (Kd.R_lower ho0 (below_size (by repeat (first | (with_reducible first | exact HB.out | apply below_alloc | apply pw_below_drewN | apply below_drew1 | refine below_set ?_ GE246.out | refine below_set ?_ GE260.out) | exact HB.out)))); have n1_ := Aside0.mk (blk_below (g := gb246) (o := .cells #[.int .i64 0, .int .i64 0, .int .i64 0, .slice none 0 0] 30 (0, 0)) (by (with_reducible repeat (first | refine blk_drewN ?_ _ | refine blk_drew ?_ | refine blk_alloc ?_ _)); exact BK246.out) hb); have n2_ := Aside0.mk (blk_below (g := gb260) (o := .cells #[.int .i64 (wrap64 (rd l0 3)), .int .i64 x261001_30, .int .i64 x261002_30, .slice none 0 0] 30 (0, 0)) (by (with_reducible repeat (first | refine blk_drewN ?_ _ | refine blk_drew ?_ | refine blk_alloc ?_ _)); exact BK260.out) hb); have n3_ := Aside0.mk (below_step (by repeat (first | (with_reducible first | exact HB.out | apply below_alloc | apply pw_below_drewN | apply below_drew1 | refine below_set ?_ GE246.out | refine below_set ?_ GE260.out) | exact HB.out)) hb); clear BK246; clear BK260; clear HB; have HO274 := n0_; have BK246 := n1_; have BK260 := n2_; have HB := n3_; clear n0_ n1_ n2_ n3_; (try clear hb); (try clear hb2); (try clear hk); (try clear hi); (try clear ho0); obtain ⟨Ao59, co59, eo59⟩ := Kd.R_slice HO274.out; subst eo59; have hnb60 := NB260_246.out; have hnc60 := NB246_260.out; have hcz61_0 : w58.cell? ⟨gb260, 0, none⟩ = some (.int .i64 (wrap64 (rd l0 3))) := (blk_cell BK260.out 0).trans rfl; have hcz61_1 : w58.cell? ⟨gb260, 1, none⟩ = some (.int .i64 x261001_30) := (blk_cell BK260.out 1).trans rfl; have hcz61_2 : w58.cell? ⟨gb260, 2, none⟩ = some (.int .i64 x261002_30) := (blk_cell BK260.out 2).trans rfl; have hcz61_3 : w58.cell? ⟨gb260, 3, none⟩ = some (.slice none 0 0) := (blk_cell BK260.out 3).trans rfl; have hfz61_0 := blk_frozen BK260.out 0; have hfz61_1 := blk_frozen BK260.out 1; have hfz61_2 := blk_frozen BK260.out 2; have hfz61_3 := blk_frozen BK260.out 3; have hcz62_0 : w58.cell? ⟨gb246, 0, none⟩ = some (.int .i64 0) := (blk_cell BK246.out 0).trans rfl; have hcz62_1 : w58.cell? ⟨gb246, 1, none⟩ = some (.int .i64 0) := (blk_cell BK246.out 1).trans rfl; have hcz62_2 : w58.cell? ⟨gb246, 2, none⟩ = some (.int .i64 0) := (blk_cell BK246.out 2).trans rfl; have hcz62_3 : w58.cell? ⟨gb246, 3, none⟩ = some (.slice none 0 0) := (blk_cell BK246.out 3).trans rfl; have hfz62_0 := blk_frozen BK246.out 0; have hfz62_1 := blk_frozen BK246.out 1; have hfz62_2 := blk_frozen BK246.out 2; have hfz62_3 := blk_frozen BK246.out 3)))
                                    refine bodyPost_ret (results_ctt rfl _ _ gb246 30 #[.int .i64 (wrap64 (rd l0 3)), .int .i64 x261001_30, .int .i64 x261002_30, .slice Ao59 t272.length co59] (0, 0) _ rfl (by (with_reducible repeat (first | refine blk_drewN ?_ _ | refine blk_drew ?_ | refine blk_alloc ?_ _)); refine blk_put (cs := #[.int .i64 (wrap64 (rd l0 3)), .int .i64 x261001_30, .int .i64 x261002_30, .slice none 0 0]) ?_ 3 _ rfl; (with_reducible repeat (first | refine blk_drewN ?_ _ | refine blk_drew ?_ | refine blk_alloc ?_ _)); refine blk_put (cs := #[.int .i64 (wrap64 (rd l0 3)), .int .i64 x261001_30, .int .i64 0, .slice none 0 0]) ?_ 2 _ rfl; (with_reducible repeat (first | refine blk_drewN ?_ _ | refine blk_drew ?_ | refine blk_alloc ?_ _)); refine blk_put (cs := #[.int .i64 (wrap64 (rd l0 3)), .int .i64 0, .int .i64 0, .slice none 0 0]) ?_ 1 _ rfl; (with_reducible repeat (first | refine blk_drewN ?_ _ | refine blk_drew ?_ | refine blk_alloc ?_ _)); refine blk_put (cs := #[.int .i64 0, .int .i64 0, .int .i64 0, .slice none 0 0]) ?_ 0 _ rfl; (with_reducible repeat (first | refine blk_drewN ?_ _ | refine blk_drew ?_ | refine blk_alloc ?_ _)); refine blk_far ?_ NB246_260.out _; (with_reducible repeat (first | refine blk_drewN ?_ _ | refine blk_drew ?_ | refine blk_alloc ?_ _)); exact BK246.out) Try.underlying30 rfl (by kernel_rfl)) rfl ?_
                                    exact ⟨_, by first | rfl | (simp [errW_none, errW_some] <;> rfl) | (simp only [← hji52]; first | rfl | (simp [errW_none, errW_some] <;> rfl)) | (simp [*, errW_none, errW_some] <;> rfl), by (with_reducible repeat (first | apply Kd.R_alloc | apply Kd.R_drewN | apply Kd.R_drew)); exact Kd.R_mono (Kd.R_far (p := ⟨gb246, 3, none⟩) (Kd.R_far (p := ⟨gb246, 2, none⟩) (Kd.R_far (p := ⟨gb246, 1, none⟩) (Kd.R_far (p := ⟨gb246, 0, none⟩) (Kd.R_far (p := ⟨gb260, 3, none⟩) (Kd.R_types (Kd.R_types HO274.out BK260.out (by decide)) BK246.out (by decide)) (fun _ hk => hk.1.2) (.slice Ao59 t272.length co59)) (fun _ hk => hk.2) (.int .i64 (wrap64 (rd l0 3)))) (fun _ hk => hk.2) (.int .i64 x261001_30)) (fun _ hk => hk.2) (.int .i64 x261002_30)) (fun _ hk => hk.2) (.slice Ao59 t272.length co59)) (fun _ hk => trivial), by repeat (first | (with_reducible first | exact HB.out | apply below_alloc | apply pw_below_drewN | apply below_drew1 | refine below_set ?_ GE246.out | refine below_set ?_ GE260.out) | exact HB.out)⟩
                                  · rw [if_neg c55] at H
                                    exact absurd H (by simp)
                                · rw [if_neg c54] at H
                                  exact absurd H (by simp)
                              · rw [if_neg c53] at H
                                exact absurd H (by simp)
                            · replace c51 := Bool.eq_false_iff.mpr c51
                              subst c51
                              have H1 : (some (0, 0, 0, ([] : List Int), 0, 3)) = some (r1, r2, r3, r4, r5, r6) := by rw [if_neg (show ¬ (false = true) by decide)] at H; exact H
                              clear H
                              have H := H1
                              clear H1
                              simp only [Option.some.injEq, Prod.mk.injEq] at H
                              obtain ⟨rfl, rfl, rfl, rfl, rfl, rfl⟩ := H
                              have hnb63 := NB246_260.out
                              have hnc63 := NB260_246.out
                              have hcz64_0 : wc.cell? ⟨gb246, 0, none⟩ = some (.int .i64 0) := (blk_cell BK246.out 0).trans rfl
                              have hcz64_1 : wc.cell? ⟨gb246, 1, none⟩ = some (.int .i64 0) := (blk_cell BK246.out 1).trans rfl
                              have hcz64_2 : wc.cell? ⟨gb246, 2, none⟩ = some (.int .i64 0) := (blk_cell BK246.out 2).trans rfl
                              have hcz64_3 : wc.cell? ⟨gb246, 3, none⟩ = some (.slice none 0 0) := (blk_cell BK246.out 3).trans rfl
                              have hfz64_0 := blk_frozen BK246.out 0
                              have hfz64_1 := blk_frozen BK246.out 1
                              have hfz64_2 := blk_frozen BK246.out 2
                              have hfz64_3 := blk_frozen BK246.out 3
                              go_wp2
                              repeat (go_quiet (fail); try go_wp2)
                              refine bodyPost_ret (results_ctt rfl _ _ gb246 30 #[.int .i64 0, .int .i64 0, .int .i64 0, .slice none 0 0] (0, 0) _ rfl (by (with_reducible repeat (first | refine blk_drewN ?_ _ | refine blk_drew ?_ | refine blk_alloc ?_ _)); refine blk_put (cs := #[.int .i64 0, .int .i64 0, .int .i64 0, .slice none 0 0]) ?_ 3 _ rfl; (with_reducible repeat (first | refine blk_drewN ?_ _ | refine blk_drew ?_ | refine blk_alloc ?_ _)); refine blk_put (cs := #[.int .i64 0, .int .i64 0, .int .i64 0, .slice none 0 0]) ?_ 2 _ rfl; (with_reducible repeat (first | refine blk_drewN ?_ _ | refine blk_drew ?_ | refine blk_alloc ?_ _)); refine blk_put (cs := #[.int .i64 0, .int .i64 0, .int .i64 0, .slice none 0 0]) ?_ 1 _ rfl; (with_reducible repeat (first | refine blk_drewN ?_ _ | refine blk_drew ?_ | refine blk_alloc ?_ _)); refine blk_put (cs := #[.int .i64 0, .int .i64 0, .int .i64 0, .slice none 0 0]) ?_ 0 _ rfl; (with_reducible repeat (first | refine blk_drewN ?_ _ | refine blk_drew ?_ | refine blk_alloc ?_ _)); exact BK246.out) Try.underlying30 rfl (by kernel_rfl)) rfl ?_
                              exact ⟨_, by first | rfl | (simp [errW_none, errW_some] <;> rfl) | (simp [*, errW_none, errW_some] <;> rfl), by first | exact Kd.R_nil _ _ _ _ _ | exact Kd.N_nil _ _ _ _ _ | exact Kd.V_nil _ _ _ _ _ | exact Kd.Q_nil _ _ _ _ _ | exact Kd.S_nil _ _ _ _ _, by repeat (first | (with_reducible first | exact HB.out | apply below_alloc | apply pw_below_drewN | apply below_drew1 | refine below_set ?_ GE246.out | refine below_set ?_ GE260.out) | exact HB.out)⟩
                          · replace c50 := Bool.eq_false_iff.mpr c50
                            subst c50
                            have H1 : (some (0, 0, 0, ([] : List Int), 0, 3)) = some (r1, r2, r3, r4, r5, r6) := by rw [if_neg (show ¬ (false = true) by decide)] at H; exact H
                            clear H
                            have H := H1
                            clear H1
                            simp only [Option.some.injEq, Prod.mk.injEq] at H
                            obtain ⟨rfl, rfl, rfl, rfl, rfl, rfl⟩ := H
                            have hnb65 := NB246_260.out
                            have hnc65 := NB260_246.out
                            have hcz66_0 : wc.cell? ⟨gb246, 0, none⟩ = some (.int .i64 0) := (blk_cell BK246.out 0).trans rfl
                            have hcz66_1 : wc.cell? ⟨gb246, 1, none⟩ = some (.int .i64 0) := (blk_cell BK246.out 1).trans rfl
                            have hcz66_2 : wc.cell? ⟨gb246, 2, none⟩ = some (.int .i64 0) := (blk_cell BK246.out 2).trans rfl
                            have hcz66_3 : wc.cell? ⟨gb246, 3, none⟩ = some (.slice none 0 0) := (blk_cell BK246.out 3).trans rfl
                            have hfz66_0 := blk_frozen BK246.out 0
                            have hfz66_1 := blk_frozen BK246.out 1
                            have hfz66_2 := blk_frozen BK246.out 2
                            have hfz66_3 := blk_frozen BK246.out 3
                            go_wp2
                            repeat (go_quiet (fail); try go_wp2)
                            refine bodyPost_ret (results_ctt rfl _ _ gb246 30 #[.int .i64 0, .int .i64 0, .int .i64 0, .slice none 0 0] (0, 0) _ rfl (by (with_reducible repeat (first | refine blk_drewN ?_ _ | refine blk_drew ?_ | refine blk_alloc ?_ _)); refine blk_put (cs := #[.int .i64 0, .int .i64 0, .int .i64 0, .slice none 0 0]) ?_ 3 _ rfl; (with_reducible repeat (first | refine blk_drewN ?_ _ | refine blk_drew ?_ | refine blk_alloc ?_ _)); refine blk_put (cs := #[.int .i64 0, .int .i64 0, .int .i64 0, .slice none 0 0]) ?_ 2 _ rfl; (with_reducible repeat (first | refine blk_drewN ?_ _ | refine blk_drew ?_ | refine blk_alloc ?_ _)); refine blk_put (cs := #[.int .i64 0, .int .i64 0, .int .i64 0, .slice none 0 0]) ?_ 1 _ rfl; (with_reducible repeat (first | refine blk_drewN ?_ _ | refine blk_drew ?_ | refine blk_alloc ?_ _)); refine blk_put (cs := #[.int .i64 0, .int .i64 0, .int .i64 0, .slice none 0 0]) ?_ 0 _ rfl; (with_reducible repeat (first | refine blk_drewN ?_ _ | refine blk_drew ?_ | refine blk_alloc ?_ _)); exact BK246.out) Try.underlying30 rfl (by kernel_rfl)) rfl ?_
                            exact ⟨_, by first | rfl | (simp [errW_none, errW_some] <;> rfl) | (simp [*, errW_none, errW_some] <;> rfl), by first | exact Kd.R_nil _ _ _ _ _ | exact Kd.N_nil _ _ _ _ _ | exact Kd.V_nil _ _ _ _ _ | exact Kd.Q_nil _ _ _ _ _ | exact Kd.S_nil _ _ _ _ _, by repeat (first | (with_reducible first | exact HB.out | apply below_alloc | apply pw_below_drewN | apply below_drew1 | refine below_set ?_ GE246.out | refine below_set ?_ GE260.out) | exact HB.out)⟩
                    · rw [if_neg c30] at H
                      exact absurd H (by simp)
                  · rw [if_neg c29] at H
                    exact absurd H (by simp)
        · rw [if_neg c7] at H
          exact absurd H (by simp)
      · rw [if_neg c6] at H
        exact absurd H (by simp)
    · rw [if_neg c5] at H
      exact absurd H (by simp)

end Go.Proofs.Ytdkibpdgnocgaaa.PPesPuts
