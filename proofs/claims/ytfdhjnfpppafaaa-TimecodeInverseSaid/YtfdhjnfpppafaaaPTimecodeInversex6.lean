-- Written for this claim by a turned copy of the kit's print (wip/printx/mk.py). By an AI agent.
import Derived.Test.YtfdhjnfpppafaaaPTimecodeInversex0
import Derived.Test.YtfdhjnfpppafaaaPTimecodeInversex2
import Derived.Test.YtfdhjnfpppafaaaPTimecodeInversex3
import Derived.Test.YtfdhjnfpppafaaaPTimecodeInversex4
import Derived.Test.YtfdhjnfpppafaaaPTimecodeInversex5
namespace Go.Proofs.Ytfdhjnfpppafaaa.PTimecodeInverse
open Go.RowKit Go.Proofs.YtfdhjnfpppafaaaW.PrintWords Go.Proofs.YtfdhjnfpppafaaaW.PrintLast Go.Proofs.YtfdhjnfpppafaaaW.PrintMore
attribute [local go_sem] max2_int min2_int max_two min_two max_three min_three max_four min_four   -- for this text's walks alone
set_option linter.unusedVariables false
set_option linter.unusedSimpArgs false

attribute [local go_sem high] eqA34
/-! ### cutroomlaw19_awake: function 20 -/
def cutroomlaw19_awake.f (k : Nat)  : Option (Bool) := (timecode_Label.f k 1800 30 true).bind fun bt158 => ((timecode_Format.f k bt158.1 bt158.2.1 bt158.2.2.1 bt158.2.2.2.1 bt158.2.2.2.2.1 bt158.2.2.2.2.2.1).bind fun bt166 => ((timecode_Base.f k 30000 1001).bind fun bt168 => ((timecode_Day.f k 30 true).bind fun bt170 => (if bt158.2.2.2.2.2.2 = 0 then (if bt166.2 = 0 then (if bt166.1.toList = ([48, 48, 58, 48, 49, 58, 48, 48, 59, 48, 50] : List UInt8) then (if bt168.1 = 30 then (if bt168.2 = 0 then (if bt170.1 = 2589408 then (some (bt170.2 == 0)) else (some false)) else (some false)) else (some false)) else (some false)) else (some false)) else (some false)))))
theorem cutroomlaw19_awake.mono : ∀ k, LeO (cutroomlaw19_awake.f k ) (cutroomlaw19_awake.f (k + 1) ) := by
  intro  k
  unfold cutroomlaw19_awake.f
  repeat' first
      | (with_reducible exact timecode_Base.mono _ _ _)
      | (with_reducible exact timecode_Day.mono _ _ _)
      | (with_reducible exact timecode_Format.mono _ _ _ _ _ _ _)
      | (with_reducible exact timecode_Label.mono _ _ _ _)
      | (with_reducible exact LeO.refl _)
      | (with_reducible exact LeO.none _)
      | (with_reducible refine LeO.ite ?_ ?_)
      | (with_reducible refine LeO.bind ?_ (fun _ => ?_))
      | exact timecode_Base.mono _ _ _
      | exact timecode_Day.mono _ _ _
      | exact timecode_Format.mono _ _ _ _ _ _ _
      | exact timecode_Label.mono _ _ _ _
      | exact LeO.none _
      | refine LeO.ite ?_ ?_
      | refine LeO.bind ?_ (fun _ => ?_)
set_option maxHeartbeats 8000000 in
set_option maxRecDepth 100000 in
theorem cutroomlaw19_awake.calls (k : Nat)  (r : Bool) (w : World) (h : cutroomlaw19_awake.f k  = some r) :
    Calls Try.prog 20 #[] w fun e w' => e = .returned (.bool r) ∧ Below w.heap.size w w' := by
  have hu34 := Try.underlying34
  have hu23 := Try.underlying23
  have HB := Aside0.mk (Below.refl w.heap.size w)
  have H : ((timecode_Label.f k 1800 30 true).bind fun bt158 => ((timecode_Format.f k bt158.1 bt158.2.1 bt158.2.2.1 bt158.2.2.2.1 bt158.2.2.2.2.1 bt158.2.2.2.2.2.1).bind fun bt166 => ((timecode_Base.f k 30000 1001).bind fun bt168 => ((timecode_Day.f k 30 true).bind fun bt170 => (if bt158.2.2.2.2.2.2 = 0 then (if bt166.2 = 0 then (if bt166.1.toList = ([48, 48, 58, 48, 49, 58, 48, 48, 59, 48, 50] : List UInt8) then (if bt168.1 = 30 then (if bt168.2 = 0 then (if bt170.1 = 2589408 then (some (bt170.2 == 0)) else (some false)) else (some false)) else (some false)) else (some false)) else (some false)) else (some false)))))) = some r := h
  clear h
  replace H := Option.bind_eq_some_iff.mp H
  obtain ⟨⟨t158, t159, t160, t161, t162, t163, t164⟩, A10, H⟩ := H
  replace H : ((timecode_Format.f k t158 t159 t160 t161 t162 t163).bind fun bt166 => ((timecode_Base.f k 30000 1001).bind fun bt168 => ((timecode_Day.f k 30 true).bind fun bt170 => (if t164 = 0 then (if bt166.2 = 0 then (if bt166.1.toList = ([48, 48, 58, 48, 49, 58, 48, 48, 59, 48, 50] : List UInt8) then (if bt168.1 = 30 then (if bt168.2 = 0 then (if bt170.1 = 2589408 then (some (bt170.2 == 0)) else (some false)) else (some false)) else (some false)) else (some false)) else (some false)) else (some false))))) = some r := H
  have A1 := Aside0.mk A10
  clear A10
  replace H := Option.bind_eq_some_iff.mp H
  obtain ⟨⟨t166, t167⟩, A20, H⟩ := H
  replace H : ((timecode_Base.f k 30000 1001).bind fun bt168 => ((timecode_Day.f k 30 true).bind fun bt170 => (if t164 = 0 then (if t167 = 0 then (if t166.toList = ([48, 48, 58, 48, 49, 58, 48, 48, 59, 48, 50] : List UInt8) then (if bt168.1 = 30 then (if bt168.2 = 0 then (if bt170.1 = 2589408 then (some (bt170.2 == 0)) else (some false)) else (some false)) else (some false)) else (some false)) else (some false)) else (some false)))) = some r := H
  have A2 := Aside0.mk A20
  clear A20
  replace H := Option.bind_eq_some_iff.mp H
  obtain ⟨⟨t168, t169⟩, A30, H⟩ := H
  replace H : ((timecode_Day.f k 30 true).bind fun bt170 => (if t164 = 0 then (if t167 = 0 then (if t166.toList = ([48, 48, 58, 48, 49, 58, 48, 48, 59, 48, 50] : List UInt8) then (if t168 = 30 then (if t169 = 0 then (if bt170.1 = 2589408 then (some (bt170.2 == 0)) else (some false)) else (some false)) else (some false)) else (some false)) else (some false)) else (some false))) = some r := H
  have A3 := Aside0.mk A30
  clear A30
  replace H := Option.bind_eq_some_iff.mp H
  obtain ⟨⟨t170, t171⟩, A40, H⟩ := H
  replace H : (if t164 = 0 then (if t167 = 0 then (if t166.toList = ([48, 48, 58, 48, 49, 58, 48, 48, 59, 48, 50] : List UInt8) then (if t168 = 30 then (if t169 = 0 then (if t170 = 2589408 then (some (t171 == 0)) else (some false)) else (some false)) else (some false)) else (some false)) else (some false)) else (some false)) = some r := H
  have A4 := Aside0.mk A40
  clear A40
  by_cases c5 : t164 = 0
  · rw [if_pos c5] at H
    have c5b0 : (t164 == 0) = true := beq_iff_eq.mpr c5
    have c5b1 : (t164 != 0) = false := bne_eq_false_iff_eq.mpr c5
    clear c5
    by_cases c6 : t167 = 0
    · rw [if_pos c6] at H
      have c6b0 : (t167 == 0) = true := beq_iff_eq.mpr c6
      have c6b1 : (t167 != 0) = false := bne_eq_false_iff_eq.mpr c6
      clear c6
      by_cases c7 : t166.toList = ([48, 48, 58, 48, 49, 58, 48, 48, 59, 48, 50] : List UInt8)
      · rw [if_pos c7] at H
        have c7b0 : (t166.toList == ([48, 48, 58, 48, 49, 58, 48, 48, 59, 48, 50] : List UInt8)) = true := beq_iff_eq.mpr c7
        have c7b1 : (t166.toList != ([48, 48, 58, 48, 49, 58, 48, 48, 59, 48, 50] : List UInt8)) = false := bne_eq_false_iff_eq.mpr c7
        clear c7
        by_cases c8 : t168 = 30
        · rw [if_pos c8] at H
          have c8b0 : (t168 == 30) = true := beq_iff_eq.mpr c8
          have c8b1 : (t168 != 30) = false := bne_eq_false_iff_eq.mpr c8
          clear c8
          by_cases c9 : t169 = 0
          · rw [if_pos c9] at H
            have c9b0 : (t169 == 0) = true := beq_iff_eq.mpr c9
            have c9b1 : (t169 != 0) = false := bne_eq_false_iff_eq.mpr c9
            clear c9
            by_cases c10 : t170 = 2589408
            · rw [if_pos c10] at H
              have c10b0 : (t170 == 2589408) = true := beq_iff_eq.mpr c10
              have c10b1 : (t170 != 2589408) = false := bne_eq_false_iff_eq.mpr c10
              clear c10
              obtain rfl := Option.some.inj H
              go_enter Try.func20, Try.ntmps20
              go_wp2_with (first | ((with_reducible refine gate_callee (f := 23) rfl ?_); refine goesL_ (some 10) rfl rfl Try.func23 (by kernel_rfl) rfl #[.int .i64 1800, .int .i64 30, .bool true] rfl (by (try simp only [List.map_toArray, List.map_cons, List.map_nil]); first | done | rfl | (simp only [List.length_drop, List.length_take]; rfl)) ?_; (with_reducible refine (timecode_Label.calls k 1800 30 true t158 t159 t160 t161 t162 t163 t164 _ A1.out).mono ?_); rintro e w11 ⟨rfl, hb⟩; refine ⟨_, rfl, ?_⟩; have n0_ := Aside0.mk (below_step (by repeat (first | (with_reducible first | exact HB.out | apply below_alloc | apply pw_below_drewN | apply below_drew1) | exact HB.out)) hb); clear HB; have HB := n0_; clear n0_; (try clear hb); (try clear hb2); (try clear hk); (try clear hi)) | ((with_reducible refine gate_dst (N := 1) rfl ?_); refine box_event ?hg (N := 1) ?hd (cs := #[.int .i64 0, .int .i64 0, .int .i64 0, .int .i64 0, .int .i64 0, .bool false]) (t := 34) ?hr ?_; (case hd => rfl); (case hg => rfl); (case hr => first | (go_simp; done) | (go_simp; rfl)); intro gb165 hg w12 hbox hb; have n0_ := Aside0.mk (below_step (by repeat (first | (with_reducible first | exact HB.out | apply below_alloc | apply pw_below_drewN | apply below_drew1) | exact HB.out)) hb); have n1_ := Aside0.mk (hbox); have n2_ := Aside0.mk ((by rw [hg]; exact (below_size (by repeat (first | (with_reducible first | exact HB.out | apply below_alloc | apply pw_below_drewN | apply below_drew1) | exact HB.out))) : w.heap.size ≤ gb165)); have n3_ := Aside0.mk ((by rw [hg]; exact (below_size (by repeat (first | (with_reducible first | exact HB.out | apply below_alloc | apply pw_below_drewN | apply below_drew1) | exact HB.out))) : w.heap.size ≤ gb165)); clear HB; have HB := n0_; have BK165 := n1_; have GW165 := n2_; have GE165 := n3_; clear n0_ n1_ n2_ n3_; clear hb hbox hg; have hcz13_0 : w12.cell? ⟨gb165, 0, none⟩ = some (.int .i64 0) := (blk_cell BK165.out 0).trans rfl; have hcz13_1 : w12.cell? ⟨gb165, 1, none⟩ = some (.int .i64 0) := (blk_cell BK165.out 1).trans rfl; have hcz13_2 : w12.cell? ⟨gb165, 2, none⟩ = some (.int .i64 0) := (blk_cell BK165.out 2).trans rfl; have hcz13_3 : w12.cell? ⟨gb165, 3, none⟩ = some (.int .i64 0) := (blk_cell BK165.out 3).trans rfl; have hcz13_4 : w12.cell? ⟨gb165, 4, none⟩ = some (.int .i64 0) := (blk_cell BK165.out 4).trans rfl; have hcz13_5 : w12.cell? ⟨gb165, 5, none⟩ = some (.bool false) := (blk_cell BK165.out 5).trans rfl; have hfz13_0 := blk_frozen BK165.out 0; have hfz13_1 := blk_frozen BK165.out 1; have hfz13_2 := blk_frozen BK165.out 2; have hfz13_3 := blk_frozen BK165.out 3; have hfz13_4 := blk_frozen BK165.out 4; have hfz13_5 := blk_frozen BK165.out 5) | ((with_reducible refine gate_callee (f := 30) rfl ?_); refine goesL_ (some 15) rfl rfl Try.func30 (by kernel_rfl) rfl #[.agg #[.int .i64 t158, .int .i64 t159, .int .i64 t160, .int .i64 t161, .int .i64 t162, .bool t163]] rfl (by (try simp only [List.map_toArray, List.map_cons, List.map_nil]); first | done | rfl | (simp only [List.length_drop, List.length_take]; rfl)) ?_; (with_reducible refine (timecode_Format.calls k t158 t159 t160 t161 t162 t163 t166 t167 _ A2.out).mono ?_); rintro e w14 ⟨rfl, hb⟩; refine ⟨_, rfl, ?_⟩; have n0_ := Aside0.mk (blk_below (g := gb165) (o := .cells #[.int .i64 t158, .int .i64 t159, .int .i64 t160, .int .i64 t161, .int .i64 t162, .bool t163] 34 (0, 0)) (by (with_reducible repeat (first | refine blk_drewN ?_ _ | refine blk_drew ?_ | refine blk_alloc ?_ _)); refine blk_put (cs := #[.int .i64 t158, .int .i64 t159, .int .i64 t160, .int .i64 t161, .int .i64 t162, .bool false]) ?_ 5 _ rfl; (with_reducible repeat (first | refine blk_drewN ?_ _ | refine blk_drew ?_ | refine blk_alloc ?_ _)); refine blk_put (cs := #[.int .i64 t158, .int .i64 t159, .int .i64 t160, .int .i64 t161, .int .i64 0, .bool false]) ?_ 4 _ rfl; (with_reducible repeat (first | refine blk_drewN ?_ _ | refine blk_drew ?_ | refine blk_alloc ?_ _)); refine blk_put (cs := #[.int .i64 t158, .int .i64 t159, .int .i64 t160, .int .i64 0, .int .i64 0, .bool false]) ?_ 3 _ rfl; (with_reducible repeat (first | refine blk_drewN ?_ _ | refine blk_drew ?_ | refine blk_alloc ?_ _)); refine blk_put (cs := #[.int .i64 t158, .int .i64 t159, .int .i64 0, .int .i64 0, .int .i64 0, .bool false]) ?_ 2 _ rfl; (with_reducible repeat (first | refine blk_drewN ?_ _ | refine blk_drew ?_ | refine blk_alloc ?_ _)); refine blk_put (cs := #[.int .i64 t158, .int .i64 0, .int .i64 0, .int .i64 0, .int .i64 0, .bool false]) ?_ 1 _ rfl; (with_reducible repeat (first | refine blk_drewN ?_ _ | refine blk_drew ?_ | refine blk_alloc ?_ _)); refine blk_put (cs := #[.int .i64 0, .int .i64 0, .int .i64 0, .int .i64 0, .int .i64 0, .bool false]) ?_ 0 _ rfl; (with_reducible repeat (first | refine blk_drewN ?_ _ | refine blk_drew ?_ | refine blk_alloc ?_ _)); exact BK165.out) hb); have n1_ := Aside0.mk (below_step (by repeat (first | (with_reducible first | exact HB.out | apply below_alloc | apply pw_below_drewN | apply below_drew1 | refine below_set ?_ GE165.out) | exact HB.out)) hb); clear BK165; clear HB; have BK165 := n0_; have HB := n1_; clear n0_ n1_; (try clear hb); (try clear hb2); (try clear hk); (try clear hi)) | ((with_reducible refine gate_callee (f := 17) rfl ?_); refine goesL_ (some 20) rfl rfl Try.func17 (by kernel_rfl) rfl #[.agg #[.int .i64 30000, .int .i64 1001]] rfl (by (try simp only [List.map_toArray, List.map_cons, List.map_nil]); first | done | rfl | (simp only [List.length_drop, List.length_take]; rfl)) ?_; (with_reducible refine (timecode_Base.calls k 30000 1001 t168 t169 _ A3.out).mono ?_); rintro e w15 ⟨rfl, hb⟩; refine ⟨_, rfl, ?_⟩; have n0_ := Aside0.mk (blk_below (g := gb165) (o := .cells #[.int .i64 t158, .int .i64 t159, .int .i64 t160, .int .i64 t161, .int .i64 t162, .bool t163] 34 (0, 0)) (by (with_reducible repeat (first | refine blk_drewN ?_ _ | refine blk_drew ?_ | refine blk_alloc ?_ _)); exact BK165.out) hb); have n1_ := Aside0.mk (below_step (by repeat (first | (with_reducible first | exact HB.out | apply below_alloc | apply pw_below_drewN | apply below_drew1 | refine below_set ?_ GE165.out) | exact HB.out)) hb); clear BK165; clear HB; have BK165 := n0_; have HB := n1_; clear n0_ n1_; (try clear hb); (try clear hb2); (try clear hk); (try clear hi)) | ((with_reducible refine gate_callee (f := 21) rfl ?_); refine goesL_ (some 24) rfl rfl Try.func21 (by kernel_rfl) rfl #[.int .i64 30, .bool true] rfl (by (try simp only [List.map_toArray, List.map_cons, List.map_nil]); first | done | rfl | (simp only [List.length_drop, List.length_take]; rfl)) ?_; (with_reducible refine (timecode_Day.calls k 30 true t170 t171 _ A4.out).mono ?_); rintro e w16 ⟨rfl, hb⟩; refine ⟨_, rfl, ?_⟩; have n0_ := Aside0.mk (blk_below (g := gb165) (o := .cells #[.int .i64 t158, .int .i64 t159, .int .i64 t160, .int .i64 t161, .int .i64 t162, .bool t163] 34 (0, 0)) (by (with_reducible repeat (first | refine blk_drewN ?_ _ | refine blk_drew ?_ | refine blk_alloc ?_ _)); exact BK165.out) hb); have n1_ := Aside0.mk (below_step (by repeat (first | (with_reducible first | exact HB.out | apply below_alloc | apply pw_below_drewN | apply below_drew1 | refine below_set ?_ GE165.out) | exact HB.out)) hb); clear BK165; clear HB; have BK165 := n0_; have HB := n1_; clear n0_ n1_; (try clear hb); (try clear hb2); (try clear hk); (try clear hi)))
              go_ret
              exact ⟨by first | rfl | (simp [errW_none, errW_some] <;> rfl) | (simp [*, errW_none, errW_some] <;> rfl), by repeat (first | (with_reducible first | exact HB.out | apply below_alloc | apply pw_below_drewN | apply below_drew1 | refine below_set ?_ GE165.out) | exact HB.out)⟩
            · rw [if_neg c10] at H
              have c10b0 : (t170 == 2589408) = false := beq_eq_false_iff_ne.mpr c10
              have c10b1 : (t170 != 2589408) = true := bne_iff_ne.mpr c10
              obtain rfl := Option.some.inj H
              go_enter Try.func20, Try.ntmps20
              go_wp2_with (first | ((with_reducible refine gate_callee (f := 23) rfl ?_); refine goesL_ (some 10) rfl rfl Try.func23 (by kernel_rfl) rfl #[.int .i64 1800, .int .i64 30, .bool true] rfl (by (try simp only [List.map_toArray, List.map_cons, List.map_nil]); first | done | rfl | (simp only [List.length_drop, List.length_take]; rfl)) ?_; (with_reducible refine (timecode_Label.calls k 1800 30 true t158 t159 t160 t161 t162 t163 t164 _ A1.out).mono ?_); rintro e w17 ⟨rfl, hb⟩; refine ⟨_, rfl, ?_⟩; have n0_ := Aside0.mk (below_step (by repeat (first | (with_reducible first | exact HB.out | apply below_alloc | apply pw_below_drewN | apply below_drew1) | exact HB.out)) hb); clear HB; have HB := n0_; clear n0_; (try clear hb); (try clear hb2); (try clear hk); (try clear hi)) | ((with_reducible refine gate_dst (N := 1) rfl ?_); refine box_event ?hg (N := 1) ?hd (cs := #[.int .i64 0, .int .i64 0, .int .i64 0, .int .i64 0, .int .i64 0, .bool false]) (t := 34) ?hr ?_; (case hd => rfl); (case hg => rfl); (case hr => first | (go_simp; done) | (go_simp; rfl)); intro gb165 hg w18 hbox hb; have n0_ := Aside0.mk (below_step (by repeat (first | (with_reducible first | exact HB.out | apply below_alloc | apply pw_below_drewN | apply below_drew1) | exact HB.out)) hb); have n1_ := Aside0.mk (hbox); have n2_ := Aside0.mk ((by rw [hg]; exact (below_size (by repeat (first | (with_reducible first | exact HB.out | apply below_alloc | apply pw_below_drewN | apply below_drew1) | exact HB.out))) : w.heap.size ≤ gb165)); have n3_ := Aside0.mk ((by rw [hg]; exact (below_size (by repeat (first | (with_reducible first | exact HB.out | apply below_alloc | apply pw_below_drewN | apply below_drew1) | exact HB.out))) : w.heap.size ≤ gb165)); clear HB; have HB := n0_; have BK165 := n1_; have GW165 := n2_; have GE165 := n3_; clear n0_ n1_ n2_ n3_; clear hb hbox hg; have hcz19_0 : w18.cell? ⟨gb165, 0, none⟩ = some (.int .i64 0) := (blk_cell BK165.out 0).trans rfl; have hcz19_1 : w18.cell? ⟨gb165, 1, none⟩ = some (.int .i64 0) := (blk_cell BK165.out 1).trans rfl; have hcz19_2 : w18.cell? ⟨gb165, 2, none⟩ = some (.int .i64 0) := (blk_cell BK165.out 2).trans rfl; have hcz19_3 : w18.cell? ⟨gb165, 3, none⟩ = some (.int .i64 0) := (blk_cell BK165.out 3).trans rfl; have hcz19_4 : w18.cell? ⟨gb165, 4, none⟩ = some (.int .i64 0) := (blk_cell BK165.out 4).trans rfl; have hcz19_5 : w18.cell? ⟨gb165, 5, none⟩ = some (.bool false) := (blk_cell BK165.out 5).trans rfl; have hfz19_0 := blk_frozen BK165.out 0; have hfz19_1 := blk_frozen BK165.out 1; have hfz19_2 := blk_frozen BK165.out 2; have hfz19_3 := blk_frozen BK165.out 3; have hfz19_4 := blk_frozen BK165.out 4; have hfz19_5 := blk_frozen BK165.out 5) | ((with_reducible refine gate_callee (f := 30) rfl ?_); refine goesL_ (some 15) rfl rfl Try.func30 (by kernel_rfl) rfl #[.agg #[.int .i64 t158, .int .i64 t159, .int .i64 t160, .int .i64 t161, .int .i64 t162, .bool t163]] rfl (by (try simp only [List.map_toArray, List.map_cons, List.map_nil]); first | done | rfl | (simp only [List.length_drop, List.length_take]; rfl)) ?_; (with_reducible refine (timecode_Format.calls k t158 t159 t160 t161 t162 t163 t166 t167 _ A2.out).mono ?_); rintro e w20 ⟨rfl, hb⟩; refine ⟨_, rfl, ?_⟩; have n0_ := Aside0.mk (blk_below (g := gb165) (o := .cells #[.int .i64 t158, .int .i64 t159, .int .i64 t160, .int .i64 t161, .int .i64 t162, .bool t163] 34 (0, 0)) (by (with_reducible repeat (first | refine blk_drewN ?_ _ | refine blk_drew ?_ | refine blk_alloc ?_ _)); refine blk_put (cs := #[.int .i64 t158, .int .i64 t159, .int .i64 t160, .int .i64 t161, .int .i64 t162, .bool false]) ?_ 5 _ rfl; (with_reducible repeat (first | refine blk_drewN ?_ _ | refine blk_drew ?_ | refine blk_alloc ?_ _)); refine blk_put (cs := #[.int .i64 t158, .int .i64 t159, .int .i64 t160, .int .i64 t161, .int .i64 0, .bool false]) ?_ 4 _ rfl; (with_reducible repeat (first | refine blk_drewN ?_ _ | refine blk_drew ?_ | refine blk_alloc ?_ _)); refine blk_put (cs := #[.int .i64 t158, .int .i64 t159, .int .i64 t160, .int .i64 0, .int .i64 0, .bool false]) ?_ 3 _ rfl; (with_reducible repeat (first | refine blk_drewN ?_ _ | refine blk_drew ?_ | refine blk_alloc ?_ _)); refine blk_put (cs := #[.int .i64 t158, .int .i64 t159, .int .i64 0, .int .i64 0, .int .i64 0, .bool false]) ?_ 2 _ rfl; (with_reducible repeat (first | refine blk_drewN ?_ _ | refine blk_drew ?_ | refine blk_alloc ?_ _)); refine blk_put (cs := #[.int .i64 t158, .int .i64 0, .int .i64 0, .int .i64 0, .int .i64 0, .bool false]) ?_ 1 _ rfl; (with_reducible repeat (first | refine blk_drewN ?_ _ | refine blk_drew ?_ | refine blk_alloc ?_ _)); refine blk_put (cs := #[.int .i64 0, .int .i64 0, .int .i64 0, .int .i64 0, .int .i64 0, .bool false]) ?_ 0 _ rfl; (with_reducible repeat (first | refine blk_drewN ?_ _ | refine blk_drew ?_ | refine blk_alloc ?_ _)); exact BK165.out) hb); have n1_ := Aside0.mk (below_step (by repeat (first | (with_reducible first | exact HB.out | apply below_alloc | apply pw_below_drewN | apply below_drew1 | refine below_set ?_ GE165.out) | exact HB.out)) hb); clear BK165; clear HB; have BK165 := n0_; have HB := n1_; clear n0_ n1_; (try clear hb); (try clear hb2); (try clear hk); (try clear hi)) | ((with_reducible refine gate_callee (f := 17) rfl ?_); refine goesL_ (some 20) rfl rfl Try.func17 (by kernel_rfl) rfl #[.agg #[.int .i64 30000, .int .i64 1001]] rfl (by (try simp only [List.map_toArray, List.map_cons, List.map_nil]); first | done | rfl | (simp only [List.length_drop, List.length_take]; rfl)) ?_; (with_reducible refine (timecode_Base.calls k 30000 1001 t168 t169 _ A3.out).mono ?_); rintro e w21 ⟨rfl, hb⟩; refine ⟨_, rfl, ?_⟩; have n0_ := Aside0.mk (blk_below (g := gb165) (o := .cells #[.int .i64 t158, .int .i64 t159, .int .i64 t160, .int .i64 t161, .int .i64 t162, .bool t163] 34 (0, 0)) (by (with_reducible repeat (first | refine blk_drewN ?_ _ | refine blk_drew ?_ | refine blk_alloc ?_ _)); exact BK165.out) hb); have n1_ := Aside0.mk (below_step (by repeat (first | (with_reducible first | exact HB.out | apply below_alloc | apply pw_below_drewN | apply below_drew1 | refine below_set ?_ GE165.out) | exact HB.out)) hb); clear BK165; clear HB; have BK165 := n0_; have HB := n1_; clear n0_ n1_; (try clear hb); (try clear hb2); (try clear hk); (try clear hi)) | ((with_reducible refine gate_callee (f := 21) rfl ?_); refine goesL_ (some 24) rfl rfl Try.func21 (by kernel_rfl) rfl #[.int .i64 30, .bool true] rfl (by (try simp only [List.map_toArray, List.map_cons, List.map_nil]); first | done | rfl | (simp only [List.length_drop, List.length_take]; rfl)) ?_; (with_reducible refine (timecode_Day.calls k 30 true t170 t171 _ A4.out).mono ?_); rintro e w22 ⟨rfl, hb⟩; refine ⟨_, rfl, ?_⟩; have n0_ := Aside0.mk (blk_below (g := gb165) (o := .cells #[.int .i64 t158, .int .i64 t159, .int .i64 t160, .int .i64 t161, .int .i64 t162, .bool t163] 34 (0, 0)) (by (with_reducible repeat (first | refine blk_drewN ?_ _ | refine blk_drew ?_ | refine blk_alloc ?_ _)); exact BK165.out) hb); have n1_ := Aside0.mk (below_step (by repeat (first | (with_reducible first | exact HB.out | apply below_alloc | apply pw_below_drewN | apply below_drew1 | refine below_set ?_ GE165.out) | exact HB.out)) hb); clear BK165; clear HB; have BK165 := n0_; have HB := n1_; clear n0_ n1_; (try clear hb); (try clear hb2); (try clear hk); (try clear hi)))
              go_ret
              exact ⟨by first | rfl | (simp [errW_none, errW_some] <;> rfl) | (simp [*, errW_none, errW_some] <;> rfl), by repeat (first | (with_reducible first | exact HB.out | apply below_alloc | apply pw_below_drewN | apply below_drew1 | refine below_set ?_ GE165.out) | exact HB.out)⟩
          · rw [if_neg c9] at H
            have c9b0 : (t169 == 0) = false := beq_eq_false_iff_ne.mpr c9
            have c9b1 : (t169 != 0) = true := bne_iff_ne.mpr c9
            obtain rfl := Option.some.inj H
            go_enter Try.func20, Try.ntmps20
            go_wp2_with (first | ((with_reducible refine gate_callee (f := 23) rfl ?_); refine goesL_ (some 10) rfl rfl Try.func23 (by kernel_rfl) rfl #[.int .i64 1800, .int .i64 30, .bool true] rfl (by (try simp only [List.map_toArray, List.map_cons, List.map_nil]); first | done | rfl | (simp only [List.length_drop, List.length_take]; rfl)) ?_; (with_reducible refine (timecode_Label.calls k 1800 30 true t158 t159 t160 t161 t162 t163 t164 _ A1.out).mono ?_); rintro e w23 ⟨rfl, hb⟩; refine ⟨_, rfl, ?_⟩; have n0_ := Aside0.mk (below_step (by repeat (first | (with_reducible first | exact HB.out | apply below_alloc | apply pw_below_drewN | apply below_drew1) | exact HB.out)) hb); clear HB; have HB := n0_; clear n0_; (try clear hb); (try clear hb2); (try clear hk); (try clear hi)) | ((with_reducible refine gate_dst (N := 1) rfl ?_); refine box_event ?hg (N := 1) ?hd (cs := #[.int .i64 0, .int .i64 0, .int .i64 0, .int .i64 0, .int .i64 0, .bool false]) (t := 34) ?hr ?_; (case hd => rfl); (case hg => rfl); (case hr => first | (go_simp; done) | (go_simp; rfl)); intro gb165 hg w24 hbox hb; have n0_ := Aside0.mk (below_step (by repeat (first | (with_reducible first | exact HB.out | apply below_alloc | apply pw_below_drewN | apply below_drew1) | exact HB.out)) hb); have n1_ := Aside0.mk (hbox); have n2_ := Aside0.mk ((by rw [hg]; exact (below_size (by repeat (first | (with_reducible first | exact HB.out | apply below_alloc | apply pw_below_drewN | apply below_drew1) | exact HB.out))) : w.heap.size ≤ gb165)); have n3_ := Aside0.mk ((by rw [hg]; exact (below_size (by repeat (first | (with_reducible first | exact HB.out | apply below_alloc | apply pw_below_drewN | apply below_drew1) | exact HB.out))) : w.heap.size ≤ gb165)); clear HB; have HB := n0_; have BK165 := n1_; have GW165 := n2_; have GE165 := n3_; clear n0_ n1_ n2_ n3_; clear hb hbox hg; have hcz25_0 : w24.cell? ⟨gb165, 0, none⟩ = some (.int .i64 0) := (blk_cell BK165.out 0).trans rfl; have hcz25_1 : w24.cell? ⟨gb165, 1, none⟩ = some (.int .i64 0) := (blk_cell BK165.out 1).trans rfl; have hcz25_2 : w24.cell? ⟨gb165, 2, none⟩ = some (.int .i64 0) := (blk_cell BK165.out 2).trans rfl; have hcz25_3 : w24.cell? ⟨gb165, 3, none⟩ = some (.int .i64 0) := (blk_cell BK165.out 3).trans rfl; have hcz25_4 : w24.cell? ⟨gb165, 4, none⟩ = some (.int .i64 0) := (blk_cell BK165.out 4).trans rfl; have hcz25_5 : w24.cell? ⟨gb165, 5, none⟩ = some (.bool false) := (blk_cell BK165.out 5).trans rfl; have hfz25_0 := blk_frozen BK165.out 0; have hfz25_1 := blk_frozen BK165.out 1; have hfz25_2 := blk_frozen BK165.out 2; have hfz25_3 := blk_frozen BK165.out 3; have hfz25_4 := blk_frozen BK165.out 4; have hfz25_5 := blk_frozen BK165.out 5) | ((with_reducible refine gate_callee (f := 30) rfl ?_); refine goesL_ (some 15) rfl rfl Try.func30 (by kernel_rfl) rfl #[.agg #[.int .i64 t158, .int .i64 t159, .int .i64 t160, .int .i64 t161, .int .i64 t162, .bool t163]] rfl (by (try simp only [List.map_toArray, List.map_cons, List.map_nil]); first | done | rfl | (simp only [List.length_drop, List.length_take]; rfl)) ?_; (with_reducible refine (timecode_Format.calls k t158 t159 t160 t161 t162 t163 t166 t167 _ A2.out).mono ?_); rintro e w26 ⟨rfl, hb⟩; refine ⟨_, rfl, ?_⟩; have n0_ := Aside0.mk (blk_below (g := gb165) (o := .cells #[.int .i64 t158, .int .i64 t159, .int .i64 t160, .int .i64 t161, .int .i64 t162, .bool t163] 34 (0, 0)) (by (with_reducible repeat (first | refine blk_drewN ?_ _ | refine blk_drew ?_ | refine blk_alloc ?_ _)); refine blk_put (cs := #[.int .i64 t158, .int .i64 t159, .int .i64 t160, .int .i64 t161, .int .i64 t162, .bool false]) ?_ 5 _ rfl; (with_reducible repeat (first | refine blk_drewN ?_ _ | refine blk_drew ?_ | refine blk_alloc ?_ _)); refine blk_put (cs := #[.int .i64 t158, .int .i64 t159, .int .i64 t160, .int .i64 t161, .int .i64 0, .bool false]) ?_ 4 _ rfl; (with_reducible repeat (first | refine blk_drewN ?_ _ | refine blk_drew ?_ | refine blk_alloc ?_ _)); refine blk_put (cs := #[.int .i64 t158, .int .i64 t159, .int .i64 t160, .int .i64 0, .int .i64 0, .bool false]) ?_ 3 _ rfl; (with_reducible repeat (first | refine blk_drewN ?_ _ | refine blk_drew ?_ | refine blk_alloc ?_ _)); refine blk_put (cs := #[.int .i64 t158, .int .i64 t159, .int .i64 0, .int .i64 0, .int .i64 0, .bool false]) ?_ 2 _ rfl; (with_reducible repeat (first | refine blk_drewN ?_ _ | refine blk_drew ?_ | refine blk_alloc ?_ _)); refine blk_put (cs := #[.int .i64 t158, .int .i64 0, .int .i64 0, .int .i64 0, .int .i64 0, .bool false]) ?_ 1 _ rfl; (with_reducible repeat (first | refine blk_drewN ?_ _ | refine blk_drew ?_ | refine blk_alloc ?_ _)); refine blk_put (cs := #[.int .i64 0, .int .i64 0, .int .i64 0, .int .i64 0, .int .i64 0, .bool false]) ?_ 0 _ rfl; (with_reducible repeat (first | refine blk_drewN ?_ _ | refine blk_drew ?_ | refine blk_alloc ?_ _)); exact BK165.out) hb); have n1_ := Aside0.mk (below_step (by repeat (first | (with_reducible first | exact HB.out | apply below_alloc | apply pw_below_drewN | apply below_drew1 | refine below_set ?_ GE165.out) | exact HB.out)) hb); clear BK165; clear HB; have BK165 := n0_; have HB := n1_; clear n0_ n1_; (try clear hb); (try clear hb2); (try clear hk); (try clear hi)) | ((with_reducible refine gate_callee (f := 17) rfl ?_); refine goesL_ (some 20) rfl rfl Try.func17 (by kernel_rfl) rfl #[.agg #[.int .i64 30000, .int .i64 1001]] rfl (by (try simp only [List.map_toArray, List.map_cons, List.map_nil]); first | done | rfl | (simp only [List.length_drop, List.length_take]; rfl)) ?_; (with_reducible refine (timecode_Base.calls k 30000 1001 t168 t169 _ A3.out).mono ?_); rintro e w27 ⟨rfl, hb⟩; refine ⟨_, rfl, ?_⟩; have n0_ := Aside0.mk (blk_below (g := gb165) (o := .cells #[.int .i64 t158, .int .i64 t159, .int .i64 t160, .int .i64 t161, .int .i64 t162, .bool t163] 34 (0, 0)) (by (with_reducible repeat (first | refine blk_drewN ?_ _ | refine blk_drew ?_ | refine blk_alloc ?_ _)); exact BK165.out) hb); have n1_ := Aside0.mk (below_step (by repeat (first | (with_reducible first | exact HB.out | apply below_alloc | apply pw_below_drewN | apply below_drew1 | refine below_set ?_ GE165.out) | exact HB.out)) hb); clear BK165; clear HB; have BK165 := n0_; have HB := n1_; clear n0_ n1_; (try clear hb); (try clear hb2); (try clear hk); (try clear hi)) | ((with_reducible refine gate_callee (f := 21) rfl ?_); refine goesL_ (some 24) rfl rfl Try.func21 (by kernel_rfl) rfl #[.int .i64 30, .bool true] rfl (by (try simp only [List.map_toArray, List.map_cons, List.map_nil]); first | done | rfl | (simp only [List.length_drop, List.length_take]; rfl)) ?_; (with_reducible refine (timecode_Day.calls k 30 true t170 t171 _ A4.out).mono ?_); rintro e w28 ⟨rfl, hb⟩; refine ⟨_, rfl, ?_⟩; have n0_ := Aside0.mk (blk_below (g := gb165) (o := .cells #[.int .i64 t158, .int .i64 t159, .int .i64 t160, .int .i64 t161, .int .i64 t162, .bool t163] 34 (0, 0)) (by (with_reducible repeat (first | refine blk_drewN ?_ _ | refine blk_drew ?_ | refine blk_alloc ?_ _)); exact BK165.out) hb); have n1_ := Aside0.mk (below_step (by repeat (first | (with_reducible first | exact HB.out | apply below_alloc | apply pw_below_drewN | apply below_drew1 | refine below_set ?_ GE165.out) | exact HB.out)) hb); clear BK165; clear HB; have BK165 := n0_; have HB := n1_; clear n0_ n1_; (try clear hb); (try clear hb2); (try clear hk); (try clear hi)))
            go_ret
            exact ⟨by first | rfl | (simp [errW_none, errW_some] <;> rfl) | (simp [*, errW_none, errW_some] <;> rfl), by repeat (first | (with_reducible first | exact HB.out | apply below_alloc | apply pw_below_drewN | apply below_drew1 | refine below_set ?_ GE165.out) | exact HB.out)⟩
        · rw [if_neg c8] at H
          have c8b0 : (t168 == 30) = false := beq_eq_false_iff_ne.mpr c8
          have c8b1 : (t168 != 30) = true := bne_iff_ne.mpr c8
          obtain rfl := Option.some.inj H
          go_enter Try.func20, Try.ntmps20
          go_wp2_with (first | ((with_reducible refine gate_callee (f := 23) rfl ?_); refine goesL_ (some 10) rfl rfl Try.func23 (by kernel_rfl) rfl #[.int .i64 1800, .int .i64 30, .bool true] rfl (by (try simp only [List.map_toArray, List.map_cons, List.map_nil]); first | done | rfl | (simp only [List.length_drop, List.length_take]; rfl)) ?_; (with_reducible refine (timecode_Label.calls k 1800 30 true t158 t159 t160 t161 t162 t163 t164 _ A1.out).mono ?_); rintro e w29 ⟨rfl, hb⟩; refine ⟨_, rfl, ?_⟩; have n0_ := Aside0.mk (below_step (by repeat (first | (with_reducible first | exact HB.out | apply below_alloc | apply pw_below_drewN | apply below_drew1) | exact HB.out)) hb); clear HB; have HB := n0_; clear n0_; (try clear hb); (try clear hb2); (try clear hk); (try clear hi)) | ((with_reducible refine gate_dst (N := 1) rfl ?_); refine box_event ?hg (N := 1) ?hd (cs := #[.int .i64 0, .int .i64 0, .int .i64 0, .int .i64 0, .int .i64 0, .bool false]) (t := 34) ?hr ?_; (case hd => rfl); (case hg => rfl); (case hr => first | (go_simp; done) | (go_simp; rfl)); intro gb165 hg w30 hbox hb; have n0_ := Aside0.mk (below_step (by repeat (first | (with_reducible first | exact HB.out | apply below_alloc | apply pw_below_drewN | apply below_drew1) | exact HB.out)) hb); have n1_ := Aside0.mk (hbox); have n2_ := Aside0.mk ((by rw [hg]; exact (below_size (by repeat (first | (with_reducible first | exact HB.out | apply below_alloc | apply pw_below_drewN | apply below_drew1) | exact HB.out))) : w.heap.size ≤ gb165)); have n3_ := Aside0.mk ((by rw [hg]; exact (below_size (by repeat (first | (with_reducible first | exact HB.out | apply below_alloc | apply pw_below_drewN | apply below_drew1) | exact HB.out))) : w.heap.size ≤ gb165)); clear HB; have HB := n0_; have BK165 := n1_; have GW165 := n2_; have GE165 := n3_; clear n0_ n1_ n2_ n3_; clear hb hbox hg; have hcz31_0 : w30.cell? ⟨gb165, 0, none⟩ = some (.int .i64 0) := (blk_cell BK165.out 0).trans rfl; have hcz31_1 : w30.cell? ⟨gb165, 1, none⟩ = some (.int .i64 0) := (blk_cell BK165.out 1).trans rfl; have hcz31_2 : w30.cell? ⟨gb165, 2, none⟩ = some (.int .i64 0) := (blk_cell BK165.out 2).trans rfl; have hcz31_3 : w30.cell? ⟨gb165, 3, none⟩ = some (.int .i64 0) := (blk_cell BK165.out 3).trans rfl; have hcz31_4 : w30.cell? ⟨gb165, 4, none⟩ = some (.int .i64 0) := (blk_cell BK165.out 4).trans rfl; have hcz31_5 : w30.cell? ⟨gb165, 5, none⟩ = some (.bool false) := (blk_cell BK165.out 5).trans rfl; have hfz31_0 := blk_frozen BK165.out 0; have hfz31_1 := blk_frozen BK165.out 1; have hfz31_2 := blk_frozen BK165.out 2; have hfz31_3 := blk_frozen BK165.out 3; have hfz31_4 := blk_frozen BK165.out 4; have hfz31_5 := blk_frozen BK165.out 5) | ((with_reducible refine gate_callee (f := 30) rfl ?_); refine goesL_ (some 15) rfl rfl Try.func30 (by kernel_rfl) rfl #[.agg #[.int .i64 t158, .int .i64 t159, .int .i64 t160, .int .i64 t161, .int .i64 t162, .bool t163]] rfl (by (try simp only [List.map_toArray, List.map_cons, List.map_nil]); first | done | rfl | (simp only [List.length_drop, List.length_take]; rfl)) ?_; (with_reducible refine (timecode_Format.calls k t158 t159 t160 t161 t162 t163 t166 t167 _ A2.out).mono ?_); rintro e w32 ⟨rfl, hb⟩; refine ⟨_, rfl, ?_⟩; have n0_ := Aside0.mk (blk_below (g := gb165) (o := .cells #[.int .i64 t158, .int .i64 t159, .int .i64 t160, .int .i64 t161, .int .i64 t162, .bool t163] 34 (0, 0)) (by (with_reducible repeat (first | refine blk_drewN ?_ _ | refine blk_drew ?_ | refine blk_alloc ?_ _)); refine blk_put (cs := #[.int .i64 t158, .int .i64 t159, .int .i64 t160, .int .i64 t161, .int .i64 t162, .bool false]) ?_ 5 _ rfl; (with_reducible repeat (first | refine blk_drewN ?_ _ | refine blk_drew ?_ | refine blk_alloc ?_ _)); refine blk_put (cs := #[.int .i64 t158, .int .i64 t159, .int .i64 t160, .int .i64 t161, .int .i64 0, .bool false]) ?_ 4 _ rfl; (with_reducible repeat (first | refine blk_drewN ?_ _ | refine blk_drew ?_ | refine blk_alloc ?_ _)); refine blk_put (cs := #[.int .i64 t158, .int .i64 t159, .int .i64 t160, .int .i64 0, .int .i64 0, .bool false]) ?_ 3 _ rfl; (with_reducible repeat (first | refine blk_drewN ?_ _ | refine blk_drew ?_ | refine blk_alloc ?_ _)); refine blk_put (cs := #[.int .i64 t158, .int .i64 t159, .int .i64 0, .int .i64 0, .int .i64 0, .bool false]) ?_ 2 _ rfl; (with_reducible repeat (first | refine blk_drewN ?_ _ | refine blk_drew ?_ | refine blk_alloc ?_ _)); refine blk_put (cs := #[.int .i64 t158, .int .i64 0, .int .i64 0, .int .i64 0, .int .i64 0, .bool false]) ?_ 1 _ rfl; (with_reducible repeat (first | refine blk_drewN ?_ _ | refine blk_drew ?_ | refine blk_alloc ?_ _)); refine blk_put (cs := #[.int .i64 0, .int .i64 0, .int .i64 0, .int .i64 0, .int .i64 0, .bool false]) ?_ 0 _ rfl; (with_reducible repeat (first | refine blk_drewN ?_ _ | refine blk_drew ?_ | refine blk_alloc ?_ _)); exact BK165.out) hb); have n1_ := Aside0.mk (below_step (by repeat (first | (with_reducible first | exact HB.out | apply below_alloc | apply pw_below_drewN | apply below_drew1 | refine below_set ?_ GE165.out) | exact HB.out)) hb); clear BK165; clear HB; have BK165 := n0_; have HB := n1_; clear n0_ n1_; (try clear hb); (try clear hb2); (try clear hk); (try clear hi)) | ((with_reducible refine gate_callee (f := 17) rfl ?_); refine goesL_ (some 20) rfl rfl Try.func17 (by kernel_rfl) rfl #[.agg #[.int .i64 30000, .int .i64 1001]] rfl (by (try simp only [List.map_toArray, List.map_cons, List.map_nil]); first | done | rfl | (simp only [List.length_drop, List.length_take]; rfl)) ?_; (with_reducible refine (timecode_Base.calls k 30000 1001 t168 t169 _ A3.out).mono ?_); rintro e w33 ⟨rfl, hb⟩; refine ⟨_, rfl, ?_⟩; have n0_ := Aside0.mk (blk_below (g := gb165) (o := .cells #[.int .i64 t158, .int .i64 t159, .int .i64 t160, .int .i64 t161, .int .i64 t162, .bool t163] 34 (0, 0)) (by (with_reducible repeat (first | refine blk_drewN ?_ _ | refine blk_drew ?_ | refine blk_alloc ?_ _)); exact BK165.out) hb); have n1_ := Aside0.mk (below_step (by repeat (first | (with_reducible first | exact HB.out | apply below_alloc | apply pw_below_drewN | apply below_drew1 | refine below_set ?_ GE165.out) | exact HB.out)) hb); clear BK165; clear HB; have BK165 := n0_; have HB := n1_; clear n0_ n1_; (try clear hb); (try clear hb2); (try clear hk); (try clear hi)) | ((with_reducible refine gate_callee (f := 21) rfl ?_); refine goesL_ (some 24) rfl rfl Try.func21 (by kernel_rfl) rfl #[.int .i64 30, .bool true] rfl (by (try simp only [List.map_toArray, List.map_cons, List.map_nil]); first | done | rfl | (simp only [List.length_drop, List.length_take]; rfl)) ?_; (with_reducible refine (timecode_Day.calls k 30 true t170 t171 _ A4.out).mono ?_); rintro e w34 ⟨rfl, hb⟩; refine ⟨_, rfl, ?_⟩; have n0_ := Aside0.mk (blk_below (g := gb165) (o := .cells #[.int .i64 t158, .int .i64 t159, .int .i64 t160, .int .i64 t161, .int .i64 t162, .bool t163] 34 (0, 0)) (by (with_reducible repeat (first | refine blk_drewN ?_ _ | refine blk_drew ?_ | refine blk_alloc ?_ _)); exact BK165.out) hb); have n1_ := Aside0.mk (below_step (by repeat (first | (with_reducible first | exact HB.out | apply below_alloc | apply pw_below_drewN | apply below_drew1 | refine below_set ?_ GE165.out) | exact HB.out)) hb); clear BK165; clear HB; have BK165 := n0_; have HB := n1_; clear n0_ n1_; (try clear hb); (try clear hb2); (try clear hk); (try clear hi)))
          go_ret
          exact ⟨by first | rfl | (simp [errW_none, errW_some] <;> rfl) | (simp [*, errW_none, errW_some] <;> rfl), by repeat (first | (with_reducible first | exact HB.out | apply below_alloc | apply pw_below_drewN | apply below_drew1 | refine below_set ?_ GE165.out) | exact HB.out)⟩
      · rw [if_neg c7] at H
        have c7b0 : (t166.toList == ([48, 48, 58, 48, 49, 58, 48, 48, 59, 48, 50] : List UInt8)) = false := beq_eq_false_iff_ne.mpr c7
        have c7b1 : (t166.toList != ([48, 48, 58, 48, 49, 58, 48, 48, 59, 48, 50] : List UInt8)) = true := bne_iff_ne.mpr c7
        obtain rfl := Option.some.inj H
        go_enter Try.func20, Try.ntmps20
        go_wp2_with (first | ((with_reducible refine gate_callee (f := 23) rfl ?_); refine goesL_ (some 10) rfl rfl Try.func23 (by kernel_rfl) rfl #[.int .i64 1800, .int .i64 30, .bool true] rfl (by (try simp only [List.map_toArray, List.map_cons, List.map_nil]); first | done | rfl | (simp only [List.length_drop, List.length_take]; rfl)) ?_; (with_reducible refine (timecode_Label.calls k 1800 30 true t158 t159 t160 t161 t162 t163 t164 _ A1.out).mono ?_); rintro e w35 ⟨rfl, hb⟩; refine ⟨_, rfl, ?_⟩; have n0_ := Aside0.mk (below_step (by repeat (first | (with_reducible first | exact HB.out | apply below_alloc | apply pw_below_drewN | apply below_drew1) | exact HB.out)) hb); clear HB; have HB := n0_; clear n0_; (try clear hb); (try clear hb2); (try clear hk); (try clear hi)) | ((with_reducible refine gate_dst (N := 1) rfl ?_); refine box_event ?hg (N := 1) ?hd (cs := #[.int .i64 0, .int .i64 0, .int .i64 0, .int .i64 0, .int .i64 0, .bool false]) (t := 34) ?hr ?_; (case hd => rfl); (case hg => rfl); (case hr => first | (go_simp; done) | (go_simp; rfl)); intro gb165 hg w36 hbox hb; have n0_ := Aside0.mk (below_step (by repeat (first | (with_reducible first | exact HB.out | apply below_alloc | apply pw_below_drewN | apply below_drew1) | exact HB.out)) hb); have n1_ := Aside0.mk (hbox); have n2_ := Aside0.mk ((by rw [hg]; exact (below_size (by repeat (first | (with_reducible first | exact HB.out | apply below_alloc | apply pw_below_drewN | apply below_drew1) | exact HB.out))) : w.heap.size ≤ gb165)); have n3_ := Aside0.mk ((by rw [hg]; exact (below_size (by repeat (first | (with_reducible first | exact HB.out | apply below_alloc | apply pw_below_drewN | apply below_drew1) | exact HB.out))) : w.heap.size ≤ gb165)); clear HB; have HB := n0_; have BK165 := n1_; have GW165 := n2_; have GE165 := n3_; clear n0_ n1_ n2_ n3_; clear hb hbox hg; have hcz37_0 : w36.cell? ⟨gb165, 0, none⟩ = some (.int .i64 0) := (blk_cell BK165.out 0).trans rfl; have hcz37_1 : w36.cell? ⟨gb165, 1, none⟩ = some (.int .i64 0) := (blk_cell BK165.out 1).trans rfl; have hcz37_2 : w36.cell? ⟨gb165, 2, none⟩ = some (.int .i64 0) := (blk_cell BK165.out 2).trans rfl; have hcz37_3 : w36.cell? ⟨gb165, 3, none⟩ = some (.int .i64 0) := (blk_cell BK165.out 3).trans rfl; have hcz37_4 : w36.cell? ⟨gb165, 4, none⟩ = some (.int .i64 0) := (blk_cell BK165.out 4).trans rfl; have hcz37_5 : w36.cell? ⟨gb165, 5, none⟩ = some (.bool false) := (blk_cell BK165.out 5).trans rfl; have hfz37_0 := blk_frozen BK165.out 0; have hfz37_1 := blk_frozen BK165.out 1; have hfz37_2 := blk_frozen BK165.out 2; have hfz37_3 := blk_frozen BK165.out 3; have hfz37_4 := blk_frozen BK165.out 4; have hfz37_5 := blk_frozen BK165.out 5) | ((with_reducible refine gate_callee (f := 30) rfl ?_); refine goesL_ (some 15) rfl rfl Try.func30 (by kernel_rfl) rfl #[.agg #[.int .i64 t158, .int .i64 t159, .int .i64 t160, .int .i64 t161, .int .i64 t162, .bool t163]] rfl (by (try simp only [List.map_toArray, List.map_cons, List.map_nil]); first | done | rfl | (simp only [List.length_drop, List.length_take]; rfl)) ?_; (with_reducible refine (timecode_Format.calls k t158 t159 t160 t161 t162 t163 t166 t167 _ A2.out).mono ?_); rintro e w38 ⟨rfl, hb⟩; refine ⟨_, rfl, ?_⟩; have n0_ := Aside0.mk (blk_below (g := gb165) (o := .cells #[.int .i64 t158, .int .i64 t159, .int .i64 t160, .int .i64 t161, .int .i64 t162, .bool t163] 34 (0, 0)) (by (with_reducible repeat (first | refine blk_drewN ?_ _ | refine blk_drew ?_ | refine blk_alloc ?_ _)); refine blk_put (cs := #[.int .i64 t158, .int .i64 t159, .int .i64 t160, .int .i64 t161, .int .i64 t162, .bool false]) ?_ 5 _ rfl; (with_reducible repeat (first | refine blk_drewN ?_ _ | refine blk_drew ?_ | refine blk_alloc ?_ _)); refine blk_put (cs := #[.int .i64 t158, .int .i64 t159, .int .i64 t160, .int .i64 t161, .int .i64 0, .bool false]) ?_ 4 _ rfl; (with_reducible repeat (first | refine blk_drewN ?_ _ | refine blk_drew ?_ | refine blk_alloc ?_ _)); refine blk_put (cs := #[.int .i64 t158, .int .i64 t159, .int .i64 t160, .int .i64 0, .int .i64 0, .bool false]) ?_ 3 _ rfl; (with_reducible repeat (first | refine blk_drewN ?_ _ | refine blk_drew ?_ | refine blk_alloc ?_ _)); refine blk_put (cs := #[.int .i64 t158, .int .i64 t159, .int .i64 0, .int .i64 0, .int .i64 0, .bool false]) ?_ 2 _ rfl; (with_reducible repeat (first | refine blk_drewN ?_ _ | refine blk_drew ?_ | refine blk_alloc ?_ _)); refine blk_put (cs := #[.int .i64 t158, .int .i64 0, .int .i64 0, .int .i64 0, .int .i64 0, .bool false]) ?_ 1 _ rfl; (with_reducible repeat (first | refine blk_drewN ?_ _ | refine blk_drew ?_ | refine blk_alloc ?_ _)); refine blk_put (cs := #[.int .i64 0, .int .i64 0, .int .i64 0, .int .i64 0, .int .i64 0, .bool false]) ?_ 0 _ rfl; (with_reducible repeat (first | refine blk_drewN ?_ _ | refine blk_drew ?_ | refine blk_alloc ?_ _)); exact BK165.out) hb); have n1_ := Aside0.mk (below_step (by repeat (first | (with_reducible first | exact HB.out | apply below_alloc | apply pw_below_drewN | apply below_drew1 | refine below_set ?_ GE165.out) | exact HB.out)) hb); clear BK165; clear HB; have BK165 := n0_; have HB := n1_; clear n0_ n1_; (try clear hb); (try clear hb2); (try clear hk); (try clear hi)) | ((with_reducible refine gate_callee (f := 17) rfl ?_); refine goesL_ (some 20) rfl rfl Try.func17 (by kernel_rfl) rfl #[.agg #[.int .i64 30000, .int .i64 1001]] rfl (by (try simp only [List.map_toArray, List.map_cons, List.map_nil]); first | done | rfl | (simp only [List.length_drop, List.length_take]; rfl)) ?_; (with_reducible refine (timecode_Base.calls k 30000 1001 t168 t169 _ A3.out).mono ?_); rintro e w39 ⟨rfl, hb⟩; refine ⟨_, rfl, ?_⟩; have n0_ := Aside0.mk (blk_below (g := gb165) (o := .cells #[.int .i64 t158, .int .i64 t159, .int .i64 t160, .int .i64 t161, .int .i64 t162, .bool t163] 34 (0, 0)) (by (with_reducible repeat (first | refine blk_drewN ?_ _ | refine blk_drew ?_ | refine blk_alloc ?_ _)); exact BK165.out) hb); have n1_ := Aside0.mk (below_step (by repeat (first | (with_reducible first | exact HB.out | apply below_alloc | apply pw_below_drewN | apply below_drew1 | refine below_set ?_ GE165.out) | exact HB.out)) hb); clear BK165; clear HB; have BK165 := n0_; have HB := n1_; clear n0_ n1_; (try clear hb); (try clear hb2); (try clear hk); (try clear hi)) | ((with_reducible refine gate_callee (f := 21) rfl ?_); refine goesL_ (some 24) rfl rfl Try.func21 (by kernel_rfl) rfl #[.int .i64 30, .bool true] rfl (by (try simp only [List.map_toArray, List.map_cons, List.map_nil]); first | done | rfl | (simp only [List.length_drop, List.length_take]; rfl)) ?_; (with_reducible refine (timecode_Day.calls k 30 true t170 t171 _ A4.out).mono ?_); rintro e w40 ⟨rfl, hb⟩; refine ⟨_, rfl, ?_⟩; have n0_ := Aside0.mk (blk_below (g := gb165) (o := .cells #[.int .i64 t158, .int .i64 t159, .int .i64 t160, .int .i64 t161, .int .i64 t162, .bool t163] 34 (0, 0)) (by (with_reducible repeat (first | refine blk_drewN ?_ _ | refine blk_drew ?_ | refine blk_alloc ?_ _)); exact BK165.out) hb); have n1_ := Aside0.mk (below_step (by repeat (first | (with_reducible first | exact HB.out | apply below_alloc | apply pw_below_drewN | apply below_drew1 | refine below_set ?_ GE165.out) | exact HB.out)) hb); clear BK165; clear HB; have BK165 := n0_; have HB := n1_; clear n0_ n1_; (try clear hb); (try clear hb2); (try clear hk); (try clear hi)))
        go_ret
        exact ⟨by first | rfl | (simp [errW_none, errW_some] <;> rfl) | (simp [*, errW_none, errW_some] <;> rfl), by repeat (first | (with_reducible first | exact HB.out | apply below_alloc | apply pw_below_drewN | apply below_drew1 | refine below_set ?_ GE165.out) | exact HB.out)⟩
    · rw [if_neg c6] at H
      have c6b0 : (t167 == 0) = false := beq_eq_false_iff_ne.mpr c6
      have c6b1 : (t167 != 0) = true := bne_iff_ne.mpr c6
      obtain rfl := Option.some.inj H
      go_enter Try.func20, Try.ntmps20
      go_wp2_with (first | ((with_reducible refine gate_callee (f := 23) rfl ?_); refine goesL_ (some 10) rfl rfl Try.func23 (by kernel_rfl) rfl #[.int .i64 1800, .int .i64 30, .bool true] rfl (by (try simp only [List.map_toArray, List.map_cons, List.map_nil]); first | done | rfl | (simp only [List.length_drop, List.length_take]; rfl)) ?_; (with_reducible refine (timecode_Label.calls k 1800 30 true t158 t159 t160 t161 t162 t163 t164 _ A1.out).mono ?_); rintro e w41 ⟨rfl, hb⟩; refine ⟨_, rfl, ?_⟩; have n0_ := Aside0.mk (below_step (by repeat (first | (with_reducible first | exact HB.out | apply below_alloc | apply pw_below_drewN | apply below_drew1) | exact HB.out)) hb); clear HB; have HB := n0_; clear n0_; (try clear hb); (try clear hb2); (try clear hk); (try clear hi)) | ((with_reducible refine gate_dst (N := 1) rfl ?_); refine box_event ?hg (N := 1) ?hd (cs := #[.int .i64 0, .int .i64 0, .int .i64 0, .int .i64 0, .int .i64 0, .bool false]) (t := 34) ?hr ?_; (case hd => rfl); (case hg => rfl); (case hr => first | (go_simp; done) | (go_simp; rfl)); intro gb165 hg w42 hbox hb; have n0_ := Aside0.mk (below_step (by repeat (first | (with_reducible first | exact HB.out | apply below_alloc | apply pw_below_drewN | apply below_drew1) | exact HB.out)) hb); have n1_ := Aside0.mk (hbox); have n2_ := Aside0.mk ((by rw [hg]; exact (below_size (by repeat (first | (with_reducible first | exact HB.out | apply below_alloc | apply pw_below_drewN | apply below_drew1) | exact HB.out))) : w.heap.size ≤ gb165)); have n3_ := Aside0.mk ((by rw [hg]; exact (below_size (by repeat (first | (with_reducible first | exact HB.out | apply below_alloc | apply pw_below_drewN | apply below_drew1) | exact HB.out))) : w.heap.size ≤ gb165)); clear HB; have HB := n0_; have BK165 := n1_; have GW165 := n2_; have GE165 := n3_; clear n0_ n1_ n2_ n3_; clear hb hbox hg; have hcz43_0 : w42.cell? ⟨gb165, 0, none⟩ = some (.int .i64 0) := (blk_cell BK165.out 0).trans rfl; have hcz43_1 : w42.cell? ⟨gb165, 1, none⟩ = some (.int .i64 0) := (blk_cell BK165.out 1).trans rfl; have hcz43_2 : w42.cell? ⟨gb165, 2, none⟩ = some (.int .i64 0) := (blk_cell BK165.out 2).trans rfl; have hcz43_3 : w42.cell? ⟨gb165, 3, none⟩ = some (.int .i64 0) := (blk_cell BK165.out 3).trans rfl; have hcz43_4 : w42.cell? ⟨gb165, 4, none⟩ = some (.int .i64 0) := (blk_cell BK165.out 4).trans rfl; have hcz43_5 : w42.cell? ⟨gb165, 5, none⟩ = some (.bool false) := (blk_cell BK165.out 5).trans rfl; have hfz43_0 := blk_frozen BK165.out 0; have hfz43_1 := blk_frozen BK165.out 1; have hfz43_2 := blk_frozen BK165.out 2; have hfz43_3 := blk_frozen BK165.out 3; have hfz43_4 := blk_frozen BK165.out 4; have hfz43_5 := blk_frozen BK165.out 5) | ((with_reducible refine gate_callee (f := 30) rfl ?_); refine goesL_ (some 15) rfl rfl Try.func30 (by kernel_rfl) rfl #[.agg #[.int .i64 t158, .int .i64 t159, .int .i64 t160, .int .i64 t161, .int .i64 t162, .bool t163]] rfl (by (try simp only [List.map_toArray, List.map_cons, List.map_nil]); first | done | rfl | (simp only [List.length_drop, List.length_take]; rfl)) ?_; (with_reducible refine (timecode_Format.calls k t158 t159 t160 t161 t162 t163 t166 t167 _ A2.out).mono ?_); rintro e w44 ⟨rfl, hb⟩; refine ⟨_, rfl, ?_⟩; have n0_ := Aside0.mk (blk_below (g := gb165) (o := .cells #[.int .i64 t158, .int .i64 t159, .int .i64 t160, .int .i64 t161, .int .i64 t162, .bool t163] 34 (0, 0)) (by (with_reducible repeat (first | refine blk_drewN ?_ _ | refine blk_drew ?_ | refine blk_alloc ?_ _)); refine blk_put (cs := #[.int .i64 t158, .int .i64 t159, .int .i64 t160, .int .i64 t161, .int .i64 t162, .bool false]) ?_ 5 _ rfl; (with_reducible repeat (first | refine blk_drewN ?_ _ | refine blk_drew ?_ | refine blk_alloc ?_ _)); refine blk_put (cs := #[.int .i64 t158, .int .i64 t159, .int .i64 t160, .int .i64 t161, .int .i64 0, .bool false]) ?_ 4 _ rfl; (with_reducible repeat (first | refine blk_drewN ?_ _ | refine blk_drew ?_ | refine blk_alloc ?_ _)); refine blk_put (cs := #[.int .i64 t158, .int .i64 t159, .int .i64 t160, .int .i64 0, .int .i64 0, .bool false]) ?_ 3 _ rfl; (with_reducible repeat (first | refine blk_drewN ?_ _ | refine blk_drew ?_ | refine blk_alloc ?_ _)); refine blk_put (cs := #[.int .i64 t158, .int .i64 t159, .int .i64 0, .int .i64 0, .int .i64 0, .bool false]) ?_ 2 _ rfl; (with_reducible repeat (first | refine blk_drewN ?_ _ | refine blk_drew ?_ | refine blk_alloc ?_ _)); refine blk_put (cs := #[.int .i64 t158, .int .i64 0, .int .i64 0, .int .i64 0, .int .i64 0, .bool false]) ?_ 1 _ rfl; (with_reducible repeat (first | refine blk_drewN ?_ _ | refine blk_drew ?_ | refine blk_alloc ?_ _)); refine blk_put (cs := #[.int .i64 0, .int .i64 0, .int .i64 0, .int .i64 0, .int .i64 0, .bool false]) ?_ 0 _ rfl; (with_reducible repeat (first | refine blk_drewN ?_ _ | refine blk_drew ?_ | refine blk_alloc ?_ _)); exact BK165.out) hb); have n1_ := Aside0.mk (below_step (by repeat (first | (with_reducible first | exact HB.out | apply below_alloc | apply pw_below_drewN | apply below_drew1 | refine below_set ?_ GE165.out) | exact HB.out)) hb); clear BK165; clear HB; have BK165 := n0_; have HB := n1_; clear n0_ n1_; (try clear hb); (try clear hb2); (try clear hk); (try clear hi)) | ((with_reducible refine gate_callee (f := 17) rfl ?_); refine goesL_ (some 20) rfl rfl Try.func17 (by kernel_rfl) rfl #[.agg #[.int .i64 30000, .int .i64 1001]] rfl (by (try simp only [List.map_toArray, List.map_cons, List.map_nil]); first | done | rfl | (simp only [List.length_drop, List.length_take]; rfl)) ?_; (with_reducible refine (timecode_Base.calls k 30000 1001 t168 t169 _ A3.out).mono ?_); rintro e w45 ⟨rfl, hb⟩; refine ⟨_, rfl, ?_⟩; have n0_ := Aside0.mk (blk_below (g := gb165) (o := .cells #[.int .i64 t158, .int .i64 t159, .int .i64 t160, .int .i64 t161, .int .i64 t162, .bool t163] 34 (0, 0)) (by (with_reducible repeat (first | refine blk_drewN ?_ _ | refine blk_drew ?_ | refine blk_alloc ?_ _)); exact BK165.out) hb); have n1_ := Aside0.mk (below_step (by repeat (first | (with_reducible first | exact HB.out | apply below_alloc | apply pw_below_drewN | apply below_drew1 | refine below_set ?_ GE165.out) | exact HB.out)) hb); clear BK165; clear HB; have BK165 := n0_; have HB := n1_; clear n0_ n1_; (try clear hb); (try clear hb2); (try clear hk); (try clear hi)) | ((with_reducible refine gate_callee (f := 21) rfl ?_); refine goesL_ (some 24) rfl rfl Try.func21 (by kernel_rfl) rfl #[.int .i64 30, .bool true] rfl (by (try simp only [List.map_toArray, List.map_cons, List.map_nil]); first | done | rfl | (simp only [List.length_drop, List.length_take]; rfl)) ?_; (with_reducible refine (timecode_Day.calls k 30 true t170 t171 _ A4.out).mono ?_); rintro e w46 ⟨rfl, hb⟩; refine ⟨_, rfl, ?_⟩; have n0_ := Aside0.mk (blk_below (g := gb165) (o := .cells #[.int .i64 t158, .int .i64 t159, .int .i64 t160, .int .i64 t161, .int .i64 t162, .bool t163] 34 (0, 0)) (by (with_reducible repeat (first | refine blk_drewN ?_ _ | refine blk_drew ?_ | refine blk_alloc ?_ _)); exact BK165.out) hb); have n1_ := Aside0.mk (below_step (by repeat (first | (with_reducible first | exact HB.out | apply below_alloc | apply pw_below_drewN | apply below_drew1 | refine below_set ?_ GE165.out) | exact HB.out)) hb); clear BK165; clear HB; have BK165 := n0_; have HB := n1_; clear n0_ n1_; (try clear hb); (try clear hb2); (try clear hk); (try clear hi)))
      go_ret
      exact ⟨by first | rfl | (simp [errW_none, errW_some] <;> rfl) | (simp [*, errW_none, errW_some] <;> rfl), by repeat (first | (with_reducible first | exact HB.out | apply below_alloc | apply pw_below_drewN | apply below_drew1 | refine below_set ?_ GE165.out) | exact HB.out)⟩
  · rw [if_neg c5] at H
    have c5b0 : (t164 == 0) = false := beq_eq_false_iff_ne.mpr c5
    have c5b1 : (t164 != 0) = true := bne_iff_ne.mpr c5
    obtain rfl := Option.some.inj H
    go_enter Try.func20, Try.ntmps20
    go_wp2_with (first | ((with_reducible refine gate_callee (f := 23) rfl ?_); refine goesL_ (some 10) rfl rfl Try.func23 (by kernel_rfl) rfl #[.int .i64 1800, .int .i64 30, .bool true] rfl (by (try simp only [List.map_toArray, List.map_cons, List.map_nil]); first | done | rfl | (simp only [List.length_drop, List.length_take]; rfl)) ?_; (with_reducible refine (timecode_Label.calls k 1800 30 true t158 t159 t160 t161 t162 t163 t164 _ A1.out).mono ?_); rintro e w47 ⟨rfl, hb⟩; refine ⟨_, rfl, ?_⟩; have n0_ := Aside0.mk (below_step (by repeat (first | (with_reducible first | exact HB.out | apply below_alloc | apply pw_below_drewN | apply below_drew1) | exact HB.out)) hb); clear HB; have HB := n0_; clear n0_; (try clear hb); (try clear hb2); (try clear hk); (try clear hi)) | ((with_reducible refine gate_dst (N := 1) rfl ?_); refine box_event ?hg (N := 1) ?hd (cs := #[.int .i64 0, .int .i64 0, .int .i64 0, .int .i64 0, .int .i64 0, .bool false]) (t := 34) ?hr ?_; (case hd => rfl); (case hg => rfl); (case hr => first | (go_simp; done) | (go_simp; rfl)); intro gb165 hg w48 hbox hb; have n0_ := Aside0.mk (below_step (by repeat (first | (with_reducible first | exact HB.out | apply below_alloc | apply pw_below_drewN | apply below_drew1) | exact HB.out)) hb); have n1_ := Aside0.mk (hbox); have n2_ := Aside0.mk ((by rw [hg]; exact (below_size (by repeat (first | (with_reducible first | exact HB.out | apply below_alloc | apply pw_below_drewN | apply below_drew1) | exact HB.out))) : w.heap.size ≤ gb165)); have n3_ := Aside0.mk ((by rw [hg]; exact (below_size (by repeat (first | (with_reducible first | exact HB.out | apply below_alloc | apply pw_below_drewN | apply below_drew1) | exact HB.out))) : w.heap.size ≤ gb165)); clear HB; have HB := n0_; have BK165 := n1_; have GW165 := n2_; have GE165 := n3_; clear n0_ n1_ n2_ n3_; clear hb hbox hg; have hcz49_0 : w48.cell? ⟨gb165, 0, none⟩ = some (.int .i64 0) := (blk_cell BK165.out 0).trans rfl; have hcz49_1 : w48.cell? ⟨gb165, 1, none⟩ = some (.int .i64 0) := (blk_cell BK165.out 1).trans rfl; have hcz49_2 : w48.cell? ⟨gb165, 2, none⟩ = some (.int .i64 0) := (blk_cell BK165.out 2).trans rfl; have hcz49_3 : w48.cell? ⟨gb165, 3, none⟩ = some (.int .i64 0) := (blk_cell BK165.out 3).trans rfl; have hcz49_4 : w48.cell? ⟨gb165, 4, none⟩ = some (.int .i64 0) := (blk_cell BK165.out 4).trans rfl; have hcz49_5 : w48.cell? ⟨gb165, 5, none⟩ = some (.bool false) := (blk_cell BK165.out 5).trans rfl; have hfz49_0 := blk_frozen BK165.out 0; have hfz49_1 := blk_frozen BK165.out 1; have hfz49_2 := blk_frozen BK165.out 2; have hfz49_3 := blk_frozen BK165.out 3; have hfz49_4 := blk_frozen BK165.out 4; have hfz49_5 := blk_frozen BK165.out 5) | ((with_reducible refine gate_callee (f := 30) rfl ?_); refine goesL_ (some 15) rfl rfl Try.func30 (by kernel_rfl) rfl #[.agg #[.int .i64 t158, .int .i64 t159, .int .i64 t160, .int .i64 t161, .int .i64 t162, .bool t163]] rfl (by (try simp only [List.map_toArray, List.map_cons, List.map_nil]); first | done | rfl | (simp only [List.length_drop, List.length_take]; rfl)) ?_; (with_reducible refine (timecode_Format.calls k t158 t159 t160 t161 t162 t163 t166 t167 _ A2.out).mono ?_); rintro e w50 ⟨rfl, hb⟩; refine ⟨_, rfl, ?_⟩; have n0_ := Aside0.mk (blk_below (g := gb165) (o := .cells #[.int .i64 t158, .int .i64 t159, .int .i64 t160, .int .i64 t161, .int .i64 t162, .bool t163] 34 (0, 0)) (by (with_reducible repeat (first | refine blk_drewN ?_ _ | refine blk_drew ?_ | refine blk_alloc ?_ _)); refine blk_put (cs := #[.int .i64 t158, .int .i64 t159, .int .i64 t160, .int .i64 t161, .int .i64 t162, .bool false]) ?_ 5 _ rfl; (with_reducible repeat (first | refine blk_drewN ?_ _ | refine blk_drew ?_ | refine blk_alloc ?_ _)); refine blk_put (cs := #[.int .i64 t158, .int .i64 t159, .int .i64 t160, .int .i64 t161, .int .i64 0, .bool false]) ?_ 4 _ rfl; (with_reducible repeat (first | refine blk_drewN ?_ _ | refine blk_drew ?_ | refine blk_alloc ?_ _)); refine blk_put (cs := #[.int .i64 t158, .int .i64 t159, .int .i64 t160, .int .i64 0, .int .i64 0, .bool false]) ?_ 3 _ rfl; (with_reducible repeat (first | refine blk_drewN ?_ _ | refine blk_drew ?_ | refine blk_alloc ?_ _)); refine blk_put (cs := #[.int .i64 t158, .int .i64 t159, .int .i64 0, .int .i64 0, .int .i64 0, .bool false]) ?_ 2 _ rfl; (with_reducible repeat (first | refine blk_drewN ?_ _ | refine blk_drew ?_ | refine blk_alloc ?_ _)); refine blk_put (cs := #[.int .i64 t158, .int .i64 0, .int .i64 0, .int .i64 0, .int .i64 0, .bool false]) ?_ 1 _ rfl; (with_reducible repeat (first | refine blk_drewN ?_ _ | refine blk_drew ?_ | refine blk_alloc ?_ _)); refine blk_put (cs := #[.int .i64 0, .int .i64 0, .int .i64 0, .int .i64 0, .int .i64 0, .bool false]) ?_ 0 _ rfl; (with_reducible repeat (first | refine blk_drewN ?_ _ | refine blk_drew ?_ | refine blk_alloc ?_ _)); exact BK165.out) hb); have n1_ := Aside0.mk (below_step (by repeat (first | (with_reducible first | exact HB.out | apply below_alloc | apply pw_below_drewN | apply below_drew1 | refine below_set ?_ GE165.out) | exact HB.out)) hb); clear BK165; clear HB; have BK165 := n0_; have HB := n1_; clear n0_ n1_; (try clear hb); (try clear hb2); (try clear hk); (try clear hi)) | ((with_reducible refine gate_callee (f := 17) rfl ?_); refine goesL_ (some 20) rfl rfl Try.func17 (by kernel_rfl) rfl #[.agg #[.int .i64 30000, .int .i64 1001]] rfl (by (try simp only [List.map_toArray, List.map_cons, List.map_nil]); first | done | rfl | (simp only [List.length_drop, List.length_take]; rfl)) ?_; (with_reducible refine (timecode_Base.calls k 30000 1001 t168 t169 _ A3.out).mono ?_); rintro e w51 ⟨rfl, hb⟩; refine ⟨_, rfl, ?_⟩; have n0_ := Aside0.mk (blk_below (g := gb165) (o := .cells #[.int .i64 t158, .int .i64 t159, .int .i64 t160, .int .i64 t161, .int .i64 t162, .bool t163] 34 (0, 0)) (by (with_reducible repeat (first | refine blk_drewN ?_ _ | refine blk_drew ?_ | refine blk_alloc ?_ _)); exact BK165.out) hb); have n1_ := Aside0.mk (below_step (by repeat (first | (with_reducible first | exact HB.out | apply below_alloc | apply pw_below_drewN | apply below_drew1 | refine below_set ?_ GE165.out) | exact HB.out)) hb); clear BK165; clear HB; have BK165 := n0_; have HB := n1_; clear n0_ n1_; (try clear hb); (try clear hb2); (try clear hk); (try clear hi)) | ((with_reducible refine gate_callee (f := 21) rfl ?_); refine goesL_ (some 24) rfl rfl Try.func21 (by kernel_rfl) rfl #[.int .i64 30, .bool true] rfl (by (try simp only [List.map_toArray, List.map_cons, List.map_nil]); first | done | rfl | (simp only [List.length_drop, List.length_take]; rfl)) ?_; (with_reducible refine (timecode_Day.calls k 30 true t170 t171 _ A4.out).mono ?_); rintro e w52 ⟨rfl, hb⟩; refine ⟨_, rfl, ?_⟩; have n0_ := Aside0.mk (blk_below (g := gb165) (o := .cells #[.int .i64 t158, .int .i64 t159, .int .i64 t160, .int .i64 t161, .int .i64 t162, .bool t163] 34 (0, 0)) (by (with_reducible repeat (first | refine blk_drewN ?_ _ | refine blk_drew ?_ | refine blk_alloc ?_ _)); exact BK165.out) hb); have n1_ := Aside0.mk (below_step (by repeat (first | (with_reducible first | exact HB.out | apply below_alloc | apply pw_below_drewN | apply below_drew1 | refine below_set ?_ GE165.out) | exact HB.out)) hb); clear BK165; clear HB; have BK165 := n0_; have HB := n1_; clear n0_ n1_; (try clear hb); (try clear hb2); (try clear hk); (try clear hi)))
    go_ret
    exact ⟨by first | rfl | (simp [errW_none, errW_some] <;> rfl) | (simp [*, errW_none, errW_some] <;> rfl), by repeat (first | (with_reducible first | exact HB.out | apply below_alloc | apply pw_below_drewN | apply below_drew1 | refine below_set ?_ GE165.out) | exact HB.out)⟩

/-! ### cutroomlaw19_TimecodeInverse: function 7 -/
mutual
def cutroomlaw19_TimecodeInverse.j0 : Nat → Int → Int → Bool → Option (Bool)
  | 0, _, _, _ => none
  | k + 1, x0, x2, x3 => (timecode_Label.f k x0 x2 x3).bind fun bt183 => ((timecode_Day.f k x2 x3).bind fun bt191 => (if bt183.2.2.2.2.2.2 = 0 then (cutroomlaw19_TimecodeInverse.j1 k x0 bt183.2.2.2.2.2.2 bt191.1 bt191.2 (bt191.2 != 0) bt183.1 bt183.2.1 bt183.2.2.1 bt183.2.2.2.1 bt183.2.2.2.2.1 bt183.2.2.2.2.2.1) else (cutroomlaw19_TimecodeInverse.j1 k x0 bt183.2.2.2.2.2.2 bt191.1 bt191.2 true bt183.1 bt183.2.1 bt183.2.2.1 bt183.2.2.2.1 bt183.2.2.2.2.1 bt183.2.2.2.2.2.1)))
def cutroomlaw19_TimecodeInverse.j1 : Nat → Int → Int → Int → Int → Bool → Int → Int → Int → Int → Int → Bool → Option (Bool)
  | 0, _, _, _, _, _, _, _, _, _, _, _ => none
  | k + 1, x0, x14, x15, x16, x60, x191000, x191001, x191002, x191003, x191004, x191005 => if x60 = true then (if x14 = x16 then ((cutroomlaw19_awake.f k).bind fun t193 => (some t193)) else (some false)) else ((timecode_Number.f k x191000 x191001 x191002 x191003 x191004 x191005).bind fun bt194 => (if bt194.2 = 0 then (if x15 > 0 then (if bt194.1 ≥ 0 then (if bt194.1 < x15 then (if x15 = 0 then (none) else (if (Int.tmod (wrap64 ((Int.tmod x0 x15) - bt194.1)) x15) = 0 then ((cutroomlaw19_awake.f k).bind fun t196 => (some t196)) else (some false))) else (some false)) else (some false)) else (some false)) else (some false)))
end
def cutroomlaw19_TimecodeInverse.f (k : Nat) (a0 : Int) (a1_0 : Int) (a1_1 : Int) (a1_2 : Int) (a1_3 : Int) (a1_4 : Int) (a1_5 : Bool) (a2 : Int) (a3 : Bool) : Option (Bool) := (timecode_Number.f k a1_0 a1_1 a1_2 a1_3 a1_4 a1_5).bind fun bt173 => (if bt173.2 = 0 then ((timecode_Label.f k bt173.1 a1_4 a1_5).bind fun bt175 => (if bt175.2.2.2.2.2.2 = 0 then (if (!(bt175.1 == a1_0) || (!(bt175.2.1 == a1_1) || (!(bt175.2.2.1 == a1_2) || (!(bt175.2.2.2.1 == a1_3) || (!(bt175.2.2.2.2.1 == a1_4) || (!(bt175.2.2.2.2.2.1 == a1_5))))))) = true then (some false) else (cutroomlaw19_TimecodeInverse.j0 k a0 a2 a3)) else (some false))) else (cutroomlaw19_TimecodeInverse.j0 k a0 a2 a3))
theorem cutroomlaw19_TimecodeInverse.mono_l : ∀ k, (∀ y0 y1 y2, LeO (cutroomlaw19_TimecodeInverse.j0 k y0 y1 y2) (cutroomlaw19_TimecodeInverse.j0 (k + 1) y0 y1 y2)) ∧ (∀ y0 y1 y2 y3 y4 y5 y6 y7 y8 y9 y10, LeO (cutroomlaw19_TimecodeInverse.j1 k y0 y1 y2 y3 y4 y5 y6 y7 y8 y9 y10) (cutroomlaw19_TimecodeInverse.j1 (k + 1) y0 y1 y2 y3 y4 y5 y6 y7 y8 y9 y10))
  | 0 => ⟨fun _ _ _ r h => by simp [cutroomlaw19_TimecodeInverse.j0] at h, fun _ _ _ _ _ _ _ _ _ _ _ r h => by simp [cutroomlaw19_TimecodeInverse.j1] at h⟩
  | k + 1 => by
    obtain ⟨ih0, ih1⟩ := cutroomlaw19_TimecodeInverse.mono_l k
    refine ⟨?_, ?_⟩
    · intro y0 y1 y2
      unfold cutroomlaw19_TimecodeInverse.j0
      repeat' first
      | (with_reducible exact ih0 _ _ _)
      | (with_reducible exact ih1 _ _ _ _ _ _ _ _ _ _ _)
      | (with_reducible exact cutroomlaw19_awake.mono _)
      | (with_reducible exact timecode_Day.mono _ _ _)
      | (with_reducible exact timecode_Label.mono _ _ _ _)
      | (with_reducible exact timecode_Number.mono _ _ _ _ _ _ _)
      | (with_reducible exact LeO.refl _)
      | (with_reducible exact LeO.none _)
      | (with_reducible refine LeO.ite ?_ ?_)
      | (with_reducible refine LeO.bind ?_ (fun _ => ?_))
      | exact ih0 _ _ _
      | exact ih1 _ _ _ _ _ _ _ _ _ _ _
      | exact cutroomlaw19_awake.mono _
      | exact timecode_Day.mono _ _ _
      | exact timecode_Label.mono _ _ _ _
      | exact timecode_Number.mono _ _ _ _ _ _ _
      | exact LeO.none _
      | refine LeO.ite ?_ ?_
      | refine LeO.bind ?_ (fun _ => ?_)
    · intro y0 y1 y2 y3 y4 y5 y6 y7 y8 y9 y10
      unfold cutroomlaw19_TimecodeInverse.j1
      repeat' first
      | (with_reducible exact ih0 _ _ _)
      | (with_reducible exact ih1 _ _ _ _ _ _ _ _ _ _ _)
      | (with_reducible exact cutroomlaw19_awake.mono _)
      | (with_reducible exact timecode_Day.mono _ _ _)
      | (with_reducible exact timecode_Label.mono _ _ _ _)
      | (with_reducible exact timecode_Number.mono _ _ _ _ _ _ _)
      | (with_reducible exact LeO.refl _)
      | (with_reducible exact LeO.none _)
      | (with_reducible refine LeO.ite ?_ ?_)
      | (with_reducible refine LeO.bind ?_ (fun _ => ?_))
      | exact ih0 _ _ _
      | exact ih1 _ _ _ _ _ _ _ _ _ _ _
      | exact cutroomlaw19_awake.mono _
      | exact timecode_Day.mono _ _ _
      | exact timecode_Label.mono _ _ _ _
      | exact timecode_Number.mono _ _ _ _ _ _ _
      | exact LeO.none _
      | refine LeO.ite ?_ ?_
      | refine LeO.bind ?_ (fun _ => ?_)
theorem cutroomlaw19_TimecodeInverse.mono : ∀ a0 a1 a2 a3 a4 a5 a6 a7 a8 k, LeO (cutroomlaw19_TimecodeInverse.f k a0 a1 a2 a3 a4 a5 a6 a7 a8) (cutroomlaw19_TimecodeInverse.f (k + 1) a0 a1 a2 a3 a4 a5 a6 a7 a8) := by
  intro a0 a1 a2 a3 a4 a5 a6 a7 a8 k
  obtain ⟨ih0, ih1⟩ := cutroomlaw19_TimecodeInverse.mono_l k
  unfold cutroomlaw19_TimecodeInverse.f
  repeat' first
      | (with_reducible exact ih0 _ _ _)
      | (with_reducible exact ih1 _ _ _ _ _ _ _ _ _ _ _)
      | (with_reducible exact cutroomlaw19_awake.mono _)
      | (with_reducible exact timecode_Day.mono _ _ _)
      | (with_reducible exact timecode_Label.mono _ _ _ _)
      | (with_reducible exact timecode_Number.mono _ _ _ _ _ _ _)
      | (with_reducible exact LeO.refl _)
      | (with_reducible exact LeO.none _)
      | (with_reducible refine LeO.ite ?_ ?_)
      | (with_reducible refine LeO.bind ?_ (fun _ => ?_))
      | exact ih0 _ _ _
      | exact ih1 _ _ _ _ _ _ _ _ _ _ _
      | exact cutroomlaw19_awake.mono _
      | exact timecode_Day.mono _ _ _
      | exact timecode_Label.mono _ _ _ _
      | exact timecode_Number.mono _ _ _ _ _ _ _
      | exact LeO.none _
      | refine LeO.ite ?_ ?_
      | refine LeO.bind ?_ (fun _ => ?_)
set_option maxHeartbeats 8000000 in
set_option maxRecDepth 100000 in
theorem cutroomlaw19_TimecodeInverse.calls (k : Nat) (a0 : Int) (a1_0 : Int) (a1_1 : Int) (a1_2 : Int) (a1_3 : Int) (a1_4 : Int) (a1_5 : Bool) (a2 : Int) (a3 : Bool) (r : Bool) (w : World) (h : cutroomlaw19_TimecodeInverse.f k a0 a1_0 a1_1 a1_2 a1_3 a1_4 a1_5 a2 a3 = some r) :
    Calls Try.prog 7 #[.int .i64 a0, .agg #[.int .i64 a1_0, .int .i64 a1_1, .int .i64 a1_2, .int .i64 a1_3, .int .i64 a1_4, .bool a1_5], .int .i64 a2, .bool a3] w fun e w' => e = .returned (.bool r) ∧ Below w.heap.size w w' := by
  have hu34 := Try.underlying34
  have HB := Aside0.mk (Below.refl w.heap.size w)
  have H : ((timecode_Number.f k a1_0 a1_1 a1_2 a1_3 a1_4 a1_5).bind fun bt173 => (if bt173.2 = 0 then ((timecode_Label.f k bt173.1 a1_4 a1_5).bind fun bt175 => (if bt175.2.2.2.2.2.2 = 0 then (if (!(bt175.1 == a1_0) || (!(bt175.2.1 == a1_1) || (!(bt175.2.2.1 == a1_2) || (!(bt175.2.2.2.1 == a1_3) || (!(bt175.2.2.2.2.1 == a1_4) || (!(bt175.2.2.2.2.2.1 == a1_5))))))) = true then (some false) else (cutroomlaw19_TimecodeInverse.j0 k a0 a2 a3)) else (some false))) else (cutroomlaw19_TimecodeInverse.j0 k a0 a2 a3))) = some r := h
  clear h
  replace H := Option.bind_eq_some_iff.mp H
  obtain ⟨⟨t173, t174⟩, A50, H⟩ := H
  replace H : (if t174 = 0 then ((timecode_Label.f k t173 a1_4 a1_5).bind fun bt175 => (if bt175.2.2.2.2.2.2 = 0 then (if (!(bt175.1 == a1_0) || (!(bt175.2.1 == a1_1) || (!(bt175.2.2.1 == a1_2) || (!(bt175.2.2.2.1 == a1_3) || (!(bt175.2.2.2.2.1 == a1_4) || (!(bt175.2.2.2.2.2.1 == a1_5))))))) = true then (some false) else (cutroomlaw19_TimecodeInverse.j0 k a0 a2 a3)) else (some false))) else (cutroomlaw19_TimecodeInverse.j0 k a0 a2 a3)) = some r := H
  have A5 := Aside0.mk A50
  clear A50
  have HC6 := Aside0.mk H
  clear H
  go_enter Try.func7, Try.ntmps7
  go_upto_if 25 with (first | ((with_reducible refine gate_dst (N := 5) rfl ?_); refine box_event ?hg (N := 5) ?hd (cs := #[.int .i64 a1_0, .int .i64 a1_1, .int .i64 a1_2, .int .i64 a1_3, .int .i64 a1_4, .bool a1_5]) (t := 34) ?hr ?_; (case hd => rfl); (case hg => rfl); (case hr => first | (go_simp; done) | (go_simp; rfl)); intro gb172 hg w7 hbox hb; have n0_ := Aside0.mk (below_step (by repeat (first | (with_reducible first | exact HB.out | apply below_alloc | apply pw_below_drewN | apply below_drew1) | exact HB.out)) hb); have n1_ := Aside0.mk (hbox); have n2_ := Aside0.mk ((by rw [hg]; exact (below_size (by repeat (first | (with_reducible first | exact HB.out | apply below_alloc | apply pw_below_drewN | apply below_drew1) | exact HB.out))) : w.heap.size ≤ gb172)); have n3_ := Aside0.mk ((by rw [hg]; exact (below_size (by repeat (first | (with_reducible first | exact HB.out | apply below_alloc | apply pw_below_drewN | apply below_drew1) | exact HB.out))) : w.heap.size ≤ gb172)); clear HB; have HB := n0_; have BK172 := n1_; have GW172 := n2_; have GE172 := n3_; clear n0_ n1_ n2_ n3_; clear hb hbox hg; have hcz8_0 : w7.cell? ⟨gb172, 0, none⟩ = some (.int .i64 a1_0) := (blk_cell BK172.out 0).trans rfl; have hcz8_1 : w7.cell? ⟨gb172, 1, none⟩ = some (.int .i64 a1_1) := (blk_cell BK172.out 1).trans rfl; have hcz8_2 : w7.cell? ⟨gb172, 2, none⟩ = some (.int .i64 a1_2) := (blk_cell BK172.out 2).trans rfl; have hcz8_3 : w7.cell? ⟨gb172, 3, none⟩ = some (.int .i64 a1_3) := (blk_cell BK172.out 3).trans rfl; have hcz8_4 : w7.cell? ⟨gb172, 4, none⟩ = some (.int .i64 a1_4) := (blk_cell BK172.out 4).trans rfl; have hcz8_5 : w7.cell? ⟨gb172, 5, none⟩ = some (.bool a1_5) := (blk_cell BK172.out 5).trans rfl; have hfz8_0 := blk_frozen BK172.out 0; have hfz8_1 := blk_frozen BK172.out 1; have hfz8_2 := blk_frozen BK172.out 2; have hfz8_3 := blk_frozen BK172.out 3; have hfz8_4 := blk_frozen BK172.out 4; have hfz8_5 := blk_frozen BK172.out 5) | ((with_reducible refine gate_callee (f := 25) rfl ?_); refine goesL_ (some 21) rfl rfl Try.func25 (by kernel_rfl) rfl #[.agg #[.int .i64 a1_0, .int .i64 a1_1, .int .i64 a1_2, .int .i64 a1_3, .int .i64 a1_4, .bool a1_5]] rfl (by (try simp only [List.map_toArray, List.map_cons, List.map_nil]); first | done | rfl | (simp only [List.length_drop, List.length_take]; rfl)) ?_; (with_reducible refine (timecode_Number.calls k a1_0 a1_1 a1_2 a1_3 a1_4 a1_5 t173 t174 _ A5.out).mono ?_); rintro e w9 ⟨rfl, hb⟩; refine ⟨_, rfl, ?_⟩; have n0_ := Aside0.mk (blk_below (g := gb172) (o := .cells #[.int .i64 a1_0, .int .i64 a1_1, .int .i64 a1_2, .int .i64 a1_3, .int .i64 a1_4, .bool a1_5] 34 (0, 0)) (by (with_reducible repeat (first | refine blk_drewN ?_ _ | refine blk_drew ?_ | refine blk_alloc ?_ _)); exact BK172.out) hb); have n1_ := Aside0.mk (below_step (by repeat (first | (with_reducible first | exact HB.out | apply below_alloc | apply pw_below_drewN | apply below_drew1 | refine below_set ?_ GE172.out) | exact HB.out)) hb); clear BK172; clear HB; have BK172 := n0_; have HB := n1_; clear n0_ n1_; (try clear hb); (try clear hb2); (try clear hk); (try clear hi)))
  (try simp only [Act.put, List.setIfInBounds_toArray, List.set_cons_zero, List.set_cons_succ])
  go_cut [] (fun wc => ∃ (kq : Nat), Aside0 (cutroomlaw19_TimecodeInverse.j0 kq a0 a2 a3 = some r) ∧ Aside0 (kq ≤ k) ∧ Aside0 (wc.heap[gb172]? = some (.cells #[.int .i64 a1_0, .int .i64 a1_1, .int .i64 a1_2, .int .i64 a1_3, .int .i64 a1_4, .bool a1_5] 34 (0, 0))) ∧ Aside0 (Below w.heap.size w wc))
  case first =>
    have H := HC6.out
    clear HC6
    by_cases c10 : t174 = 0
    · rw [if_pos c10] at H
      have c10b0 : (t174 == 0) = true := beq_iff_eq.mpr c10
      have c10b1 : (t174 != 0) = false := bne_eq_false_iff_eq.mpr c10
      clear c10
      (first | rw [c10b0] | (simp only [i64_w, i32_w]; rw [c10b0]) | skip)
      replace H := Option.bind_eq_some_iff.mp H
      obtain ⟨⟨t175, t176, t177, t178, t179, t180, t181⟩, A110, H⟩ := H
      replace H : (if t181 = 0 then (if (!(t175 == a1_0) || (!(t176 == a1_1) || (!(t177 == a1_2) || (!(t178 == a1_3) || (!(t179 == a1_4) || (!(t180 == a1_5))))))) = true then (some false) else (cutroomlaw19_TimecodeInverse.j0 k a0 a2 a3)) else (some false)) = some r := H
      have A11 := Aside0.mk A110
      clear A110
      by_cases c12 : t181 = 0
      · rw [if_pos c12] at H
        have c12b0 : (t181 == 0) = true := beq_iff_eq.mpr c12
        have c12b1 : (t181 != 0) = false := bne_eq_false_iff_eq.mpr c12
        clear c12
        by_cases c13 : (!(t175 == a1_0) || (!(t176 == a1_1) || (!(t177 == a1_2) || (!(t178 == a1_3) || (!(t179 == a1_4) || (!(t180 == a1_5))))))) = true
        · rw [if_pos c13] at H
          have c13b0 : (!(t175 == a1_0) || (!(t176 == a1_1) || (!(t177 == a1_2) || (!(t178 == a1_3) || (!(t179 == a1_4) || (!(t180 == a1_5))))))) = true := c13
          clear c13
          obtain rfl := Option.some.inj H
          have hcz14_0 : w9.cell? ⟨gb172, 0, none⟩ = some (.int .i64 a1_0) := (blk_cell BK172.out 0).trans rfl
          have hcz14_1 : w9.cell? ⟨gb172, 1, none⟩ = some (.int .i64 a1_1) := (blk_cell BK172.out 1).trans rfl
          have hcz14_2 : w9.cell? ⟨gb172, 2, none⟩ = some (.int .i64 a1_2) := (blk_cell BK172.out 2).trans rfl
          have hcz14_3 : w9.cell? ⟨gb172, 3, none⟩ = some (.int .i64 a1_3) := (blk_cell BK172.out 3).trans rfl
          have hcz14_4 : w9.cell? ⟨gb172, 4, none⟩ = some (.int .i64 a1_4) := (blk_cell BK172.out 4).trans rfl
          have hcz14_5 : w9.cell? ⟨gb172, 5, none⟩ = some (.bool a1_5) := (blk_cell BK172.out 5).trans rfl
          have hfz14_0 := blk_frozen BK172.out 0
          have hfz14_1 := blk_frozen BK172.out 1
          have hfz14_2 := blk_frozen BK172.out 2
          have hfz14_3 := blk_frozen BK172.out 3
          have hfz14_4 := blk_frozen BK172.out 4
          have hfz14_5 := blk_frozen BK172.out 5
          go_wp2_with (first | ((with_reducible refine gate_callee (f := 23) rfl ?_); refine goesL_ (some 32) rfl rfl Try.func23 (by kernel_rfl) rfl #[.int .i64 t173, .int .i64 a1_4, .bool a1_5] rfl (by (try simp only [List.map_toArray, List.map_cons, List.map_nil]); first | done | rfl | (simp only [List.length_drop, List.length_take]; rfl)) ?_; (with_reducible refine (timecode_Label.calls k t173 a1_4 a1_5 t175 t176 t177 t178 t179 t180 t181 _ A11.out).mono ?_); rintro e w15 ⟨rfl, hb⟩; refine ⟨_, rfl, ?_⟩; have n0_ := Aside0.mk (blk_below (g := gb172) (o := .cells #[.int .i64 a1_0, .int .i64 a1_1, .int .i64 a1_2, .int .i64 a1_3, .int .i64 a1_4, .bool a1_5] 34 (0, 0)) (by (with_reducible repeat (first | refine blk_drewN ?_ _ | refine blk_drew ?_ | refine blk_alloc ?_ _)); exact BK172.out) hb); have n1_ := Aside0.mk (below_step (by repeat (first | (with_reducible first | exact HB.out | apply below_alloc | apply pw_below_drewN | apply below_drew1 | refine below_set ?_ GE172.out) | exact HB.out)) hb); clear BK172; clear HB; have BK172 := n0_; have HB := n1_; clear n0_ n1_; (try clear hb); (try clear hb2); (try clear hk); (try clear hi)) | ((with_reducible refine gate_dst (N := 11) rfl ?_); refine box_event ?hg (N := 11) ?hd (cs := #[.int .i64 0, .int .i64 0, .int .i64 0, .int .i64 0, .int .i64 0, .bool false]) (t := 34) ?hr ?_; (case hd => rfl); (case hg => rfl); (case hr => first | (go_simp; done) | (go_simp; rfl)); intro gb182 hg w16 hbox hb; have n0_ := Aside0.mk (blk_below (g := gb172) (o := .cells #[.int .i64 a1_0, .int .i64 a1_1, .int .i64 a1_2, .int .i64 a1_3, .int .i64 a1_4, .bool a1_5] 34 (0, 0)) (by (with_reducible repeat (first | refine blk_drewN ?_ _ | refine blk_drew ?_ | refine blk_alloc ?_ _)); exact BK172.out) hb); have n1_ := Aside0.mk (below_step (by repeat (first | (with_reducible first | exact HB.out | apply below_alloc | apply pw_below_drewN | apply below_drew1 | refine below_set ?_ GE172.out) | exact HB.out)) hb); have n2_ := Aside0.mk (hbox); have n3_ := Aside0.mk ((by rw [hg]; exact (below_size (by repeat (first | (with_reducible first | exact HB.out | apply below_alloc | apply pw_below_drewN | apply below_drew1 | refine below_set ?_ GE172.out) | exact HB.out))) : w.heap.size ≤ gb182)); have n4_ := Aside0.mk ((by rw [hg]; exact (below_size (by repeat (first | (with_reducible first | exact HB.out | apply below_alloc | apply pw_below_drewN | apply below_drew1 | refine below_set ?_ GE172.out) | exact HB.out))) : w.heap.size ≤ gb182)); have n5_ := Aside0.mk ((by rw [hg]; exact Nat.ne_of_lt (blk_lt (g := gb172) (o := .cells #[.int .i64 a1_0, .int .i64 a1_1, .int .i64 a1_2, .int .i64 a1_3, .int .i64 a1_4, .bool a1_5] 34 (0, 0)) (by (with_reducible repeat (first | refine blk_drewN ?_ _ | refine blk_drew ?_ | refine blk_alloc ?_ _)); exact BK172.out)) : gb172 ≠ gb182)); have n6_ := Aside0.mk ((by rw [hg]; exact Nat.ne_of_gt (blk_lt (g := gb172) (o := .cells #[.int .i64 a1_0, .int .i64 a1_1, .int .i64 a1_2, .int .i64 a1_3, .int .i64 a1_4, .bool a1_5] 34 (0, 0)) (by (with_reducible repeat (first | refine blk_drewN ?_ _ | refine blk_drew ?_ | refine blk_alloc ?_ _)); exact BK172.out)) : gb182 ≠ gb172)); clear BK172; clear HB; have BK172 := n0_; have HB := n1_; have BK182 := n2_; have GW182 := n3_; have GE182 := n4_; have NB172_182 := n5_; have NB182_172 := n6_; clear n0_ n1_ n2_ n3_ n4_ n5_ n6_; clear hb hbox hg; have hnb17 := NB182_172.out; have hnc17 := NB172_182.out; have hcz18_0 : w16.cell? ⟨gb182, 0, none⟩ = some (.int .i64 0) := (blk_cell BK182.out 0).trans rfl; have hcz18_1 : w16.cell? ⟨gb182, 1, none⟩ = some (.int .i64 0) := (blk_cell BK182.out 1).trans rfl; have hcz18_2 : w16.cell? ⟨gb182, 2, none⟩ = some (.int .i64 0) := (blk_cell BK182.out 2).trans rfl; have hcz18_3 : w16.cell? ⟨gb182, 3, none⟩ = some (.int .i64 0) := (blk_cell BK182.out 3).trans rfl; have hcz18_4 : w16.cell? ⟨gb182, 4, none⟩ = some (.int .i64 0) := (blk_cell BK182.out 4).trans rfl; have hcz18_5 : w16.cell? ⟨gb182, 5, none⟩ = some (.bool false) := (blk_cell BK182.out 5).trans rfl; have hfz18_0 := blk_frozen BK182.out 0; have hfz18_1 := blk_frozen BK182.out 1; have hfz18_2 := blk_frozen BK182.out 2; have hfz18_3 := blk_frozen BK182.out 3; have hfz18_4 := blk_frozen BK182.out 4; have hfz18_5 := blk_frozen BK182.out 5; have hcz19_0 : w16.cell? ⟨gb172, 0, none⟩ = some (.int .i64 a1_0) := (blk_cell BK172.out 0).trans rfl; have hcz19_1 : w16.cell? ⟨gb172, 1, none⟩ = some (.int .i64 a1_1) := (blk_cell BK172.out 1).trans rfl; have hcz19_2 : w16.cell? ⟨gb172, 2, none⟩ = some (.int .i64 a1_2) := (blk_cell BK172.out 2).trans rfl; have hcz19_3 : w16.cell? ⟨gb172, 3, none⟩ = some (.int .i64 a1_3) := (blk_cell BK172.out 3).trans rfl; have hcz19_4 : w16.cell? ⟨gb172, 4, none⟩ = some (.int .i64 a1_4) := (blk_cell BK172.out 4).trans rfl; have hcz19_5 : w16.cell? ⟨gb172, 5, none⟩ = some (.bool a1_5) := (blk_cell BK172.out 5).trans rfl; have hfz19_0 := blk_frozen BK172.out 0; have hfz19_1 := blk_frozen BK172.out 1; have hfz19_2 := blk_frozen BK172.out 2; have hfz19_3 := blk_frozen BK172.out 3; have hfz19_4 := blk_frozen BK172.out 4; have hfz19_5 := blk_frozen BK172.out 5))
          go_ret
          exact ⟨by first | rfl | (simp [errW_none, errW_some] <;> rfl) | (simp [*, errW_none, errW_some] <;> rfl), by repeat (first | (with_reducible first | exact HB.out | apply below_alloc | apply pw_below_drewN | apply below_drew1 | refine below_set ?_ GE172.out | refine below_set ?_ GE182.out) | exact HB.out)⟩
        · rw [if_neg c13] at H
          have c13b0 : (!(t175 == a1_0) || (!(t176 == a1_1) || (!(t177 == a1_2) || (!(t178 == a1_3) || (!(t179 == a1_4) || (!(t180 == a1_5))))))) = false := by simpa using c13
          clear c13
          have H' := Aside0.mk H
          clear H
          have hcz20_0 : w9.cell? ⟨gb172, 0, none⟩ = some (.int .i64 a1_0) := (blk_cell BK172.out 0).trans rfl
          have hcz20_1 : w9.cell? ⟨gb172, 1, none⟩ = some (.int .i64 a1_1) := (blk_cell BK172.out 1).trans rfl
          have hcz20_2 : w9.cell? ⟨gb172, 2, none⟩ = some (.int .i64 a1_2) := (blk_cell BK172.out 2).trans rfl
          have hcz20_3 : w9.cell? ⟨gb172, 3, none⟩ = some (.int .i64 a1_3) := (blk_cell BK172.out 3).trans rfl
          have hcz20_4 : w9.cell? ⟨gb172, 4, none⟩ = some (.int .i64 a1_4) := (blk_cell BK172.out 4).trans rfl
          have hcz20_5 : w9.cell? ⟨gb172, 5, none⟩ = some (.bool a1_5) := (blk_cell BK172.out 5).trans rfl
          have hfz20_0 := blk_frozen BK172.out 0
          have hfz20_1 := blk_frozen BK172.out 1
          have hfz20_2 := blk_frozen BK172.out 2
          have hfz20_3 := blk_frozen BK172.out 3
          have hfz20_4 := blk_frozen BK172.out 4
          have hfz20_5 := blk_frozen BK172.out 5
          go_wp2_with (first | ((with_reducible refine gate_callee (f := 23) rfl ?_); refine goesL_ (some 32) rfl rfl Try.func23 (by kernel_rfl) rfl #[.int .i64 t173, .int .i64 a1_4, .bool a1_5] rfl (by (try simp only [List.map_toArray, List.map_cons, List.map_nil]); first | done | rfl | (simp only [List.length_drop, List.length_take]; rfl)) ?_; (with_reducible refine (timecode_Label.calls k t173 a1_4 a1_5 t175 t176 t177 t178 t179 t180 t181 _ A11.out).mono ?_); rintro e w21 ⟨rfl, hb⟩; refine ⟨_, rfl, ?_⟩; have n0_ := Aside0.mk (blk_below (g := gb172) (o := .cells #[.int .i64 a1_0, .int .i64 a1_1, .int .i64 a1_2, .int .i64 a1_3, .int .i64 a1_4, .bool a1_5] 34 (0, 0)) (by (with_reducible repeat (first | refine blk_drewN ?_ _ | refine blk_drew ?_ | refine blk_alloc ?_ _)); exact BK172.out) hb); have n1_ := Aside0.mk (below_step (by repeat (first | (with_reducible first | exact HB.out | apply below_alloc | apply pw_below_drewN | apply below_drew1 | refine below_set ?_ GE172.out) | exact HB.out)) hb); clear BK172; clear HB; have BK172 := n0_; have HB := n1_; clear n0_ n1_; (try clear hb); (try clear hb2); (try clear hk); (try clear hi)) | ((with_reducible refine gate_dst (N := 11) rfl ?_); refine box_event ?hg (N := 11) ?hd (cs := #[.int .i64 0, .int .i64 0, .int .i64 0, .int .i64 0, .int .i64 0, .bool false]) (t := 34) ?hr ?_; (case hd => rfl); (case hg => rfl); (case hr => first | (go_simp; done) | (go_simp; rfl)); intro gb182 hg w22 hbox hb; have n0_ := Aside0.mk (blk_below (g := gb172) (o := .cells #[.int .i64 a1_0, .int .i64 a1_1, .int .i64 a1_2, .int .i64 a1_3, .int .i64 a1_4, .bool a1_5] 34 (0, 0)) (by (with_reducible repeat (first | refine blk_drewN ?_ _ | refine blk_drew ?_ | refine blk_alloc ?_ _)); exact BK172.out) hb); have n1_ := Aside0.mk (below_step (by repeat (first | (with_reducible first | exact HB.out | apply below_alloc | apply pw_below_drewN | apply below_drew1 | refine below_set ?_ GE172.out) | exact HB.out)) hb); have n2_ := Aside0.mk (hbox); have n3_ := Aside0.mk ((by rw [hg]; exact (below_size (by repeat (first | (with_reducible first | exact HB.out | apply below_alloc | apply pw_below_drewN | apply below_drew1 | refine below_set ?_ GE172.out) | exact HB.out))) : w.heap.size ≤ gb182)); have n4_ := Aside0.mk ((by rw [hg]; exact (below_size (by repeat (first | (with_reducible first | exact HB.out | apply below_alloc | apply pw_below_drewN | apply below_drew1 | refine below_set ?_ GE172.out) | exact HB.out))) : w.heap.size ≤ gb182)); have n5_ := Aside0.mk ((by rw [hg]; exact Nat.ne_of_lt (blk_lt (g := gb172) (o := .cells #[.int .i64 a1_0, .int .i64 a1_1, .int .i64 a1_2, .int .i64 a1_3, .int .i64 a1_4, .bool a1_5] 34 (0, 0)) (by (with_reducible repeat (first | refine blk_drewN ?_ _ | refine blk_drew ?_ | refine blk_alloc ?_ _)); exact BK172.out)) : gb172 ≠ gb182)); have n6_ := Aside0.mk ((by rw [hg]; exact Nat.ne_of_gt (blk_lt (g := gb172) (o := .cells #[.int .i64 a1_0, .int .i64 a1_1, .int .i64 a1_2, .int .i64 a1_3, .int .i64 a1_4, .bool a1_5] 34 (0, 0)) (by (with_reducible repeat (first | refine blk_drewN ?_ _ | refine blk_drew ?_ | refine blk_alloc ?_ _)); exact BK172.out)) : gb182 ≠ gb172)); clear BK172; clear HB; have BK172 := n0_; have HB := n1_; have BK182 := n2_; have GW182 := n3_; have GE182 := n4_; have NB172_182 := n5_; have NB182_172 := n6_; clear n0_ n1_ n2_ n3_ n4_ n5_ n6_; clear hb hbox hg; have hnb23 := NB182_172.out; have hnc23 := NB172_182.out; have hcz24_0 : w22.cell? ⟨gb182, 0, none⟩ = some (.int .i64 0) := (blk_cell BK182.out 0).trans rfl; have hcz24_1 : w22.cell? ⟨gb182, 1, none⟩ = some (.int .i64 0) := (blk_cell BK182.out 1).trans rfl; have hcz24_2 : w22.cell? ⟨gb182, 2, none⟩ = some (.int .i64 0) := (blk_cell BK182.out 2).trans rfl; have hcz24_3 : w22.cell? ⟨gb182, 3, none⟩ = some (.int .i64 0) := (blk_cell BK182.out 3).trans rfl; have hcz24_4 : w22.cell? ⟨gb182, 4, none⟩ = some (.int .i64 0) := (blk_cell BK182.out 4).trans rfl; have hcz24_5 : w22.cell? ⟨gb182, 5, none⟩ = some (.bool false) := (blk_cell BK182.out 5).trans rfl; have hfz24_0 := blk_frozen BK182.out 0; have hfz24_1 := blk_frozen BK182.out 1; have hfz24_2 := blk_frozen BK182.out 2; have hfz24_3 := blk_frozen BK182.out 3; have hfz24_4 := blk_frozen BK182.out 4; have hfz24_5 := blk_frozen BK182.out 5; have hcz25_0 : w22.cell? ⟨gb172, 0, none⟩ = some (.int .i64 a1_0) := (blk_cell BK172.out 0).trans rfl; have hcz25_1 : w22.cell? ⟨gb172, 1, none⟩ = some (.int .i64 a1_1) := (blk_cell BK172.out 1).trans rfl; have hcz25_2 : w22.cell? ⟨gb172, 2, none⟩ = some (.int .i64 a1_2) := (blk_cell BK172.out 2).trans rfl; have hcz25_3 : w22.cell? ⟨gb172, 3, none⟩ = some (.int .i64 a1_3) := (blk_cell BK172.out 3).trans rfl; have hcz25_4 : w22.cell? ⟨gb172, 4, none⟩ = some (.int .i64 a1_4) := (blk_cell BK172.out 4).trans rfl; have hcz25_5 : w22.cell? ⟨gb172, 5, none⟩ = some (.bool a1_5) := (blk_cell BK172.out 5).trans rfl; have hfz25_0 := blk_frozen BK172.out 0; have hfz25_1 := blk_frozen BK172.out 1; have hfz25_2 := blk_frozen BK172.out 2; have hfz25_3 := blk_frozen BK172.out 3; have hfz25_4 := blk_frozen BK172.out 4; have hfz25_5 := blk_frozen BK172.out 5))
          go_meet
          case rel => exact ⟨_, H', ⟨by first | omega | exact Nat.le_refl _⟩, ⟨by (with_reducible repeat (first | refine blk_drewN ?_ _ | refine blk_drew ?_ | refine blk_alloc ?_ _)); refine blk_far ?_ NB172_182.out _; (with_reducible repeat (first | refine blk_drewN ?_ _ | refine blk_drew ?_ | refine blk_alloc ?_ _)); refine blk_far ?_ NB172_182.out _; (with_reducible repeat (first | refine blk_drewN ?_ _ | refine blk_drew ?_ | refine blk_alloc ?_ _)); refine blk_far ?_ NB172_182.out _; (with_reducible repeat (first | refine blk_drewN ?_ _ | refine blk_drew ?_ | refine blk_alloc ?_ _)); refine blk_far ?_ NB172_182.out _; (with_reducible repeat (first | refine blk_drewN ?_ _ | refine blk_drew ?_ | refine blk_alloc ?_ _)); refine blk_far ?_ NB172_182.out _; (with_reducible repeat (first | refine blk_drewN ?_ _ | refine blk_drew ?_ | refine blk_alloc ?_ _)); refine blk_far ?_ NB172_182.out _; (with_reducible repeat (first | refine blk_drewN ?_ _ | refine blk_drew ?_ | refine blk_alloc ?_ _)); exact BK172.out⟩, ⟨by repeat (first | (with_reducible first | exact HB.out | apply below_alloc | apply pw_below_drewN | apply below_drew1 | refine below_set ?_ GE172.out | refine below_set ?_ GE182.out) | exact HB.out)⟩⟩
      · rw [if_neg c12] at H
        have c12b0 : (t181 == 0) = false := beq_eq_false_iff_ne.mpr c12
        have c12b1 : (t181 != 0) = true := bne_iff_ne.mpr c12
        obtain rfl := Option.some.inj H
        have hcz26_0 : w9.cell? ⟨gb172, 0, none⟩ = some (.int .i64 a1_0) := (blk_cell BK172.out 0).trans rfl
        have hcz26_1 : w9.cell? ⟨gb172, 1, none⟩ = some (.int .i64 a1_1) := (blk_cell BK172.out 1).trans rfl
        have hcz26_2 : w9.cell? ⟨gb172, 2, none⟩ = some (.int .i64 a1_2) := (blk_cell BK172.out 2).trans rfl
        have hcz26_3 : w9.cell? ⟨gb172, 3, none⟩ = some (.int .i64 a1_3) := (blk_cell BK172.out 3).trans rfl
        have hcz26_4 : w9.cell? ⟨gb172, 4, none⟩ = some (.int .i64 a1_4) := (blk_cell BK172.out 4).trans rfl
        have hcz26_5 : w9.cell? ⟨gb172, 5, none⟩ = some (.bool a1_5) := (blk_cell BK172.out 5).trans rfl
        have hfz26_0 := blk_frozen BK172.out 0
        have hfz26_1 := blk_frozen BK172.out 1
        have hfz26_2 := blk_frozen BK172.out 2
        have hfz26_3 := blk_frozen BK172.out 3
        have hfz26_4 := blk_frozen BK172.out 4
        have hfz26_5 := blk_frozen BK172.out 5
        go_wp2_with (first | ((with_reducible refine gate_callee (f := 23) rfl ?_); refine goesL_ (some 32) rfl rfl Try.func23 (by kernel_rfl) rfl #[.int .i64 t173, .int .i64 a1_4, .bool a1_5] rfl (by (try simp only [List.map_toArray, List.map_cons, List.map_nil]); first | done | rfl | (simp only [List.length_drop, List.length_take]; rfl)) ?_; (with_reducible refine (timecode_Label.calls k t173 a1_4 a1_5 t175 t176 t177 t178 t179 t180 t181 _ A11.out).mono ?_); rintro e w27 ⟨rfl, hb⟩; refine ⟨_, rfl, ?_⟩; have n0_ := Aside0.mk (blk_below (g := gb172) (o := .cells #[.int .i64 a1_0, .int .i64 a1_1, .int .i64 a1_2, .int .i64 a1_3, .int .i64 a1_4, .bool a1_5] 34 (0, 0)) (by (with_reducible repeat (first | refine blk_drewN ?_ _ | refine blk_drew ?_ | refine blk_alloc ?_ _)); exact BK172.out) hb); have n1_ := Aside0.mk (below_step (by repeat (first | (with_reducible first | exact HB.out | apply below_alloc | apply pw_below_drewN | apply below_drew1 | refine below_set ?_ GE172.out) | exact HB.out)) hb); clear BK172; clear HB; have BK172 := n0_; have HB := n1_; clear n0_ n1_; (try clear hb); (try clear hb2); (try clear hk); (try clear hi)) | ((with_reducible refine gate_dst (N := 11) rfl ?_); refine box_event ?hg (N := 11) ?hd (cs := #[.int .i64 0, .int .i64 0, .int .i64 0, .int .i64 0, .int .i64 0, .bool false]) (t := 34) ?hr ?_; (case hd => rfl); (case hg => rfl); (case hr => first | (go_simp; done) | (go_simp; rfl)); intro gb182 hg w28 hbox hb; have n0_ := Aside0.mk (blk_below (g := gb172) (o := .cells #[.int .i64 a1_0, .int .i64 a1_1, .int .i64 a1_2, .int .i64 a1_3, .int .i64 a1_4, .bool a1_5] 34 (0, 0)) (by (with_reducible repeat (first | refine blk_drewN ?_ _ | refine blk_drew ?_ | refine blk_alloc ?_ _)); exact BK172.out) hb); have n1_ := Aside0.mk (below_step (by repeat (first | (with_reducible first | exact HB.out | apply below_alloc | apply pw_below_drewN | apply below_drew1 | refine below_set ?_ GE172.out) | exact HB.out)) hb); have n2_ := Aside0.mk (hbox); have n3_ := Aside0.mk ((by rw [hg]; exact (below_size (by repeat (first | (with_reducible first | exact HB.out | apply below_alloc | apply pw_below_drewN | apply below_drew1 | refine below_set ?_ GE172.out) | exact HB.out))) : w.heap.size ≤ gb182)); have n4_ := Aside0.mk ((by rw [hg]; exact (below_size (by repeat (first | (with_reducible first | exact HB.out | apply below_alloc | apply pw_below_drewN | apply below_drew1 | refine below_set ?_ GE172.out) | exact HB.out))) : w.heap.size ≤ gb182)); have n5_ := Aside0.mk ((by rw [hg]; exact Nat.ne_of_lt (blk_lt (g := gb172) (o := .cells #[.int .i64 a1_0, .int .i64 a1_1, .int .i64 a1_2, .int .i64 a1_3, .int .i64 a1_4, .bool a1_5] 34 (0, 0)) (by (with_reducible repeat (first | refine blk_drewN ?_ _ | refine blk_drew ?_ | refine blk_alloc ?_ _)); exact BK172.out)) : gb172 ≠ gb182)); have n6_ := Aside0.mk ((by rw [hg]; exact Nat.ne_of_gt (blk_lt (g := gb172) (o := .cells #[.int .i64 a1_0, .int .i64 a1_1, .int .i64 a1_2, .int .i64 a1_3, .int .i64 a1_4, .bool a1_5] 34 (0, 0)) (by (with_reducible repeat (first | refine blk_drewN ?_ _ | refine blk_drew ?_ | refine blk_alloc ?_ _)); exact BK172.out)) : gb182 ≠ gb172)); clear BK172; clear HB; have BK172 := n0_; have HB := n1_; have BK182 := n2_; have GW182 := n3_; have GE182 := n4_; have NB172_182 := n5_; have NB182_172 := n6_; clear n0_ n1_ n2_ n3_ n4_ n5_ n6_; clear hb hbox hg; have hnb29 := NB182_172.out; have hnc29 := NB172_182.out; have hcz30_0 : w28.cell? ⟨gb182, 0, none⟩ = some (.int .i64 0) := (blk_cell BK182.out 0).trans rfl; have hcz30_1 : w28.cell? ⟨gb182, 1, none⟩ = some (.int .i64 0) := (blk_cell BK182.out 1).trans rfl; have hcz30_2 : w28.cell? ⟨gb182, 2, none⟩ = some (.int .i64 0) := (blk_cell BK182.out 2).trans rfl; have hcz30_3 : w28.cell? ⟨gb182, 3, none⟩ = some (.int .i64 0) := (blk_cell BK182.out 3).trans rfl; have hcz30_4 : w28.cell? ⟨gb182, 4, none⟩ = some (.int .i64 0) := (blk_cell BK182.out 4).trans rfl; have hcz30_5 : w28.cell? ⟨gb182, 5, none⟩ = some (.bool false) := (blk_cell BK182.out 5).trans rfl; have hfz30_0 := blk_frozen BK182.out 0; have hfz30_1 := blk_frozen BK182.out 1; have hfz30_2 := blk_frozen BK182.out 2; have hfz30_3 := blk_frozen BK182.out 3; have hfz30_4 := blk_frozen BK182.out 4; have hfz30_5 := blk_frozen BK182.out 5))
        go_ret
        exact ⟨by first | rfl | (simp [errW_none, errW_some] <;> rfl) | (simp [*, errW_none, errW_some] <;> rfl), by repeat (first | (with_reducible first | exact HB.out | apply below_alloc | apply pw_below_drewN | apply below_drew1 | refine below_set ?_ GE172.out | refine below_set ?_ GE182.out) | exact HB.out)⟩
    · rw [if_neg c10] at H
      have c10b0 : (t174 == 0) = false := beq_eq_false_iff_ne.mpr c10
      have c10b1 : (t174 != 0) = true := bne_iff_ne.mpr c10
      (first | rw [c10b0] | (simp only [i64_w, i32_w]; rw [c10b0]) | skip)
      have H' := Aside0.mk H
      clear H
      go_wp2
      go_meet
      case rel => exact ⟨_, H', ⟨by first | omega | exact Nat.le_refl _⟩, ⟨by (with_reducible repeat (first | refine blk_drewN ?_ _ | refine blk_drew ?_ | refine blk_alloc ?_ _)); exact BK172.out⟩, ⟨by repeat (first | (with_reducible first | exact HB.out | apply below_alloc | apply pw_below_drewN | apply below_drew1 | refine below_set ?_ GE172.out) | exact HB.out)⟩⟩
  case rest =>
    clear HC6
    try clear c1
    try clear c2
    try clear p2
    try clear c7
    try clear c10
    try clear c10b0
    try clear c10b1
    try clear c12
    try clear c12b0
    try clear c12b1
    try clear c13
    try clear c13b0
    try clear c17
    try clear c23
    try clear c25
    try clear c29
    try clear hcz14_0
    try clear hcz14_1
    try clear hcz14_2
    try clear hcz14_3
    try clear hcz14_4
    try clear hcz14_5
    try clear hcz18_0
    try clear hcz18_1
    try clear hcz18_2
    try clear hcz18_3
    try clear hcz18_4
    try clear hcz18_5
    try clear hcz19_0
    try clear hcz19_1
    try clear hcz19_2
    try clear hcz19_3
    try clear hcz19_4
    try clear hcz19_5
    try clear hcz20_0
    try clear hcz20_1
    try clear hcz20_2
    try clear hcz20_3
    try clear hcz20_4
    try clear hcz20_5
    try clear hcz24_0
    try clear hcz24_1
    try clear hcz24_2
    try clear hcz24_3
    try clear hcz24_4
    try clear hcz24_5
    try clear hcz25_0
    try clear hcz25_1
    try clear hcz25_2
    try clear hcz25_3
    try clear hcz25_4
    try clear hcz25_5
    try clear hcz26_0
    try clear hcz26_1
    try clear hcz26_2
    try clear hcz26_3
    try clear hcz26_4
    try clear hcz26_5
    try clear hcz30_0
    try clear hcz30_1
    try clear hcz30_2
    try clear hcz30_3
    try clear hcz30_4
    try clear hcz30_5
    try clear hcz8_0
    try clear hcz8_1
    try clear hcz8_2
    try clear hcz8_3
    try clear hcz8_4
    try clear hcz8_5
    try clear hfz14_0
    try clear hfz14_1
    try clear hfz14_2
    try clear hfz14_3
    try clear hfz14_4
    try clear hfz14_5
    try clear hfz18_0
    try clear hfz18_1
    try clear hfz18_2
    try clear hfz18_3
    try clear hfz18_4
    try clear hfz18_5
    try clear hfz19_0
    try clear hfz19_1
    try clear hfz19_2
    try clear hfz19_3
    try clear hfz19_4
    try clear hfz19_5
    try clear hfz20_0
    try clear hfz20_1
    try clear hfz20_2
    try clear hfz20_3
    try clear hfz20_4
    try clear hfz20_5
    try clear hfz24_0
    try clear hfz24_1
    try clear hfz24_2
    try clear hfz24_3
    try clear hfz24_4
    try clear hfz24_5
    try clear hfz25_0
    try clear hfz25_1
    try clear hfz25_2
    try clear hfz25_3
    try clear hfz25_4
    try clear hfz25_5
    try clear hfz26_0
    try clear hfz26_1
    try clear hfz26_2
    try clear hfz26_3
    try clear hfz26_4
    try clear hfz26_5
    try clear hfz30_0
    try clear hfz30_1
    try clear hfz30_2
    try clear hfz30_3
    try clear hfz30_4
    try clear hfz30_5
    try clear hfz8_0
    try clear hfz8_1
    try clear hfz8_2
    try clear hfz8_3
    try clear hfz8_4
    try clear hfz8_5
    obtain ⟨kq, HA, HJ5, BK172, HB⟩ := hcut
    cases kq with
    | zero => exact absurd HA.out (by simp [cutroomlaw19_TimecodeInverse.j0])
    | succ kj5 =>
      have H := HA.out
      clear HA
      simp only [cutroomlaw19_TimecodeInverse.j0] at H
      replace H := Option.bind_eq_some_iff.mp H
      obtain ⟨⟨t183, t184, t185, t186, t187, t188, t189⟩, A310, H⟩ := H
      replace H : ((timecode_Day.f kj5 a2 a3).bind fun bt191 => (if t189 = 0 then (cutroomlaw19_TimecodeInverse.j1 kj5 a0 t189 bt191.1 bt191.2 (bt191.2 != 0) t183 t184 t185 t186 t187 t188) else (cutroomlaw19_TimecodeInverse.j1 kj5 a0 t189 bt191.1 bt191.2 true t183 t184 t185 t186 t187 t188))) = some r := H
      have A31 := Aside0.mk A310
      clear A310
      replace H := Option.bind_eq_some_iff.mp H
      obtain ⟨⟨t191, t192⟩, A320, H⟩ := H
      replace H : (if t189 = 0 then (cutroomlaw19_TimecodeInverse.j1 kj5 a0 t189 t191 t192 (t192 != 0) t183 t184 t185 t186 t187 t188) else (cutroomlaw19_TimecodeInverse.j1 kj5 a0 t189 t191 t192 true t183 t184 t185 t186 t187 t188)) = some r := H
      have A32 := Aside0.mk A320
      clear A320
      have HC33 := Aside0.mk H
      clear H
      go_upto_region 8 with (first | ((with_reducible refine gate_callee (f := 23) rfl ?_); refine goesL_ (some 46) rfl rfl Try.func23 (by kernel_rfl) rfl #[.int .i64 a0, .int .i64 a2, .bool a3] rfl (by (try simp only [List.map_toArray, List.map_cons, List.map_nil]); first | done | rfl | (simp only [List.length_drop, List.length_take]; rfl)) ?_; (with_reducible refine (timecode_Label.calls kj5 a0 a2 a3 t183 t184 t185 t186 t187 t188 t189 _ A31.out).mono ?_); rintro e w34 ⟨rfl, hb⟩; refine ⟨_, rfl, ?_⟩; have n0_ := Aside0.mk (blk_below (g := gb172) (o := .cells #[.int .i64 a1_0, .int .i64 a1_1, .int .i64 a1_2, .int .i64 a1_3, .int .i64 a1_4, .bool a1_5] 34 (0, 0)) (by (with_reducible repeat (first | refine blk_drewN ?_ _ | refine blk_drew ?_ | refine blk_alloc ?_ _)); exact BK172.out) hb); have n1_ := Aside0.mk (below_step (by repeat (first | (with_reducible first | exact HB.out | apply below_alloc | apply pw_below_drewN | apply below_drew1 | refine below_set ?_ GE172.out) | exact HB.out)) hb); clear BK172; clear HB; have BK172 := n0_; have HB := n1_; clear n0_ n1_; (try clear hb); (try clear hb2); (try clear hk); (try clear hi)) | ((with_reducible refine gate_dst (N := 13) rfl ?_); refine box_event ?hg (N := 13) ?hd (cs := #[.int .i64 0, .int .i64 0, .int .i64 0, .int .i64 0, .int .i64 0, .bool false]) (t := 34) ?hr ?_; (case hd => rfl); (case hg => rfl); (case hr => first | (go_simp; done) | (go_simp; rfl)); intro gb190 hg w35 hbox hb; have n0_ := Aside0.mk (blk_below (g := gb172) (o := .cells #[.int .i64 a1_0, .int .i64 a1_1, .int .i64 a1_2, .int .i64 a1_3, .int .i64 a1_4, .bool a1_5] 34 (0, 0)) (by (with_reducible repeat (first | refine blk_drewN ?_ _ | refine blk_drew ?_ | refine blk_alloc ?_ _)); exact BK172.out) hb); have n1_ := Aside0.mk (below_step (by repeat (first | (with_reducible first | exact HB.out | apply below_alloc | apply pw_below_drewN | apply below_drew1 | refine below_set ?_ GE172.out) | exact HB.out)) hb); have n2_ := Aside0.mk (hbox); have n3_ := Aside0.mk ((by rw [hg]; exact (below_size (by repeat (first | (with_reducible first | exact HB.out | apply below_alloc | apply pw_below_drewN | apply below_drew1 | refine below_set ?_ GE172.out) | exact HB.out))) : w.heap.size ≤ gb190)); have n4_ := Aside0.mk ((by rw [hg]; exact (below_size (by repeat (first | (with_reducible first | exact HB.out | apply below_alloc | apply pw_below_drewN | apply below_drew1 | refine below_set ?_ GE172.out) | exact HB.out))) : w.heap.size ≤ gb190)); have n5_ := Aside0.mk ((by rw [hg]; exact Nat.ne_of_lt (blk_lt (g := gb172) (o := .cells #[.int .i64 a1_0, .int .i64 a1_1, .int .i64 a1_2, .int .i64 a1_3, .int .i64 a1_4, .bool a1_5] 34 (0, 0)) (by (with_reducible repeat (first | refine blk_drewN ?_ _ | refine blk_drew ?_ | refine blk_alloc ?_ _)); exact BK172.out)) : gb172 ≠ gb190)); have n6_ := Aside0.mk ((by rw [hg]; exact Nat.ne_of_gt (blk_lt (g := gb172) (o := .cells #[.int .i64 a1_0, .int .i64 a1_1, .int .i64 a1_2, .int .i64 a1_3, .int .i64 a1_4, .bool a1_5] 34 (0, 0)) (by (with_reducible repeat (first | refine blk_drewN ?_ _ | refine blk_drew ?_ | refine blk_alloc ?_ _)); exact BK172.out)) : gb190 ≠ gb172)); clear BK172; clear HB; have BK172 := n0_; have HB := n1_; have BK190 := n2_; have GW190 := n3_; have GE190 := n4_; have NB172_190 := n5_; have NB190_172 := n6_; clear n0_ n1_ n2_ n3_ n4_ n5_ n6_; clear hb hbox hg; have hnb36 := NB190_172.out; have hnc36 := NB172_190.out; have hcz37_0 : w35.cell? ⟨gb190, 0, none⟩ = some (.int .i64 0) := (blk_cell BK190.out 0).trans rfl; have hcz37_1 : w35.cell? ⟨gb190, 1, none⟩ = some (.int .i64 0) := (blk_cell BK190.out 1).trans rfl; have hcz37_2 : w35.cell? ⟨gb190, 2, none⟩ = some (.int .i64 0) := (blk_cell BK190.out 2).trans rfl; have hcz37_3 : w35.cell? ⟨gb190, 3, none⟩ = some (.int .i64 0) := (blk_cell BK190.out 3).trans rfl; have hcz37_4 : w35.cell? ⟨gb190, 4, none⟩ = some (.int .i64 0) := (blk_cell BK190.out 4).trans rfl; have hcz37_5 : w35.cell? ⟨gb190, 5, none⟩ = some (.bool false) := (blk_cell BK190.out 5).trans rfl; have hfz37_0 := blk_frozen BK190.out 0; have hfz37_1 := blk_frozen BK190.out 1; have hfz37_2 := blk_frozen BK190.out 2; have hfz37_3 := blk_frozen BK190.out 3; have hfz37_4 := blk_frozen BK190.out 4; have hfz37_5 := blk_frozen BK190.out 5) | ((with_reducible refine gate_callee (f := 21) rfl ?_); refine goesL_ (some 52) rfl rfl Try.func21 (by kernel_rfl) rfl #[.int .i64 a2, .bool a3] rfl (by (try simp only [List.map_toArray, List.map_cons, List.map_nil]); first | done | rfl | (simp only [List.length_drop, List.length_take]; rfl)) ?_; (with_reducible refine (timecode_Day.calls kj5 a2 a3 t191 t192 _ A32.out).mono ?_); rintro e w38 ⟨rfl, hb⟩; refine ⟨_, rfl, ?_⟩; have n0_ := Aside0.mk (blk_below (g := gb172) (o := .cells #[.int .i64 a1_0, .int .i64 a1_1, .int .i64 a1_2, .int .i64 a1_3, .int .i64 a1_4, .bool a1_5] 34 (0, 0)) (by (with_reducible repeat (first | refine blk_drewN ?_ _ | refine blk_drew ?_ | refine blk_alloc ?_ _)); refine blk_far ?_ NB172_190.out _; (with_reducible repeat (first | refine blk_drewN ?_ _ | refine blk_drew ?_ | refine blk_alloc ?_ _)); refine blk_far ?_ NB172_190.out _; (with_reducible repeat (first | refine blk_drewN ?_ _ | refine blk_drew ?_ | refine blk_alloc ?_ _)); refine blk_far ?_ NB172_190.out _; (with_reducible repeat (first | refine blk_drewN ?_ _ | refine blk_drew ?_ | refine blk_alloc ?_ _)); refine blk_far ?_ NB172_190.out _; (with_reducible repeat (first | refine blk_drewN ?_ _ | refine blk_drew ?_ | refine blk_alloc ?_ _)); refine blk_far ?_ NB172_190.out _; (with_reducible repeat (first | refine blk_drewN ?_ _ | refine blk_drew ?_ | refine blk_alloc ?_ _)); refine blk_far ?_ NB172_190.out _; (with_reducible repeat (first | refine blk_drewN ?_ _ | refine blk_drew ?_ | refine blk_alloc ?_ _)); exact BK172.out) hb); have n1_ := Aside0.mk (blk_below (g := gb190) (o := .cells #[.int .i64 t183, .int .i64 t184, .int .i64 t185, .int .i64 t186, .int .i64 t187, .bool t188] 34 (0, 0)) (by (with_reducible repeat (first | refine blk_drewN ?_ _ | refine blk_drew ?_ | refine blk_alloc ?_ _)); refine blk_put (cs := #[.int .i64 t183, .int .i64 t184, .int .i64 t185, .int .i64 t186, .int .i64 t187, .bool false]) ?_ 5 _ rfl; (with_reducible repeat (first | refine blk_drewN ?_ _ | refine blk_drew ?_ | refine blk_alloc ?_ _)); refine blk_put (cs := #[.int .i64 t183, .int .i64 t184, .int .i64 t185, .int .i64 t186, .int .i64 0, .bool false]) ?_ 4 _ rfl; (with_reducible repeat (first | refine blk_drewN ?_ _ | refine blk_drew ?_ | refine blk_alloc ?_ _)); refine blk_put (cs := #[.int .i64 t183, .int .i64 t184, .int .i64 t185, .int .i64 0, .int .i64 0, .bool false]) ?_ 3 _ rfl; (with_reducible repeat (first | refine blk_drewN ?_ _ | refine blk_drew ?_ | refine blk_alloc ?_ _)); refine blk_put (cs := #[.int .i64 t183, .int .i64 t184, .int .i64 0, .int .i64 0, .int .i64 0, .bool false]) ?_ 2 _ rfl; (with_reducible repeat (first | refine blk_drewN ?_ _ | refine blk_drew ?_ | refine blk_alloc ?_ _)); refine blk_put (cs := #[.int .i64 t183, .int .i64 0, .int .i64 0, .int .i64 0, .int .i64 0, .bool false]) ?_ 1 _ rfl; (with_reducible repeat (first | refine blk_drewN ?_ _ | refine blk_drew ?_ | refine blk_alloc ?_ _)); refine blk_put (cs := #[.int .i64 0, .int .i64 0, .int .i64 0, .int .i64 0, .int .i64 0, .bool false]) ?_ 0 _ rfl; (with_reducible repeat (first | refine blk_drewN ?_ _ | refine blk_drew ?_ | refine blk_alloc ?_ _)); exact BK190.out) hb); have n2_ := Aside0.mk (below_step (by repeat (first | (with_reducible first | exact HB.out | apply below_alloc | apply pw_below_drewN | apply below_drew1 | refine below_set ?_ GE172.out | refine below_set ?_ GE190.out) | exact HB.out)) hb); clear BK172; clear BK190; clear HB; have BK172 := n0_; have BK190 := n1_; have HB := n2_; clear n0_ n1_ n2_; (try clear hb); (try clear hb2); (try clear hk); (try clear hi)))
      (try simp only [Act.put, List.setIfInBounds_toArray, List.set_cons_zero, List.set_cons_succ])
      go_cut [60] (fun v60 wc => ∃ (kq : Nat) (x60_32 : Bool), v60 = .bool x60_32 ∧ Aside0 (cutroomlaw19_TimecodeInverse.j1 kq a0 t189 t191 t192 x60_32 t183 t184 t185 t186 t187 t188 = some r) ∧ Aside0 (kq ≤ kj5) ∧ Aside0 (wc.heap[gb172]? = some (.cells #[.int .i64 a1_0, .int .i64 a1_1, .int .i64 a1_2, .int .i64 a1_3, .int .i64 a1_4, .bool a1_5] 34 (0, 0))) ∧ Aside0 (wc.heap[gb190]? = some (.cells #[.int .i64 t183, .int .i64 t184, .int .i64 t185, .int .i64 t186, .int .i64 t187, .bool t188] 34 (0, 0))) ∧ Aside0 (Below w.heap.size w wc))
      case first =>
        have H := HC33.out
        clear HC33
        by_cases c39 : t189 = 0
        · rw [if_pos c39] at H
          have c39b0 : (t189 == 0) = true := beq_iff_eq.mpr c39
          have c39b1 : (t189 != 0) = false := bne_eq_false_iff_eq.mpr c39
          clear c39
          (first | rw [c39b0] | (simp only [i64_w, i32_w]; rw [c39b0]) | skip)
          have H' := Aside0.mk H
          clear H
          go_wp2
          go_meet
          case rel => exact ⟨_, ((t192 != 0)), (by first | rfl | (simp; done) | (simp [*]; done)), H', ⟨by have := HJ5.out; first | omega | exact Nat.le_refl _⟩, ⟨by (with_reducible repeat (first | refine blk_drewN ?_ _ | refine blk_drew ?_ | refine blk_alloc ?_ _)); exact BK172.out⟩, ⟨by (with_reducible repeat (first | refine blk_drewN ?_ _ | refine blk_drew ?_ | refine blk_alloc ?_ _)); exact BK190.out⟩, ⟨by repeat (first | (with_reducible first | exact HB.out | apply below_alloc | apply pw_below_drewN | apply below_drew1 | refine below_set ?_ GE172.out | refine below_set ?_ GE190.out) | exact HB.out)⟩⟩
        · rw [if_neg c39] at H
          have c39b0 : (t189 == 0) = false := beq_eq_false_iff_ne.mpr c39
          have c39b1 : (t189 != 0) = true := bne_iff_ne.mpr c39
          (first | rw [c39b0] | (simp only [i64_w, i32_w]; rw [c39b0]) | skip)
          have H' := Aside0.mk H
          clear H
          go_wp2
          go_meet
          case rel => exact ⟨_, (true), (by first | rfl | (simp; done) | (simp [*]; done)), H', ⟨by have := HJ5.out; first | omega | exact Nat.le_refl _⟩, ⟨by (with_reducible repeat (first | refine blk_drewN ?_ _ | refine blk_drew ?_ | refine blk_alloc ?_ _)); exact BK172.out⟩, ⟨by (with_reducible repeat (first | refine blk_drewN ?_ _ | refine blk_drew ?_ | refine blk_alloc ?_ _)); exact BK190.out⟩, ⟨by repeat (first | (with_reducible first | exact HB.out | apply below_alloc | apply pw_below_drewN | apply below_drew1 | refine below_set ?_ GE172.out | refine below_set ?_ GE190.out) | exact HB.out)⟩⟩
      case rest =>
        clear HC33
        try clear c1
        try clear c2
        try clear p2
        try clear c3
        try clear c7
        try clear c10
        try clear c10b0
        try clear c10b1
        try clear c12
        try clear c12b0
        try clear c12b1
        try clear c13
        try clear c13b0
        try clear c17
        try clear c21
        try clear c23
        try clear c25
        try clear c29
        try clear c36
        try clear c39
        try clear c39b0
        try clear c39b1
        try clear hcz14_0
        try clear hcz14_1
        try clear hcz14_2
        try clear hcz14_3
        try clear hcz14_4
        try clear hcz14_5
        try clear hcz18_0
        try clear hcz18_1
        try clear hcz18_2
        try clear hcz18_3
        try clear hcz18_4
        try clear hcz18_5
        try clear hcz19_0
        try clear hcz19_1
        try clear hcz19_2
        try clear hcz19_3
        try clear hcz19_4
        try clear hcz19_5
        try clear hcz20_0
        try clear hcz20_1
        try clear hcz20_2
        try clear hcz20_3
        try clear hcz20_4
        try clear hcz20_5
        try clear hcz24_0
        try clear hcz24_1
        try clear hcz24_2
        try clear hcz24_3
        try clear hcz24_4
        try clear hcz24_5
        try clear hcz25_0
        try clear hcz25_1
        try clear hcz25_2
        try clear hcz25_3
        try clear hcz25_4
        try clear hcz25_5
        try clear hcz26_0
        try clear hcz26_1
        try clear hcz26_2
        try clear hcz26_3
        try clear hcz26_4
        try clear hcz26_5
        try clear hcz30_0
        try clear hcz30_1
        try clear hcz30_2
        try clear hcz30_3
        try clear hcz30_4
        try clear hcz30_5
        try clear hcz37_0
        try clear hcz37_1
        try clear hcz37_2
        try clear hcz37_3
        try clear hcz37_4
        try clear hcz37_5
        try clear hcz8_0
        try clear hcz8_1
        try clear hcz8_2
        try clear hcz8_3
        try clear hcz8_4
        try clear hcz8_5
        try clear hfz14_0
        try clear hfz14_1
        try clear hfz14_2
        try clear hfz14_3
        try clear hfz14_4
        try clear hfz14_5
        try clear hfz18_0
        try clear hfz18_1
        try clear hfz18_2
        try clear hfz18_3
        try clear hfz18_4
        try clear hfz18_5
        try clear hfz19_0
        try clear hfz19_1
        try clear hfz19_2
        try clear hfz19_3
        try clear hfz19_4
        try clear hfz19_5
        try clear hfz20_0
        try clear hfz20_1
        try clear hfz20_2
        try clear hfz20_3
        try clear hfz20_4
        try clear hfz20_5
        try clear hfz24_0
        try clear hfz24_1
        try clear hfz24_2
        try clear hfz24_3
        try clear hfz24_4
        try clear hfz24_5
        try clear hfz25_0
        try clear hfz25_1
        try clear hfz25_2
        try clear hfz25_3
        try clear hfz25_4
        try clear hfz25_5
        try clear hfz26_0
        try clear hfz26_1
        try clear hfz26_2
        try clear hfz26_3
        try clear hfz26_4
        try clear hfz26_5
        try clear hfz30_0
        try clear hfz30_1
        try clear hfz30_2
        try clear hfz30_3
        try clear hfz30_4
        try clear hfz30_5
        try clear hfz37_0
        try clear hfz37_1
        try clear hfz37_2
        try clear hfz37_3
        try clear hfz37_4
        try clear hfz37_5
        try clear hfz8_0
        try clear hfz8_1
        try clear hfz8_2
        try clear hfz8_3
        try clear hfz8_4
        try clear hfz8_5
        try clear p2
        obtain ⟨kq, x60_32, rfl, HA, HJ32, BK172, BK190, HB⟩ := hcut
        cases kq with
        | zero => exact absurd HA.out (by simp [cutroomlaw19_TimecodeInverse.j1])
        | succ kj32 =>
          have H := HA.out
          clear HA
          simp only [cutroomlaw19_TimecodeInverse.j1] at H
          by_cases c40 : x60_32 = true
          · subst c40
            have H1 : (if t189 = t192 then ((cutroomlaw19_awake.f kj32).bind fun t193 => (some t193)) else (some false)) = some r := by rw [if_pos rfl] at H; exact H
            clear H
            have H := H1
            clear H1
            by_cases c41 : t189 = t192
            · rw [if_pos c41] at H
              have c41b0 : (t189 == t192) = true := beq_iff_eq.mpr c41
              have c41b1 : (t189 != t192) = false := bne_eq_false_iff_eq.mpr c41
              clear c41
              replace H := Option.bind_eq_some_iff.mp H
              obtain ⟨t193, A420, H⟩ := H
              replace H : (some t193) = some r := H
              have A42 := Aside0.mk A420
              clear A420
              obtain rfl := Option.some.inj H
              go_wp2_with (first | (go_at_call 20; (with_reducible refine (cutroomlaw19_awake.calls kj32  t193 _ A42.out).mono ?_); rintro e w43 ⟨rfl, hb⟩; have n0_ := Aside0.mk (blk_below (g := gb172) (o := .cells #[.int .i64 a1_0, .int .i64 a1_1, .int .i64 a1_2, .int .i64 a1_3, .int .i64 a1_4, .bool a1_5] 34 (0, 0)) (by (with_reducible repeat (first | refine blk_drewN ?_ _ | refine blk_drew ?_ | refine blk_alloc ?_ _)); exact BK172.out) hb); have n1_ := Aside0.mk (blk_below (g := gb190) (o := .cells #[.int .i64 t183, .int .i64 t184, .int .i64 t185, .int .i64 t186, .int .i64 t187, .bool t188] 34 (0, 0)) (by (with_reducible repeat (first | refine blk_drewN ?_ _ | refine blk_drew ?_ | refine blk_alloc ?_ _)); exact BK190.out) hb); have n2_ := Aside0.mk (below_step (by repeat (first | (with_reducible first | exact HB.out | apply below_alloc | apply pw_below_drewN | apply below_drew1 | refine below_set ?_ GE172.out | refine below_set ?_ GE190.out) | exact HB.out)) hb); clear BK172; clear BK190; clear HB; have BK172 := n0_; have BK190 := n1_; have HB := n2_; clear n0_ n1_ n2_; (try clear hb); (try clear hb2); (try clear hk); (try clear hi)))
              go_ret
              exact ⟨by first | rfl | (simp [errW_none, errW_some] <;> rfl) | (simp [*, errW_none, errW_some] <;> rfl), by repeat (first | (with_reducible first | exact HB.out | apply below_alloc | apply pw_below_drewN | apply below_drew1 | refine below_set ?_ GE172.out | refine below_set ?_ GE190.out) | exact HB.out)⟩
            · rw [if_neg c41] at H
              have c41b0 : (t189 == t192) = false := beq_eq_false_iff_ne.mpr c41
              have c41b1 : (t189 != t192) = true := bne_iff_ne.mpr c41
              obtain rfl := Option.some.inj H
              go_wp2
              go_ret
              exact ⟨by first | rfl | (simp [errW_none, errW_some] <;> rfl) | (simp [*, errW_none, errW_some] <;> rfl), by repeat (first | (with_reducible first | exact HB.out | apply below_alloc | apply pw_below_drewN | apply below_drew1 | refine below_set ?_ GE172.out | refine below_set ?_ GE190.out) | exact HB.out)⟩
          · replace c40 := Bool.eq_false_iff.mpr c40
            subst c40
            have H1 : ((timecode_Number.f kj32 t183 t184 t185 t186 t187 t188).bind fun bt194 => (if bt194.2 = 0 then (if t191 > 0 then (if bt194.1 ≥ 0 then (if bt194.1 < t191 then (if t191 = 0 then (none) else (if (Int.tmod (wrap64 ((Int.tmod a0 t191) - bt194.1)) t191) = 0 then ((cutroomlaw19_awake.f kj32).bind fun t196 => (some t196)) else (some false))) else (some false)) else (some false)) else (some false)) else (some false))) = some r := by rw [if_neg (show ¬ (false = true) by decide)] at H; exact H
            clear H
            have H := H1
            clear H1
            replace H := Option.bind_eq_some_iff.mp H
            obtain ⟨⟨t194, t195⟩, A440, H⟩ := H
            replace H : (if t195 = 0 then (if t191 > 0 then (if t194 ≥ 0 then (if t194 < t191 then (if t191 = 0 then (none) else (if (Int.tmod (wrap64 ((Int.tmod a0 t191) - t194)) t191) = 0 then ((cutroomlaw19_awake.f kj32).bind fun t196 => (some t196)) else (some false))) else (some false)) else (some false)) else (some false)) else (some false)) = some r := H
            have A44 := Aside0.mk A440
            clear A440
            by_cases c45 : t195 = 0
            · rw [if_pos c45] at H
              have c45b0 : (t195 == 0) = true := beq_iff_eq.mpr c45
              have c45b1 : (t195 != 0) = false := bne_eq_false_iff_eq.mpr c45
              clear c45
              by_cases c46 : t191 > 0
              · rw [if_pos c46] at H
                have c46b0 : decide (0 < t191) = true := decide_eq_true c46
                clear c46
                by_cases c47 : t194 ≥ 0
                · rw [if_pos c47] at H
                  have c47b0 : decide (0 ≤ t194) = true := decide_eq_true c47
                  clear c47
                  by_cases c48 : t194 < t191
                  · rw [if_pos c48] at H
                    have c48b0 : decide (t194 < t191) = true := decide_eq_true c48
                    clear c48
                    by_cases c49 : t191 = 0
                    · rw [if_pos c49] at H
                      exact absurd H (by simp)
                    · rw [if_neg c49] at H
                      have c49b0 : (t191 == 0) = false := beq_eq_false_iff_ne.mpr c49
                      have c49b1 : (t191 != 0) = true := bne_iff_ne.mpr c49
                      by_cases c50 : (Int.tmod (wrap64 ((Int.tmod a0 t191) - t194)) t191) = 0
                      · rw [if_pos c50] at H
                        have c50b0 : ((Int.tmod (wrap64 ((Int.tmod a0 t191) - t194)) t191) == 0) = true := beq_iff_eq.mpr c50
                        have c50b1 : ((Int.tmod (wrap64 ((Int.tmod a0 t191) - t194)) t191) != 0) = false := bne_eq_false_iff_eq.mpr c50
                        clear c50
                        replace H := Option.bind_eq_some_iff.mp H
                        obtain ⟨t196, A510, H⟩ := H
                        replace H : (some t196) = some r := H
                        have A51 := Aside0.mk A510
                        clear A510
                        obtain rfl := Option.some.inj H
                        have hnb52 := NB190_172.out
                        have hnc52 := NB172_190.out
                        have hcz53_0 : wc.cell? ⟨gb190, 0, none⟩ = some (.int .i64 t183) := (blk_cell BK190.out 0).trans rfl
                        have hcz53_1 : wc.cell? ⟨gb190, 1, none⟩ = some (.int .i64 t184) := (blk_cell BK190.out 1).trans rfl
                        have hcz53_2 : wc.cell? ⟨gb190, 2, none⟩ = some (.int .i64 t185) := (blk_cell BK190.out 2).trans rfl
                        have hcz53_3 : wc.cell? ⟨gb190, 3, none⟩ = some (.int .i64 t186) := (blk_cell BK190.out 3).trans rfl
                        have hcz53_4 : wc.cell? ⟨gb190, 4, none⟩ = some (.int .i64 t187) := (blk_cell BK190.out 4).trans rfl
                        have hcz53_5 : wc.cell? ⟨gb190, 5, none⟩ = some (.bool t188) := (blk_cell BK190.out 5).trans rfl
                        have hfz53_0 := blk_frozen BK190.out 0
                        have hfz53_1 := blk_frozen BK190.out 1
                        have hfz53_2 := blk_frozen BK190.out 2
                        have hfz53_3 := blk_frozen BK190.out 3
                        have hfz53_4 := blk_frozen BK190.out 4
                        have hfz53_5 := blk_frozen BK190.out 5
                        go_wp2_with (first | ((with_reducible refine gate_callee (f := 25) rfl ?_); refine goesL_ (some 69) rfl rfl Try.func25 (by kernel_rfl) rfl #[.agg #[.int .i64 t183, .int .i64 t184, .int .i64 t185, .int .i64 t186, .int .i64 t187, .bool t188]] rfl (by (try simp only [List.map_toArray, List.map_cons, List.map_nil]); first | done | rfl | (simp only [List.length_drop, List.length_take]; rfl)) ?_; (with_reducible refine (timecode_Number.calls kj32 t183 t184 t185 t186 t187 t188 t194 t195 _ A44.out).mono ?_); rintro e w54 ⟨rfl, hb⟩; refine ⟨_, rfl, ?_⟩; have n0_ := Aside0.mk (blk_below (g := gb172) (o := .cells #[.int .i64 a1_0, .int .i64 a1_1, .int .i64 a1_2, .int .i64 a1_3, .int .i64 a1_4, .bool a1_5] 34 (0, 0)) (by (with_reducible repeat (first | refine blk_drewN ?_ _ | refine blk_drew ?_ | refine blk_alloc ?_ _)); exact BK172.out) hb); have n1_ := Aside0.mk (blk_below (g := gb190) (o := .cells #[.int .i64 t183, .int .i64 t184, .int .i64 t185, .int .i64 t186, .int .i64 t187, .bool t188] 34 (0, 0)) (by (with_reducible repeat (first | refine blk_drewN ?_ _ | refine blk_drew ?_ | refine blk_alloc ?_ _)); exact BK190.out) hb); have n2_ := Aside0.mk (below_step (by repeat (first | (with_reducible first | exact HB.out | apply below_alloc | apply pw_below_drewN | apply below_drew1 | refine below_set ?_ GE172.out | refine below_set ?_ GE190.out) | exact HB.out)) hb); clear BK172; clear BK190; clear HB; have BK172 := n0_; have BK190 := n1_; have HB := n2_; clear n0_ n1_ n2_; (try clear hb); (try clear hb2); (try clear hk); (try clear hi)) | (go_at_call 20; (with_reducible refine (cutroomlaw19_awake.calls kj32  t196 _ A51.out).mono ?_); rintro e w55 ⟨rfl, hb⟩; have n0_ := Aside0.mk (blk_below (g := gb172) (o := .cells #[.int .i64 a1_0, .int .i64 a1_1, .int .i64 a1_2, .int .i64 a1_3, .int .i64 a1_4, .bool a1_5] 34 (0, 0)) (by (with_reducible repeat (first | refine blk_drewN ?_ _ | refine blk_drew ?_ | refine blk_alloc ?_ _)); exact BK172.out) hb); have n1_ := Aside0.mk (blk_below (g := gb190) (o := .cells #[.int .i64 t183, .int .i64 t184, .int .i64 t185, .int .i64 t186, .int .i64 t187, .bool t188] 34 (0, 0)) (by (with_reducible repeat (first | refine blk_drewN ?_ _ | refine blk_drew ?_ | refine blk_alloc ?_ _)); exact BK190.out) hb); have n2_ := Aside0.mk (below_step (by repeat (first | (with_reducible first | exact HB.out | apply below_alloc | apply pw_below_drewN | apply below_drew1 | refine below_set ?_ GE172.out | refine below_set ?_ GE190.out) | exact HB.out)) hb); clear BK172; clear BK190; clear HB; have BK172 := n0_; have BK190 := n1_; have HB := n2_; clear n0_ n1_ n2_; (try clear hb); (try clear hb2); (try clear hk); (try clear hi)))
                        go_ret
                        exact ⟨by first | rfl | (simp [errW_none, errW_some] <;> rfl) | (simp [*, errW_none, errW_some] <;> rfl), by repeat (first | (with_reducible first | exact HB.out | apply below_alloc | apply pw_below_drewN | apply below_drew1 | refine below_set ?_ GE172.out | refine below_set ?_ GE190.out) | exact HB.out)⟩
                      · rw [if_neg c50] at H
                        have c50b0 : ((Int.tmod (wrap64 ((Int.tmod a0 t191) - t194)) t191) == 0) = false := beq_eq_false_iff_ne.mpr c50
                        have c50b1 : ((Int.tmod (wrap64 ((Int.tmod a0 t191) - t194)) t191) != 0) = true := bne_iff_ne.mpr c50
                        obtain rfl := Option.some.inj H
                        have hnb56 := NB190_172.out
                        have hnc56 := NB172_190.out
                        have hcz57_0 : wc.cell? ⟨gb190, 0, none⟩ = some (.int .i64 t183) := (blk_cell BK190.out 0).trans rfl
                        have hcz57_1 : wc.cell? ⟨gb190, 1, none⟩ = some (.int .i64 t184) := (blk_cell BK190.out 1).trans rfl
                        have hcz57_2 : wc.cell? ⟨gb190, 2, none⟩ = some (.int .i64 t185) := (blk_cell BK190.out 2).trans rfl
                        have hcz57_3 : wc.cell? ⟨gb190, 3, none⟩ = some (.int .i64 t186) := (blk_cell BK190.out 3).trans rfl
                        have hcz57_4 : wc.cell? ⟨gb190, 4, none⟩ = some (.int .i64 t187) := (blk_cell BK190.out 4).trans rfl
                        have hcz57_5 : wc.cell? ⟨gb190, 5, none⟩ = some (.bool t188) := (blk_cell BK190.out 5).trans rfl
                        have hfz57_0 := blk_frozen BK190.out 0
                        have hfz57_1 := blk_frozen BK190.out 1
                        have hfz57_2 := blk_frozen BK190.out 2
                        have hfz57_3 := blk_frozen BK190.out 3
                        have hfz57_4 := blk_frozen BK190.out 4
                        have hfz57_5 := blk_frozen BK190.out 5
                        go_wp2_with (first | ((with_reducible refine gate_callee (f := 25) rfl ?_); refine goesL_ (some 69) rfl rfl Try.func25 (by kernel_rfl) rfl #[.agg #[.int .i64 t183, .int .i64 t184, .int .i64 t185, .int .i64 t186, .int .i64 t187, .bool t188]] rfl (by (try simp only [List.map_toArray, List.map_cons, List.map_nil]); first | done | rfl | (simp only [List.length_drop, List.length_take]; rfl)) ?_; (with_reducible refine (timecode_Number.calls kj32 t183 t184 t185 t186 t187 t188 t194 t195 _ A44.out).mono ?_); rintro e w58 ⟨rfl, hb⟩; refine ⟨_, rfl, ?_⟩; have n0_ := Aside0.mk (blk_below (g := gb172) (o := .cells #[.int .i64 a1_0, .int .i64 a1_1, .int .i64 a1_2, .int .i64 a1_3, .int .i64 a1_4, .bool a1_5] 34 (0, 0)) (by (with_reducible repeat (first | refine blk_drewN ?_ _ | refine blk_drew ?_ | refine blk_alloc ?_ _)); exact BK172.out) hb); have n1_ := Aside0.mk (blk_below (g := gb190) (o := .cells #[.int .i64 t183, .int .i64 t184, .int .i64 t185, .int .i64 t186, .int .i64 t187, .bool t188] 34 (0, 0)) (by (with_reducible repeat (first | refine blk_drewN ?_ _ | refine blk_drew ?_ | refine blk_alloc ?_ _)); exact BK190.out) hb); have n2_ := Aside0.mk (below_step (by repeat (first | (with_reducible first | exact HB.out | apply below_alloc | apply pw_below_drewN | apply below_drew1 | refine below_set ?_ GE172.out | refine below_set ?_ GE190.out) | exact HB.out)) hb); clear BK172; clear BK190; clear HB; have BK172 := n0_; have BK190 := n1_; have HB := n2_; clear n0_ n1_ n2_; (try clear hb); (try clear hb2); (try clear hk); (try clear hi)))
                        go_ret
                        exact ⟨by first | rfl | (simp [errW_none, errW_some] <;> rfl) | (simp [*, errW_none, errW_some] <;> rfl), by repeat (first | (with_reducible first | exact HB.out | apply below_alloc | apply pw_below_drewN | apply below_drew1 | refine below_set ?_ GE172.out | refine below_set ?_ GE190.out) | exact HB.out)⟩
                  · rw [if_neg c48] at H
                    have c48b0 : decide (t194 < t191) = false := decide_eq_false c48
                    clear c48
                    obtain rfl := Option.some.inj H
                    have hnb59 := NB190_172.out
                    have hnc59 := NB172_190.out
                    have hcz60_0 : wc.cell? ⟨gb190, 0, none⟩ = some (.int .i64 t183) := (blk_cell BK190.out 0).trans rfl
                    have hcz60_1 : wc.cell? ⟨gb190, 1, none⟩ = some (.int .i64 t184) := (blk_cell BK190.out 1).trans rfl
                    have hcz60_2 : wc.cell? ⟨gb190, 2, none⟩ = some (.int .i64 t185) := (blk_cell BK190.out 2).trans rfl
                    have hcz60_3 : wc.cell? ⟨gb190, 3, none⟩ = some (.int .i64 t186) := (blk_cell BK190.out 3).trans rfl
                    have hcz60_4 : wc.cell? ⟨gb190, 4, none⟩ = some (.int .i64 t187) := (blk_cell BK190.out 4).trans rfl
                    have hcz60_5 : wc.cell? ⟨gb190, 5, none⟩ = some (.bool t188) := (blk_cell BK190.out 5).trans rfl
                    have hfz60_0 := blk_frozen BK190.out 0
                    have hfz60_1 := blk_frozen BK190.out 1
                    have hfz60_2 := blk_frozen BK190.out 2
                    have hfz60_3 := blk_frozen BK190.out 3
                    have hfz60_4 := blk_frozen BK190.out 4
                    have hfz60_5 := blk_frozen BK190.out 5
                    go_wp2_with (first | ((with_reducible refine gate_callee (f := 25) rfl ?_); refine goesL_ (some 69) rfl rfl Try.func25 (by kernel_rfl) rfl #[.agg #[.int .i64 t183, .int .i64 t184, .int .i64 t185, .int .i64 t186, .int .i64 t187, .bool t188]] rfl (by (try simp only [List.map_toArray, List.map_cons, List.map_nil]); first | done | rfl | (simp only [List.length_drop, List.length_take]; rfl)) ?_; (with_reducible refine (timecode_Number.calls kj32 t183 t184 t185 t186 t187 t188 t194 t195 _ A44.out).mono ?_); rintro e w61 ⟨rfl, hb⟩; refine ⟨_, rfl, ?_⟩; have n0_ := Aside0.mk (blk_below (g := gb172) (o := .cells #[.int .i64 a1_0, .int .i64 a1_1, .int .i64 a1_2, .int .i64 a1_3, .int .i64 a1_4, .bool a1_5] 34 (0, 0)) (by (with_reducible repeat (first | refine blk_drewN ?_ _ | refine blk_drew ?_ | refine blk_alloc ?_ _)); exact BK172.out) hb); have n1_ := Aside0.mk (blk_below (g := gb190) (o := .cells #[.int .i64 t183, .int .i64 t184, .int .i64 t185, .int .i64 t186, .int .i64 t187, .bool t188] 34 (0, 0)) (by (with_reducible repeat (first | refine blk_drewN ?_ _ | refine blk_drew ?_ | refine blk_alloc ?_ _)); exact BK190.out) hb); have n2_ := Aside0.mk (below_step (by repeat (first | (with_reducible first | exact HB.out | apply below_alloc | apply pw_below_drewN | apply below_drew1 | refine below_set ?_ GE172.out | refine below_set ?_ GE190.out) | exact HB.out)) hb); clear BK172; clear BK190; clear HB; have BK172 := n0_; have BK190 := n1_; have HB := n2_; clear n0_ n1_ n2_; (try clear hb); (try clear hb2); (try clear hk); (try clear hi)))
                    go_ret
                    exact ⟨by first | rfl | (simp [errW_none, errW_some] <;> rfl) | (simp [*, errW_none, errW_some] <;> rfl), by repeat (first | (with_reducible first | exact HB.out | apply below_alloc | apply pw_below_drewN | apply below_drew1 | refine below_set ?_ GE172.out | refine below_set ?_ GE190.out) | exact HB.out)⟩
                · rw [if_neg c47] at H
                  have c47b0 : decide (0 ≤ t194) = false := decide_eq_false c47
                  clear c47
                  obtain rfl := Option.some.inj H
                  have hnb62 := NB190_172.out
                  have hnc62 := NB172_190.out
                  have hcz63_0 : wc.cell? ⟨gb190, 0, none⟩ = some (.int .i64 t183) := (blk_cell BK190.out 0).trans rfl
                  have hcz63_1 : wc.cell? ⟨gb190, 1, none⟩ = some (.int .i64 t184) := (blk_cell BK190.out 1).trans rfl
                  have hcz63_2 : wc.cell? ⟨gb190, 2, none⟩ = some (.int .i64 t185) := (blk_cell BK190.out 2).trans rfl
                  have hcz63_3 : wc.cell? ⟨gb190, 3, none⟩ = some (.int .i64 t186) := (blk_cell BK190.out 3).trans rfl
                  have hcz63_4 : wc.cell? ⟨gb190, 4, none⟩ = some (.int .i64 t187) := (blk_cell BK190.out 4).trans rfl
                  have hcz63_5 : wc.cell? ⟨gb190, 5, none⟩ = some (.bool t188) := (blk_cell BK190.out 5).trans rfl
                  have hfz63_0 := blk_frozen BK190.out 0
                  have hfz63_1 := blk_frozen BK190.out 1
                  have hfz63_2 := blk_frozen BK190.out 2
                  have hfz63_3 := blk_frozen BK190.out 3
                  have hfz63_4 := blk_frozen BK190.out 4
                  have hfz63_5 := blk_frozen BK190.out 5
                  go_wp2_with (first | ((with_reducible refine gate_callee (f := 25) rfl ?_); refine goesL_ (some 69) rfl rfl Try.func25 (by kernel_rfl) rfl #[.agg #[.int .i64 t183, .int .i64 t184, .int .i64 t185, .int .i64 t186, .int .i64 t187, .bool t188]] rfl (by (try simp only [List.map_toArray, List.map_cons, List.map_nil]); first | done | rfl | (simp only [List.length_drop, List.length_take]; rfl)) ?_; (with_reducible refine (timecode_Number.calls kj32 t183 t184 t185 t186 t187 t188 t194 t195 _ A44.out).mono ?_); rintro e w64 ⟨rfl, hb⟩; refine ⟨_, rfl, ?_⟩; have n0_ := Aside0.mk (blk_below (g := gb172) (o := .cells #[.int .i64 a1_0, .int .i64 a1_1, .int .i64 a1_2, .int .i64 a1_3, .int .i64 a1_4, .bool a1_5] 34 (0, 0)) (by (with_reducible repeat (first | refine blk_drewN ?_ _ | refine blk_drew ?_ | refine blk_alloc ?_ _)); exact BK172.out) hb); have n1_ := Aside0.mk (blk_below (g := gb190) (o := .cells #[.int .i64 t183, .int .i64 t184, .int .i64 t185, .int .i64 t186, .int .i64 t187, .bool t188] 34 (0, 0)) (by (with_reducible repeat (first | refine blk_drewN ?_ _ | refine blk_drew ?_ | refine blk_alloc ?_ _)); exact BK190.out) hb); have n2_ := Aside0.mk (below_step (by repeat (first | (with_reducible first | exact HB.out | apply below_alloc | apply pw_below_drewN | apply below_drew1 | refine below_set ?_ GE172.out | refine below_set ?_ GE190.out) | exact HB.out)) hb); clear BK172; clear BK190; clear HB; have BK172 := n0_; have BK190 := n1_; have HB := n2_; clear n0_ n1_ n2_; (try clear hb); (try clear hb2); (try clear hk); (try clear hi)))
                  go_ret
                  exact ⟨by first | rfl | (simp [errW_none, errW_some] <;> rfl) | (simp [*, errW_none, errW_some] <;> rfl), by repeat (first | (with_reducible first | exact HB.out | apply below_alloc | apply pw_below_drewN | apply below_drew1 | refine below_set ?_ GE172.out | refine below_set ?_ GE190.out) | exact HB.out)⟩
              · rw [if_neg c46] at H
                have c46b0 : decide (0 < t191) = false := decide_eq_false c46
                clear c46
                obtain rfl := Option.some.inj H
                have hnb65 := NB190_172.out
                have hnc65 := NB172_190.out
                have hcz66_0 : wc.cell? ⟨gb190, 0, none⟩ = some (.int .i64 t183) := (blk_cell BK190.out 0).trans rfl
                have hcz66_1 : wc.cell? ⟨gb190, 1, none⟩ = some (.int .i64 t184) := (blk_cell BK190.out 1).trans rfl
                have hcz66_2 : wc.cell? ⟨gb190, 2, none⟩ = some (.int .i64 t185) := (blk_cell BK190.out 2).trans rfl
                have hcz66_3 : wc.cell? ⟨gb190, 3, none⟩ = some (.int .i64 t186) := (blk_cell BK190.out 3).trans rfl
                have hcz66_4 : wc.cell? ⟨gb190, 4, none⟩ = some (.int .i64 t187) := (blk_cell BK190.out 4).trans rfl
                have hcz66_5 : wc.cell? ⟨gb190, 5, none⟩ = some (.bool t188) := (blk_cell BK190.out 5).trans rfl
                have hfz66_0 := blk_frozen BK190.out 0
                have hfz66_1 := blk_frozen BK190.out 1
                have hfz66_2 := blk_frozen BK190.out 2
                have hfz66_3 := blk_frozen BK190.out 3
                have hfz66_4 := blk_frozen BK190.out 4
                have hfz66_5 := blk_frozen BK190.out 5
                go_wp2_with (first | ((with_reducible refine gate_callee (f := 25) rfl ?_); refine goesL_ (some 69) rfl rfl Try.func25 (by kernel_rfl) rfl #[.agg #[.int .i64 t183, .int .i64 t184, .int .i64 t185, .int .i64 t186, .int .i64 t187, .bool t188]] rfl (by (try simp only [List.map_toArray, List.map_cons, List.map_nil]); first | done | rfl | (simp only [List.length_drop, List.length_take]; rfl)) ?_; (with_reducible refine (timecode_Number.calls kj32 t183 t184 t185 t186 t187 t188 t194 t195 _ A44.out).mono ?_); rintro e w67 ⟨rfl, hb⟩; refine ⟨_, rfl, ?_⟩; have n0_ := Aside0.mk (blk_below (g := gb172) (o := .cells #[.int .i64 a1_0, .int .i64 a1_1, .int .i64 a1_2, .int .i64 a1_3, .int .i64 a1_4, .bool a1_5] 34 (0, 0)) (by (with_reducible repeat (first | refine blk_drewN ?_ _ | refine blk_drew ?_ | refine blk_alloc ?_ _)); exact BK172.out) hb); have n1_ := Aside0.mk (blk_below (g := gb190) (o := .cells #[.int .i64 t183, .int .i64 t184, .int .i64 t185, .int .i64 t186, .int .i64 t187, .bool t188] 34 (0, 0)) (by (with_reducible repeat (first | refine blk_drewN ?_ _ | refine blk_drew ?_ | refine blk_alloc ?_ _)); exact BK190.out) hb); have n2_ := Aside0.mk (below_step (by repeat (first | (with_reducible first | exact HB.out | apply below_alloc | apply pw_below_drewN | apply below_drew1 | refine below_set ?_ GE172.out | refine below_set ?_ GE190.out) | exact HB.out)) hb); clear BK172; clear BK190; clear HB; have BK172 := n0_; have BK190 := n1_; have HB := n2_; clear n0_ n1_ n2_; (try clear hb); (try clear hb2); (try clear hk); (try clear hi)))
                go_ret
                exact ⟨by first | rfl | (simp [errW_none, errW_some] <;> rfl) | (simp [*, errW_none, errW_some] <;> rfl), by repeat (first | (with_reducible first | exact HB.out | apply below_alloc | apply pw_below_drewN | apply below_drew1 | refine below_set ?_ GE172.out | refine below_set ?_ GE190.out) | exact HB.out)⟩
            · rw [if_neg c45] at H
              have c45b0 : (t195 == 0) = false := beq_eq_false_iff_ne.mpr c45
              have c45b1 : (t195 != 0) = true := bne_iff_ne.mpr c45
              obtain rfl := Option.some.inj H
              have hnb68 := NB190_172.out
              have hnc68 := NB172_190.out
              have hcz69_0 : wc.cell? ⟨gb190, 0, none⟩ = some (.int .i64 t183) := (blk_cell BK190.out 0).trans rfl
              have hcz69_1 : wc.cell? ⟨gb190, 1, none⟩ = some (.int .i64 t184) := (blk_cell BK190.out 1).trans rfl
              have hcz69_2 : wc.cell? ⟨gb190, 2, none⟩ = some (.int .i64 t185) := (blk_cell BK190.out 2).trans rfl
              have hcz69_3 : wc.cell? ⟨gb190, 3, none⟩ = some (.int .i64 t186) := (blk_cell BK190.out 3).trans rfl
              have hcz69_4 : wc.cell? ⟨gb190, 4, none⟩ = some (.int .i64 t187) := (blk_cell BK190.out 4).trans rfl
              have hcz69_5 : wc.cell? ⟨gb190, 5, none⟩ = some (.bool t188) := (blk_cell BK190.out 5).trans rfl
              have hfz69_0 := blk_frozen BK190.out 0
              have hfz69_1 := blk_frozen BK190.out 1
              have hfz69_2 := blk_frozen BK190.out 2
              have hfz69_3 := blk_frozen BK190.out 3
              have hfz69_4 := blk_frozen BK190.out 4
              have hfz69_5 := blk_frozen BK190.out 5
              go_wp2_with (first | ((with_reducible refine gate_callee (f := 25) rfl ?_); refine goesL_ (some 69) rfl rfl Try.func25 (by kernel_rfl) rfl #[.agg #[.int .i64 t183, .int .i64 t184, .int .i64 t185, .int .i64 t186, .int .i64 t187, .bool t188]] rfl (by (try simp only [List.map_toArray, List.map_cons, List.map_nil]); first | done | rfl | (simp only [List.length_drop, List.length_take]; rfl)) ?_; (with_reducible refine (timecode_Number.calls kj32 t183 t184 t185 t186 t187 t188 t194 t195 _ A44.out).mono ?_); rintro e w70 ⟨rfl, hb⟩; refine ⟨_, rfl, ?_⟩; have n0_ := Aside0.mk (blk_below (g := gb172) (o := .cells #[.int .i64 a1_0, .int .i64 a1_1, .int .i64 a1_2, .int .i64 a1_3, .int .i64 a1_4, .bool a1_5] 34 (0, 0)) (by (with_reducible repeat (first | refine blk_drewN ?_ _ | refine blk_drew ?_ | refine blk_alloc ?_ _)); exact BK172.out) hb); have n1_ := Aside0.mk (blk_below (g := gb190) (o := .cells #[.int .i64 t183, .int .i64 t184, .int .i64 t185, .int .i64 t186, .int .i64 t187, .bool t188] 34 (0, 0)) (by (with_reducible repeat (first | refine blk_drewN ?_ _ | refine blk_drew ?_ | refine blk_alloc ?_ _)); exact BK190.out) hb); have n2_ := Aside0.mk (below_step (by repeat (first | (with_reducible first | exact HB.out | apply below_alloc | apply pw_below_drewN | apply below_drew1 | refine below_set ?_ GE172.out | refine below_set ?_ GE190.out) | exact HB.out)) hb); clear BK172; clear BK190; clear HB; have BK172 := n0_; have BK190 := n1_; have HB := n2_; clear n0_ n1_ n2_; (try clear hb); (try clear hb2); (try clear hk); (try clear hi)))
              go_ret
              exact ⟨by first | rfl | (simp [errW_none, errW_some] <;> rfl) | (simp [*, errW_none, errW_some] <;> rfl), by repeat (first | (with_reducible first | exact HB.out | apply below_alloc | apply pw_below_drewN | apply below_drew1 | refine below_set ?_ GE172.out | refine below_set ?_ GE190.out) | exact HB.out)⟩

end Go.Proofs.Ytfdhjnfpppafaaa.PTimecodeInverse
