-- Written for this claim by a turned copy of the kit's print (wip/printx/mk.py). By an AI agent.
import Derived.Test.YtdkibpdgnocgaaaPPesTakesx0
import Derived.Test.YtdkibpdgnocgaaaPPesTakesx1
import Derived.Test.YtdkibpdgnocgaaaPPesTakesx3
import Derived.Test.YtdkibpdgnocgaaaPPesTakesx6
namespace Go.Proofs.Ytdkibpdgnocgaaa.PPesTakes
open Go.RowKit Go.Proofs.YtdkibpdgnocgaaaW.PrintWords Go.Proofs.YtdkibpdgnocgaaaW.PrintLast Go.Proofs.YtdkibpdgnocgaaaW.PrintMore
attribute [local go_sem] max2_int min2_int max_two min_two max_three min_three max_four min_four   -- for this text's walks alone
set_option linter.unusedVariables false
set_option linter.unusedSimpArgs false

/-! ### cutroomlaw16_PesTakes: function 7 -/
def cutroomlaw16_PesTakes.j0 : Nat → List Int → Int → Int → Bool → Int → Int → Int → List Int → Option (Bool)
  | 0, _, _, _, _, _, _, _, _ => none
  | k + 1, x0, x4, x5, x43, x323000, x323001, x323002, x323003 => if x43 = true then (some false) else (if x5 = 0 then ((pes_Put.f k x323000 x323001 x323002 x323003).bind fun bt334 => ((cutroomlaw16_awake.f k).bind fun t338 => (if t338 = true then (if bt334.2 = 0 then (if x4 ≤ (x0.length : Int) then (if 0 ≤ x4 then ((cutroomref02_SameBytes.f (x0.take (x4 : Int).toNat) bt334.1).bind fun t340 => (some t340)) else (none)) else (some false)) else (some false)) else (some false)))) else ((cutroomlaw16_awake.f k).bind fun t333 => (if t333 = true then (if (x323003.length : Int) = 0 then (if x323000 = 0 then (if x323001 = 0 then (some (x323002 == 0)) else (some false)) else (some false)) else (some false)) else (some false))))
def cutroomlaw16_PesTakes.f (k : Nat) (l0 : List Int) : Option (Bool) := if (l0.length : Int) > 2000 then (some true) else ((pes_Take.f k l0).bind fun bt314 => ((cutroomref16_Take.f k l0).bind fun bt323 => (if bt314.2.2.2.2.2 = bt323.2.2.2.2.2 then (if bt314.2.2.2.2.1 = bt323.2.2.2.2.1 then (if bt314.2.2.2.2.2 = 0 then ((cutroomlaw16_same.f bt314.1 bt314.2.1 bt314.2.2.1 bt314.2.2.2.1 bt323.1 bt323.2.1 bt323.2.2.1 bt323.2.2.2.1).bind fun t332 => (cutroomlaw16_PesTakes.j0 k l0 bt314.2.2.2.2.1 bt314.2.2.2.2.2 (!t332) bt314.1 bt314.2.1 bt314.2.2.1 bt314.2.2.2.1)) else (cutroomlaw16_PesTakes.j0 k l0 bt314.2.2.2.2.1 bt314.2.2.2.2.2 false bt314.1 bt314.2.1 bt314.2.2.1 bt314.2.2.2.1)) else (cutroomlaw16_PesTakes.j0 k l0 bt314.2.2.2.2.1 bt314.2.2.2.2.2 true bt314.1 bt314.2.1 bt314.2.2.1 bt314.2.2.2.1)) else (cutroomlaw16_PesTakes.j0 k l0 bt314.2.2.2.2.1 bt314.2.2.2.2.2 true bt314.1 bt314.2.1 bt314.2.2.1 bt314.2.2.2.1))))
theorem cutroomlaw16_PesTakes.mono_l : ∀ k, (∀ y0 y1 y2 y3 y4 y5 y6 y7, LeO (cutroomlaw16_PesTakes.j0 k y0 y1 y2 y3 y4 y5 y6 y7) (cutroomlaw16_PesTakes.j0 (k + 1) y0 y1 y2 y3 y4 y5 y6 y7))
  | 0 => fun _ _ _ _ _ _ _ _ r h => by simp [cutroomlaw16_PesTakes.j0] at h
  | k + 1 => by
    have ih0 := cutroomlaw16_PesTakes.mono_l k
    · intro y0 y1 y2 y3 y4 y5 y6 y7
      unfold cutroomlaw16_PesTakes.j0
      repeat' first
      | (with_reducible exact ih0 _ _ _ _ _ _ _ _)
      | (with_reducible exact cutroomlaw16_awake.mono _)
      | (with_reducible exact cutroomref16_Take.mono _ _)
      | (with_reducible exact pes_Put.mono _ _ _ _ _)
      | (with_reducible exact pes_Take.mono _ _)
      | (with_reducible exact LeO.refl _)
      | (with_reducible exact LeO.none _)
      | (with_reducible refine LeO.ite ?_ ?_)
      | (with_reducible refine LeO.bind ?_ (fun _ => ?_))
      | exact ih0 _ _ _ _ _ _ _ _
      | exact cutroomlaw16_awake.mono _
      | exact cutroomref16_Take.mono _ _
      | exact pes_Put.mono _ _ _ _ _
      | exact pes_Take.mono _ _
      | exact LeO.none _
      | refine LeO.ite ?_ ?_
      | refine LeO.bind ?_ (fun _ => ?_)
theorem cutroomlaw16_PesTakes.mono : ∀ a0 k, LeO (cutroomlaw16_PesTakes.f k a0) (cutroomlaw16_PesTakes.f (k + 1) a0) := by
  intro a0 k
  have ih0 := cutroomlaw16_PesTakes.mono_l k
  unfold cutroomlaw16_PesTakes.f
  repeat' first
      | (with_reducible exact ih0 _ _ _ _ _ _ _ _)
      | (with_reducible exact cutroomlaw16_awake.mono _)
      | (with_reducible exact cutroomref16_Take.mono _ _)
      | (with_reducible exact pes_Put.mono _ _ _ _ _)
      | (with_reducible exact pes_Take.mono _ _)
      | (with_reducible exact LeO.refl _)
      | (with_reducible exact LeO.none _)
      | (with_reducible refine LeO.ite ?_ ?_)
      | (with_reducible refine LeO.bind ?_ (fun _ => ?_))
      | exact ih0 _ _ _ _ _ _ _ _
      | exact cutroomlaw16_awake.mono _
      | exact cutroomref16_Take.mono _ _
      | exact pes_Put.mono _ _ _ _ _
      | exact pes_Take.mono _ _
      | exact LeO.none _
      | refine LeO.ite ?_ ?_
      | refine LeO.bind ?_ (fun _ => ?_)
set_option maxHeartbeats 8000000 in
set_option maxRecDepth 100000 in
theorem cutroomlaw16_PesTakes.calls (k : Nat) (A0 : Option Addr) (c0 : Nat) (l0 : List Int) (r : Bool) (w : World) (hr0 : Kd.C (Kd.int .u8) w A0 l0.length l0) (hc0 : l0.length ≤ c0) (h : cutroomlaw16_PesTakes.f k l0 = some r) :
    Calls Try.prog 7 #[.slice A0 l0.length c0] w fun e w' => e = .returned (.bool r) ∧ Below w.heap.size w w' := by
  have hu30 := Try.underlying30
  have hu29 := Try.underlying29
  have HR0 := Aside0.mk hr0
  have HC0 := Aside0.mk hc0
  clear hr0 hc0
  have HB := Aside0.mk (Below.refl w.heap.size w)
  have H : (if (l0.length : Int) > 2000 then (some true) else ((pes_Take.f k l0).bind fun bt314 => ((cutroomref16_Take.f k l0).bind fun bt323 => (if bt314.2.2.2.2.2 = bt323.2.2.2.2.2 then (if bt314.2.2.2.2.1 = bt323.2.2.2.2.1 then (if bt314.2.2.2.2.2 = 0 then ((cutroomlaw16_same.f bt314.1 bt314.2.1 bt314.2.2.1 bt314.2.2.2.1 bt323.1 bt323.2.1 bt323.2.2.1 bt323.2.2.2.1).bind fun t332 => (cutroomlaw16_PesTakes.j0 k l0 bt314.2.2.2.2.1 bt314.2.2.2.2.2 (!t332) bt314.1 bt314.2.1 bt314.2.2.1 bt314.2.2.2.1)) else (cutroomlaw16_PesTakes.j0 k l0 bt314.2.2.2.2.1 bt314.2.2.2.2.2 false bt314.1 bt314.2.1 bt314.2.2.1 bt314.2.2.2.1)) else (cutroomlaw16_PesTakes.j0 k l0 bt314.2.2.2.2.1 bt314.2.2.2.2.2 true bt314.1 bt314.2.1 bt314.2.2.1 bt314.2.2.2.1)) else (cutroomlaw16_PesTakes.j0 k l0 bt314.2.2.2.2.1 bt314.2.2.2.2.2 true bt314.1 bt314.2.1 bt314.2.2.1 bt314.2.2.2.1))))) = some r := h
  clear h
  by_cases c2 : (l0.length : Int) > 2000
  · rw [if_pos c2] at H
    have c2b0 : decide (2000 < (l0.length : Int)) = true := decide_eq_true c2
    have c2b1 : decide (2000 < l0.length) = true := decide_eq_true (by omega)
    clear c2
    obtain rfl := Option.some.inj H
    go_enter Try.func7, Try.ntmps7
    go_wp2
    go_ret
    exact ⟨by first | rfl | (simp [errW_none, errW_some] <;> rfl) | (simp [*, errW_none, errW_some] <;> rfl), by repeat (first | (with_reducible first | exact HB.out | apply below_alloc | apply pw_below_drewN | apply below_drew1) | exact HB.out)⟩
  · rw [if_neg c2] at H
    have c2b0 : decide (2000 < (l0.length : Int)) = false := decide_eq_false c2
    have c2b1 : decide (2000 < l0.length) = false := decide_eq_false (by omega)
    clear c2
    replace H := Option.bind_eq_some_iff.mp H
    obtain ⟨⟨t314, t315, t316, t317, t320, t321⟩, A30, H⟩ := H
    replace H : ((cutroomref16_Take.f k l0).bind fun bt323 => (if t321 = bt323.2.2.2.2.2 then (if t320 = bt323.2.2.2.2.1 then (if t321 = 0 then ((cutroomlaw16_same.f t314 t315 t316 t317 bt323.1 bt323.2.1 bt323.2.2.1 bt323.2.2.2.1).bind fun t332 => (cutroomlaw16_PesTakes.j0 k l0 t320 t321 (!t332) t314 t315 t316 t317)) else (cutroomlaw16_PesTakes.j0 k l0 t320 t321 false t314 t315 t316 t317)) else (cutroomlaw16_PesTakes.j0 k l0 t320 t321 true t314 t315 t316 t317)) else (cutroomlaw16_PesTakes.j0 k l0 t320 t321 true t314 t315 t316 t317))) = some r := H
    have A3 := Aside0.mk A30
    clear A30
    replace H := Option.bind_eq_some_iff.mp H
    obtain ⟨⟨t323, t324, t325, t326, t329, t330⟩, A40, H⟩ := H
    replace H : (if t321 = t330 then (if t320 = t329 then (if t321 = 0 then ((cutroomlaw16_same.f t314 t315 t316 t317 t323 t324 t325 t326).bind fun t332 => (cutroomlaw16_PesTakes.j0 k l0 t320 t321 (!t332) t314 t315 t316 t317)) else (cutroomlaw16_PesTakes.j0 k l0 t320 t321 false t314 t315 t316 t317)) else (cutroomlaw16_PesTakes.j0 k l0 t320 t321 true t314 t315 t316 t317)) else (cutroomlaw16_PesTakes.j0 k l0 t320 t321 true t314 t315 t316 t317)) = some r := H
    have A4 := Aside0.mk A40
    clear A40
    have HC5 := Aside0.mk H
    clear H
    go_enter Try.func7, Try.ntmps7
    go_upto_region 5 with (first | ((with_reducible refine gate_callee (f := 22) rfl ?_); refine goesL_ (some 16) rfl rfl Try.func22 (by kernel_rfl) rfl #[.slice A0 l0.length c0] rfl (by (try simp only [List.map_toArray, List.map_cons, List.map_nil]); first | done | rfl | (simp only [List.length_drop, List.length_take]; rfl)) ?_; (with_reducible refine (pes_Take.calls k _ _ l0 t314 t315 t316 t317 t320 t321 _ ?side1 ?side2 A3.out).mono ?_); (case side1 => repeat (first | exact HR0.out | (with_reducible refine Kd.C_alloc ?_ _) | (with_reducible refine Kd.C_drewN ?_ _) | (with_reducible refine Kd.C_drew ?_))); (case side2 => exact HC0.out); rintro e w6 ⟨v318, rfl, ho0, hb⟩; refine ⟨_, rfl, ?_⟩; have n0_ := Aside0.mk (Kd.R_lower ho0 (below_size (by repeat (first | (with_reducible first | exact HB.out | apply below_alloc | apply pw_below_drewN | apply below_drew1) | exact HB.out)))); have n1_ := Aside0.mk (below_step (by repeat (first | (with_reducible first | exact HB.out | apply below_alloc | apply pw_below_drewN | apply below_drew1) | exact HB.out)) hb); clear HB; have HO319 := n0_; have HB := n1_; clear n0_ n1_; (try clear hb); (try clear hb2); (try clear hk); (try clear hi); (try clear ho0)) | ((with_reducible refine gate_dst (N := 3) rfl ?_); (try (refine gate_guard (by rfl) ?_; dsimp only)); refine box_event ?hg (N := 3) ?hd (cs := #[.int .i64 0, .int .i64 0, .int .i64 0, .slice none 0 0]) (t := 30) ?hr ?_; (case hd => rfl); (case hg => rfl); (case hr => first | (go_simp; done) | (go_simp; rfl)); intro gb322 hg w7 hbox hb; have n0_ := Aside0.mk (Kd.R_below (by (with_reducible repeat (first | apply Kd.R_alloc | apply Kd.R_drewN | apply Kd.R_drew)); exact HO319.out) hb); have n1_ := Aside0.mk (below_step (by repeat (first | (with_reducible first | exact HB.out | apply below_alloc | apply pw_below_drewN | apply below_drew1) | exact HB.out)) hb); have n2_ := Aside0.mk (hbox); have n3_ := Aside0.mk ((by rw [hg]; exact (below_size (by repeat (first | (with_reducible first | exact HB.out | apply below_alloc | apply pw_below_drewN | apply below_drew1) | exact HB.out))) : w.heap.size ≤ gb322)); have n4_ := Aside0.mk ((by rw [hg]; exact (below_size (by repeat (first | (with_reducible first | exact HB.out | apply below_alloc | apply pw_below_drewN | apply below_drew1) | exact HB.out))) : w.heap.size ≤ gb322)); clear HO319; clear HB; have HO319 := n0_; have HB := n1_; have BK322 := n2_; have GW322 := n3_; have GE322 := n4_; clear n0_ n1_ n2_ n3_ n4_; clear hb hbox hg; have hcz8_0 : w7.cell? ⟨gb322, 0, none⟩ = some (.int .i64 0) := (blk_cell BK322.out 0).trans rfl; have hcz8_1 : w7.cell? ⟨gb322, 1, none⟩ = some (.int .i64 0) := (blk_cell BK322.out 1).trans rfl; have hcz8_2 : w7.cell? ⟨gb322, 2, none⟩ = some (.int .i64 0) := (blk_cell BK322.out 2).trans rfl; have hcz8_3 : w7.cell? ⟨gb322, 3, none⟩ = some (.slice none 0 0) := (blk_cell BK322.out 3).trans rfl; have hfz8_0 := blk_frozen BK322.out 0; have hfz8_1 := blk_frozen BK322.out 1; have hfz8_2 := blk_frozen BK322.out 2; have hfz8_3 := blk_frozen BK322.out 3; obtain ⟨Ao9, co9, eo9⟩ := Kd.R_slice HO319.out; subst eo9) | ((with_reducible refine gate_callee (f := 23) rfl ?_); refine goesL_ (some 22) rfl rfl Try.func23 (by kernel_rfl) rfl #[.slice A0 l0.length c0] rfl (by (try simp only [List.map_toArray, List.map_cons, List.map_nil]); first | done | rfl | (simp only [List.length_drop, List.length_take]; rfl)) ?_; (with_reducible refine (cutroomref16_Take.calls k _ _ l0 t323 t324 t325 t326 t329 t330 _ ?side1 ?side2 A4.out).mono ?_); (case side1 => exact Kd.C_below HR0.out (by repeat (first | (with_reducible first | exact HB.out | apply below_alloc | apply pw_below_drewN | apply below_drew1 | refine below_set ?_ GE322.out) | exact HB.out))); (case side2 => exact HC0.out); rintro e w10 ⟨v327, rfl, ho0, hb⟩; refine ⟨_, rfl, ?_⟩; have n0_ := Aside0.mk (Kd.R_elder' (by (with_reducible repeat (first | apply Kd.R_alloc | apply Kd.R_drewN | apply Kd.R_drew)); exact (Kd.R_mono (Kd.R_far (p := ⟨gb322, 3, none⟩) (Kd.R_far (p := ⟨gb322, 2, none⟩) (Kd.R_far (p := ⟨gb322, 1, none⟩) (Kd.R_far (p := ⟨gb322, 0, none⟩) (Kd.R_types HO319.out BK322.out (by decide)) (fun _ hk => hk.2) (.int .i64 t314)) (fun _ hk => hk.2) (.int .i64 t315)) (fun _ hk => hk.2) (.int .i64 t316)) (fun _ hk => hk.2) (.slice Ao9 t317.length co9)) (fun _ h_ => h_.1))) (Kd.R_base ho0) hb); have n1_ := Aside0.mk (Kd.R_lower (Kd.R_new' ho0 (Kd.R_lt (by (with_reducible repeat (first | apply Kd.R_alloc | apply Kd.R_drewN | apply Kd.R_drew)); exact (Kd.R_mono (Kd.R_far (p := ⟨gb322, 3, none⟩) (Kd.R_far (p := ⟨gb322, 2, none⟩) (Kd.R_far (p := ⟨gb322, 1, none⟩) (Kd.R_far (p := ⟨gb322, 0, none⟩) (Kd.R_types HO319.out BK322.out (by decide)) (fun _ hk => hk.2) (.int .i64 t314)) (fun _ hk => hk.2) (.int .i64 t315)) (fun _ hk => hk.2) (.int .i64 t316)) (fun _ hk => hk.2) (.slice Ao9 t317.length co9)) (fun _ h_ => h_.1))))) (below_size (by repeat (first | (with_reducible first | exact HB.out | apply below_alloc | apply pw_below_drewN | apply below_drew1 | refine below_set ?_ GE322.out) | exact HB.out)))); have n2_ := Aside0.mk (blk_below (g := gb322) (o := .cells #[.int .i64 t314, .int .i64 t315, .int .i64 t316, .slice Ao9 t317.length co9] 30 (0, 0)) (by (with_reducible repeat (first | refine blk_drewN ?_ _ | refine blk_drew ?_ | refine blk_alloc ?_ _)); refine blk_put (cs := #[.int .i64 t314, .int .i64 t315, .int .i64 t316, .slice none 0 0]) ?_ 3 _ rfl; (with_reducible repeat (first | refine blk_drewN ?_ _ | refine blk_drew ?_ | refine blk_alloc ?_ _)); refine blk_put (cs := #[.int .i64 t314, .int .i64 t315, .int .i64 0, .slice none 0 0]) ?_ 2 _ rfl; (with_reducible repeat (first | refine blk_drewN ?_ _ | refine blk_drew ?_ | refine blk_alloc ?_ _)); refine blk_put (cs := #[.int .i64 t314, .int .i64 0, .int .i64 0, .slice none 0 0]) ?_ 1 _ rfl; (with_reducible repeat (first | refine blk_drewN ?_ _ | refine blk_drew ?_ | refine blk_alloc ?_ _)); refine blk_put (cs := #[.int .i64 0, .int .i64 0, .int .i64 0, .slice none 0 0]) ?_ 0 _ rfl; (with_reducible repeat (first | refine blk_drewN ?_ _ | refine blk_drew ?_ | refine blk_alloc ?_ _)); exact BK322.out) hb); have n3_ := Aside0.mk (below_step (by repeat (first | (with_reducible first | exact HB.out | apply below_alloc | apply pw_below_drewN | apply below_drew1 | refine below_set ?_ GE322.out) | exact HB.out)) hb); clear HO319; clear BK322; clear HB; have HO319 := n0_; have HO328 := n1_; have BK322 := n2_; have HB := n3_; clear n0_ n1_ n2_ n3_; (try clear hb); (try clear hb2); (try clear hk); (try clear hi); (try clear ho0)) | ((with_reducible refine gate_dst (N := 6) rfl ?_); (try (refine gate_guard (by rfl) ?_; dsimp only)); refine box_event ?hg (N := 6) ?hd (cs := #[.int .i64 0, .int .i64 0, .int .i64 0, .slice none 0 0]) (t := 29) ?hr ?_; (case hd => rfl); (case hg => rfl); (case hr => first | (go_simp; done) | (go_simp; rfl)); intro gb331 hg w11 hbox hb; have n0_ := Aside0.mk (Kd.R_below (by (with_reducible repeat (first | apply Kd.R_alloc | apply Kd.R_drewN | apply Kd.R_drew)); exact HO319.out) hb); have n1_ := Aside0.mk (Kd.R_below (by (with_reducible repeat (first | apply Kd.R_alloc | apply Kd.R_drewN | apply Kd.R_drew)); exact HO328.out) hb); have n2_ := Aside0.mk (blk_below (g := gb322) (o := .cells #[.int .i64 t314, .int .i64 t315, .int .i64 t316, .slice Ao9 t317.length co9] 30 (0, 0)) (by (with_reducible repeat (first | refine blk_drewN ?_ _ | refine blk_drew ?_ | refine blk_alloc ?_ _)); exact BK322.out) hb); have n3_ := Aside0.mk (below_step (by repeat (first | (with_reducible first | exact HB.out | apply below_alloc | apply pw_below_drewN | apply below_drew1 | refine below_set ?_ GE322.out) | exact HB.out)) hb); have n4_ := Aside0.mk (hbox); have n5_ := Aside0.mk ((by rw [hg]; exact (below_size (by repeat (first | (with_reducible first | exact HB.out | apply below_alloc | apply pw_below_drewN | apply below_drew1 | refine below_set ?_ GE322.out) | exact HB.out))) : w.heap.size ≤ gb331)); have n6_ := Aside0.mk ((by rw [hg]; exact (below_size (by repeat (first | (with_reducible first | exact HB.out | apply below_alloc | apply pw_below_drewN | apply below_drew1 | refine below_set ?_ GE322.out) | exact HB.out))) : w.heap.size ≤ gb331)); have n7_ := Aside0.mk ((by rw [hg]; exact Nat.ne_of_lt (blk_lt (g := gb322) (o := .cells #[.int .i64 t314, .int .i64 t315, .int .i64 t316, .slice Ao9 t317.length co9] 30 (0, 0)) (by (with_reducible repeat (first | refine blk_drewN ?_ _ | refine blk_drew ?_ | refine blk_alloc ?_ _)); exact BK322.out)) : gb322 ≠ gb331)); have n8_ := Aside0.mk ((by rw [hg]; exact Nat.ne_of_gt (blk_lt (g := gb322) (o := .cells #[.int .i64 t314, .int .i64 t315, .int .i64 t316, .slice Ao9 t317.length co9] 30 (0, 0)) (by (with_reducible repeat (first | refine blk_drewN ?_ _ | refine blk_drew ?_ | refine blk_alloc ?_ _)); exact BK322.out)) : gb331 ≠ gb322)); clear HO319; clear HO328; clear BK322; clear HB; have HO319 := n0_; have HO328 := n1_; have BK322 := n2_; have HB := n3_; have BK331 := n4_; have GW331 := n5_; have GE331 := n6_; have NB322_331 := n7_; have NB331_322 := n8_; clear n0_ n1_ n2_ n3_ n4_ n5_ n6_ n7_ n8_; clear hb hbox hg; have hnb12 := NB331_322.out; have hnc12 := NB322_331.out; have hcz13_0 : w11.cell? ⟨gb331, 0, none⟩ = some (.int .i64 0) := (blk_cell BK331.out 0).trans rfl; have hcz13_1 : w11.cell? ⟨gb331, 1, none⟩ = some (.int .i64 0) := (blk_cell BK331.out 1).trans rfl; have hcz13_2 : w11.cell? ⟨gb331, 2, none⟩ = some (.int .i64 0) := (blk_cell BK331.out 2).trans rfl; have hcz13_3 : w11.cell? ⟨gb331, 3, none⟩ = some (.slice none 0 0) := (blk_cell BK331.out 3).trans rfl; have hfz13_0 := blk_frozen BK331.out 0; have hfz13_1 := blk_frozen BK331.out 1; have hfz13_2 := blk_frozen BK331.out 2; have hfz13_3 := blk_frozen BK331.out 3; obtain ⟨Ao14, co14, eo14⟩ := Kd.R_slice HO328.out; subst eo14))
    (try simp only [Act.put, List.setIfInBounds_toArray, List.set_cons_zero, List.set_cons_succ])
    go_cut [43] (fun v43 wc => ∃ (kq : Nat) (x43_4 : Bool), v43 = .bool x43_4 ∧ Aside0 (cutroomlaw16_PesTakes.j0 kq l0 t320 t321 x43_4 t314 t315 t316 t317 = some r) ∧ Aside0 (kq ≤ k) ∧ Aside0 (Kd.R (Kd.int .u8) 5 wc w.heap.size (fun k_ => some k_ ≠ ((.slice Ao14 t326.length co14) : Value).ownBlock) (.slice Ao9 t317.length co9) t317) ∧ Aside0 (Kd.R (Kd.int .u8) 5 wc w.heap.size (fun k_ => some k_ ≠ ((.slice Ao9 t317.length co9) : Value).ownBlock) (.slice Ao14 t326.length co14) t326) ∧ Aside0 (wc.heap[gb322]? = some (.cells #[.int .i64 t314, .int .i64 t315, .int .i64 t316, (.slice Ao9 t317.length co9)] 30 (0, 0))) ∧ Aside0 (wc.heap[gb331]? = some (.cells #[.int .i64 t323, .int .i64 t324, .int .i64 t325, (.slice Ao14 t326.length co14)] 29 (0, 0))) ∧ Aside0 (Below w.heap.size w wc))
    case first =>
      have H := HC5.out
      clear HC5
      by_cases c15 : t321 = t330
      · rw [if_pos c15] at H
        have c15b0 : (t321 == t330) = true := beq_iff_eq.mpr c15
        have c15b1 : (t321 != t330) = false := bne_eq_false_iff_eq.mpr c15
        clear c15
        (first | rw [c15b0] | (simp only [i64_w, i32_w]; rw [c15b0]) | skip)
        by_cases c16 : t320 = t329
        · rw [if_pos c16] at H
          have c16b0 : (t320 == t329) = true := beq_iff_eq.mpr c16
          have c16b1 : (t320 != t329) = false := bne_eq_false_iff_eq.mpr c16
          clear c16
          by_cases c17 : t321 = 0
          · rw [if_pos c17] at H
            have c17b0 : (t321 == 0) = true := beq_iff_eq.mpr c17
            have c17b1 : (t321 != 0) = false := bne_eq_false_iff_eq.mpr c17
            clear c17
            replace H := Option.bind_eq_some_iff.mp H
            obtain ⟨t332, A180, H⟩ := H
            replace H : (cutroomlaw16_PesTakes.j0 k l0 t320 t321 (!t332) t314 t315 t316 t317) = some r := H
            have A18 := Aside0.mk A180
            clear A180
            have H' := Aside0.mk H
            clear H
            have hnb19 := NB322_331.out
            have hnc19 := NB331_322.out
            have hcz20_0 : w11.cell? ⟨gb322, 0, none⟩ = some (.int .i64 t314) := (blk_cell BK322.out 0).trans rfl
            have hcz20_1 : w11.cell? ⟨gb322, 1, none⟩ = some (.int .i64 t315) := (blk_cell BK322.out 1).trans rfl
            have hcz20_2 : w11.cell? ⟨gb322, 2, none⟩ = some (.int .i64 t316) := (blk_cell BK322.out 2).trans rfl
            have hcz20_3 : w11.cell? ⟨gb322, 3, none⟩ = some (.slice Ao9 t317.length co9) := (blk_cell BK322.out 3).trans rfl
            have hfz20_0 := blk_frozen BK322.out 0
            have hfz20_1 := blk_frozen BK322.out 1
            have hfz20_2 := blk_frozen BK322.out 2
            have hfz20_3 := blk_frozen BK322.out 3
            have hcz21_0 : w11.cell? ⟨gb331, 0, none⟩ = some (.int .i64 0) := (blk_cell BK331.out 0).trans rfl
            have hcz21_1 : w11.cell? ⟨gb331, 1, none⟩ = some (.int .i64 0) := (blk_cell BK331.out 1).trans rfl
            have hcz21_2 : w11.cell? ⟨gb331, 2, none⟩ = some (.int .i64 0) := (blk_cell BK331.out 2).trans rfl
            have hcz21_3 : w11.cell? ⟨gb331, 3, none⟩ = some (.slice none 0 0) := (blk_cell BK331.out 3).trans rfl
            have hfz21_0 := blk_frozen BK331.out 0
            have hfz21_1 := blk_frozen BK331.out 1
            have hfz21_2 := blk_frozen BK331.out 2
            have hfz21_3 := blk_frozen BK331.out 3
            go_wp2_with (first | (go_at_call 19; (with_reducible refine (cutroomlaw16_same.calls t314 t315 t316 _ _ t317 t323 t324 t325 _ _ t326 t332 _ ?side1 ?side2 ?side3 ?side4 A18.out).mono ?_); (case side1 => refine (Kd.R_reads' (e := 5) (base := w.heap.size) (ok := fun k_ => (True ∧ some k_ ≠ (.slice Ao14 t326.length co14 : Value).ownBlock)) (n := t317.length) (c := co9) ?_).2.2; exact (by (with_reducible repeat (first | apply Kd.R_alloc | apply Kd.R_drewN | apply Kd.R_drew)); exact (Kd.R_mono (Kd.R_far (p := ⟨gb331, 3, none⟩) (Kd.R_far (p := ⟨gb331, 2, none⟩) (Kd.R_far (p := ⟨gb331, 1, none⟩) (Kd.R_far (p := ⟨gb331, 0, none⟩) (Kd.R_types HO319.out BK331.out (by decide)) (fun _ hk => hk.2) (.int .i64 t323)) (fun _ hk => hk.2) (.int .i64 t324)) (fun _ hk => hk.2) (.int .i64 t325)) (fun _ hk => hk.2) (.slice Ao14 t326.length co14)) (fun _ h_ => h_.1)))); (case side2 => exact (Kd.R_reads' HO319.out).2.1); (case side3 => refine (Kd.R_reads' (e := 5) (base := w.heap.size) (ok := fun k_ => (True ∧ some k_ ≠ (.slice Ao9 t317.length co9 : Value).ownBlock)) (n := t326.length) (c := co14) ?_).2.2; exact (by (with_reducible repeat (first | apply Kd.R_alloc | apply Kd.R_drewN | apply Kd.R_drew)); exact (Kd.R_mono (Kd.R_far (p := ⟨gb331, 3, none⟩) (Kd.R_far (p := ⟨gb331, 2, none⟩) (Kd.R_far (p := ⟨gb331, 1, none⟩) (Kd.R_far (p := ⟨gb331, 0, none⟩) (Kd.R_types HO328.out BK331.out (by decide)) (fun _ hk => hk.2) (.int .i64 t323)) (fun _ hk => hk.2) (.int .i64 t324)) (fun _ hk => hk.2) (.int .i64 t325)) (fun _ hk => hk.2) (.slice Ao14 t326.length co14)) (fun _ h_ => h_.1)))); (case side4 => exact (Kd.R_reads' HO328.out).2.1); rintro e w22 ⟨rfl, hb⟩; have n0_ := Aside0.mk (Kd.R_below (by (with_reducible repeat (first | apply Kd.R_alloc | apply Kd.R_drewN | apply Kd.R_drew)); exact (Kd.R_mono (Kd.R_far (p := ⟨gb331, 3, none⟩) (Kd.R_far (p := ⟨gb331, 2, none⟩) (Kd.R_far (p := ⟨gb331, 1, none⟩) (Kd.R_far (p := ⟨gb331, 0, none⟩) (Kd.R_types HO319.out BK331.out (by decide)) (fun _ hk => hk.2) (.int .i64 t323)) (fun _ hk => hk.2) (.int .i64 t324)) (fun _ hk => hk.2) (.int .i64 t325)) (fun _ hk => hk.2) (.slice Ao14 t326.length co14)) (fun _ h_ => h_.1))) hb); have n1_ := Aside0.mk (Kd.R_below (by (with_reducible repeat (first | apply Kd.R_alloc | apply Kd.R_drewN | apply Kd.R_drew)); exact (Kd.R_mono (Kd.R_far (p := ⟨gb331, 3, none⟩) (Kd.R_far (p := ⟨gb331, 2, none⟩) (Kd.R_far (p := ⟨gb331, 1, none⟩) (Kd.R_far (p := ⟨gb331, 0, none⟩) (Kd.R_types HO328.out BK331.out (by decide)) (fun _ hk => hk.2) (.int .i64 t323)) (fun _ hk => hk.2) (.int .i64 t324)) (fun _ hk => hk.2) (.int .i64 t325)) (fun _ hk => hk.2) (.slice Ao14 t326.length co14)) (fun _ h_ => h_.1))) hb); have n2_ := Aside0.mk (blk_below (g := gb322) (o := .cells #[.int .i64 t314, .int .i64 t315, .int .i64 t316, .slice Ao9 t317.length co9] 30 (0, 0)) (by (with_reducible repeat (first | refine blk_drewN ?_ _ | refine blk_drew ?_ | refine blk_alloc ?_ _)); refine blk_far ?_ NB322_331.out _; (with_reducible repeat (first | refine blk_drewN ?_ _ | refine blk_drew ?_ | refine blk_alloc ?_ _)); refine blk_far ?_ NB322_331.out _; (with_reducible repeat (first | refine blk_drewN ?_ _ | refine blk_drew ?_ | refine blk_alloc ?_ _)); refine blk_far ?_ NB322_331.out _; (with_reducible repeat (first | refine blk_drewN ?_ _ | refine blk_drew ?_ | refine blk_alloc ?_ _)); refine blk_far ?_ NB322_331.out _; (with_reducible repeat (first | refine blk_drewN ?_ _ | refine blk_drew ?_ | refine blk_alloc ?_ _)); exact BK322.out) hb); have n3_ := Aside0.mk (blk_below (g := gb331) (o := .cells #[.int .i64 t323, .int .i64 t324, .int .i64 t325, .slice Ao14 t326.length co14] 29 (0, 0)) (by (with_reducible repeat (first | refine blk_drewN ?_ _ | refine blk_drew ?_ | refine blk_alloc ?_ _)); refine blk_put (cs := #[.int .i64 t323, .int .i64 t324, .int .i64 t325, .slice none 0 0]) ?_ 3 _ rfl; (with_reducible repeat (first | refine blk_drewN ?_ _ | refine blk_drew ?_ | refine blk_alloc ?_ _)); refine blk_put (cs := #[.int .i64 t323, .int .i64 t324, .int .i64 0, .slice none 0 0]) ?_ 2 _ rfl; (with_reducible repeat (first | refine blk_drewN ?_ _ | refine blk_drew ?_ | refine blk_alloc ?_ _)); refine blk_put (cs := #[.int .i64 t323, .int .i64 0, .int .i64 0, .slice none 0 0]) ?_ 1 _ rfl; (with_reducible repeat (first | refine blk_drewN ?_ _ | refine blk_drew ?_ | refine blk_alloc ?_ _)); refine blk_put (cs := #[.int .i64 0, .int .i64 0, .int .i64 0, .slice none 0 0]) ?_ 0 _ rfl; (with_reducible repeat (first | refine blk_drewN ?_ _ | refine blk_drew ?_ | refine blk_alloc ?_ _)); exact BK331.out) hb); have n4_ := Aside0.mk (below_step (by repeat (first | (with_reducible first | exact HB.out | apply below_alloc | apply pw_below_drewN | apply below_drew1 | refine below_set ?_ GE322.out | refine below_set ?_ GE331.out) | exact HB.out)) hb); clear HO319; clear HO328; clear BK322; clear BK331; clear HB; have HO319 := n0_; have HO328 := n1_; have BK322 := n2_; have BK331 := n3_; have HB := n4_; clear n0_ n1_ n2_ n3_ n4_; (try clear hb); (try clear hb2); (try clear hk); (try clear hi)))
            go_meet
            case rel => exact ⟨_, (!t332), (by first | rfl | (simp; done) | (simp [*]; done)), H', ⟨by first | omega | exact Nat.le_refl _⟩, ⟨by (with_reducible repeat (first | apply Kd.R_alloc | apply Kd.R_drewN | apply Kd.R_drew)); exact Kd.R_mono HO319.out (fun _ hk => hk.2)⟩, ⟨by (with_reducible repeat (first | apply Kd.R_alloc | apply Kd.R_drewN | apply Kd.R_drew)); exact Kd.R_mono HO328.out (fun _ hk => hk.2)⟩, ⟨by (with_reducible repeat (first | refine blk_drewN ?_ _ | refine blk_drew ?_ | refine blk_alloc ?_ _)); exact BK322.out⟩, ⟨by (with_reducible repeat (first | refine blk_drewN ?_ _ | refine blk_drew ?_ | refine blk_alloc ?_ _)); exact BK331.out⟩, ⟨by repeat (first | (with_reducible first | exact HB.out | apply below_alloc | apply pw_below_drewN | apply below_drew1 | refine below_set ?_ GE322.out | refine below_set ?_ GE331.out) | exact HB.out)⟩⟩
          · rw [if_neg c17] at H
            have c17b0 : (t321 == 0) = false := beq_eq_false_iff_ne.mpr c17
            have c17b1 : (t321 != 0) = true := bne_iff_ne.mpr c17
            have H' := Aside0.mk H
            clear H
            go_wp2
            go_meet
            case rel => exact ⟨_, (false), (by first | rfl | (simp; done) | (simp [*]; done)), H', ⟨by first | omega | exact Nat.le_refl _⟩, ⟨by (with_reducible repeat (first | apply Kd.R_alloc | apply Kd.R_drewN | apply Kd.R_drew)); exact Kd.R_mono (Kd.R_far (p := ⟨gb331, 3, none⟩) (Kd.R_far (p := ⟨gb331, 2, none⟩) (Kd.R_far (p := ⟨gb331, 1, none⟩) (Kd.R_far (p := ⟨gb331, 0, none⟩) (Kd.R_types HO319.out BK331.out (by decide)) (fun _ hk => hk.2) (.int .i64 t323)) (fun _ hk => hk.2) (.int .i64 t324)) (fun _ hk => hk.2) (.int .i64 t325)) (fun _ hk => hk.2) (.slice Ao14 t326.length co14)) (fun _ hk => hk.1.2)⟩, ⟨by (with_reducible repeat (first | apply Kd.R_alloc | apply Kd.R_drewN | apply Kd.R_drew)); exact Kd.R_mono (Kd.R_far (p := ⟨gb331, 3, none⟩) (Kd.R_far (p := ⟨gb331, 2, none⟩) (Kd.R_far (p := ⟨gb331, 1, none⟩) (Kd.R_far (p := ⟨gb331, 0, none⟩) (Kd.R_types HO328.out BK331.out (by decide)) (fun _ hk => hk.2) (.int .i64 t323)) (fun _ hk => hk.2) (.int .i64 t324)) (fun _ hk => hk.2) (.int .i64 t325)) (fun _ hk => hk.2) (.slice Ao14 t326.length co14)) (fun _ hk => hk.1.2)⟩, ⟨by (with_reducible repeat (first | refine blk_drewN ?_ _ | refine blk_drew ?_ | refine blk_alloc ?_ _)); refine blk_far ?_ NB322_331.out _; (with_reducible repeat (first | refine blk_drewN ?_ _ | refine blk_drew ?_ | refine blk_alloc ?_ _)); refine blk_far ?_ NB322_331.out _; (with_reducible repeat (first | refine blk_drewN ?_ _ | refine blk_drew ?_ | refine blk_alloc ?_ _)); refine blk_far ?_ NB322_331.out _; (with_reducible repeat (first | refine blk_drewN ?_ _ | refine blk_drew ?_ | refine blk_alloc ?_ _)); refine blk_far ?_ NB322_331.out _; (with_reducible repeat (first | refine blk_drewN ?_ _ | refine blk_drew ?_ | refine blk_alloc ?_ _)); exact BK322.out⟩, ⟨by (with_reducible repeat (first | refine blk_drewN ?_ _ | refine blk_drew ?_ | refine blk_alloc ?_ _)); refine blk_put (cs := #[.int .i64 t323, .int .i64 t324, .int .i64 t325, .slice none 0 0]) ?_ 3 _ rfl; (with_reducible repeat (first | refine blk_drewN ?_ _ | refine blk_drew ?_ | refine blk_alloc ?_ _)); refine blk_put (cs := #[.int .i64 t323, .int .i64 t324, .int .i64 0, .slice none 0 0]) ?_ 2 _ rfl; (with_reducible repeat (first | refine blk_drewN ?_ _ | refine blk_drew ?_ | refine blk_alloc ?_ _)); refine blk_put (cs := #[.int .i64 t323, .int .i64 0, .int .i64 0, .slice none 0 0]) ?_ 1 _ rfl; (with_reducible repeat (first | refine blk_drewN ?_ _ | refine blk_drew ?_ | refine blk_alloc ?_ _)); refine blk_put (cs := #[.int .i64 0, .int .i64 0, .int .i64 0, .slice none 0 0]) ?_ 0 _ rfl; (with_reducible repeat (first | refine blk_drewN ?_ _ | refine blk_drew ?_ | refine blk_alloc ?_ _)); exact BK331.out⟩, ⟨by repeat (first | (with_reducible first | exact HB.out | apply below_alloc | apply pw_below_drewN | apply below_drew1 | refine below_set ?_ GE322.out | refine below_set ?_ GE331.out) | exact HB.out)⟩⟩
        · rw [if_neg c16] at H
          have c16b0 : (t320 == t329) = false := beq_eq_false_iff_ne.mpr c16
          have c16b1 : (t320 != t329) = true := bne_iff_ne.mpr c16
          have H' := Aside0.mk H
          clear H
          go_wp2
          go_meet
          case rel => exact ⟨_, (true), (by first | rfl | (simp; done) | (simp [*]; done)), H', ⟨by first | omega | exact Nat.le_refl _⟩, ⟨by (with_reducible repeat (first | apply Kd.R_alloc | apply Kd.R_drewN | apply Kd.R_drew)); exact Kd.R_mono (Kd.R_far (p := ⟨gb331, 3, none⟩) (Kd.R_far (p := ⟨gb331, 2, none⟩) (Kd.R_far (p := ⟨gb331, 1, none⟩) (Kd.R_far (p := ⟨gb331, 0, none⟩) (Kd.R_types HO319.out BK331.out (by decide)) (fun _ hk => hk.2) (.int .i64 t323)) (fun _ hk => hk.2) (.int .i64 t324)) (fun _ hk => hk.2) (.int .i64 t325)) (fun _ hk => hk.2) (.slice Ao14 t326.length co14)) (fun _ hk => hk.1.2)⟩, ⟨by (with_reducible repeat (first | apply Kd.R_alloc | apply Kd.R_drewN | apply Kd.R_drew)); exact Kd.R_mono (Kd.R_far (p := ⟨gb331, 3, none⟩) (Kd.R_far (p := ⟨gb331, 2, none⟩) (Kd.R_far (p := ⟨gb331, 1, none⟩) (Kd.R_far (p := ⟨gb331, 0, none⟩) (Kd.R_types HO328.out BK331.out (by decide)) (fun _ hk => hk.2) (.int .i64 t323)) (fun _ hk => hk.2) (.int .i64 t324)) (fun _ hk => hk.2) (.int .i64 t325)) (fun _ hk => hk.2) (.slice Ao14 t326.length co14)) (fun _ hk => hk.1.2)⟩, ⟨by (with_reducible repeat (first | refine blk_drewN ?_ _ | refine blk_drew ?_ | refine blk_alloc ?_ _)); refine blk_far ?_ NB322_331.out _; (with_reducible repeat (first | refine blk_drewN ?_ _ | refine blk_drew ?_ | refine blk_alloc ?_ _)); refine blk_far ?_ NB322_331.out _; (with_reducible repeat (first | refine blk_drewN ?_ _ | refine blk_drew ?_ | refine blk_alloc ?_ _)); refine blk_far ?_ NB322_331.out _; (with_reducible repeat (first | refine blk_drewN ?_ _ | refine blk_drew ?_ | refine blk_alloc ?_ _)); refine blk_far ?_ NB322_331.out _; (with_reducible repeat (first | refine blk_drewN ?_ _ | refine blk_drew ?_ | refine blk_alloc ?_ _)); exact BK322.out⟩, ⟨by (with_reducible repeat (first | refine blk_drewN ?_ _ | refine blk_drew ?_ | refine blk_alloc ?_ _)); refine blk_put (cs := #[.int .i64 t323, .int .i64 t324, .int .i64 t325, .slice none 0 0]) ?_ 3 _ rfl; (with_reducible repeat (first | refine blk_drewN ?_ _ | refine blk_drew ?_ | refine blk_alloc ?_ _)); refine blk_put (cs := #[.int .i64 t323, .int .i64 t324, .int .i64 0, .slice none 0 0]) ?_ 2 _ rfl; (with_reducible repeat (first | refine blk_drewN ?_ _ | refine blk_drew ?_ | refine blk_alloc ?_ _)); refine blk_put (cs := #[.int .i64 t323, .int .i64 0, .int .i64 0, .slice none 0 0]) ?_ 1 _ rfl; (with_reducible repeat (first | refine blk_drewN ?_ _ | refine blk_drew ?_ | refine blk_alloc ?_ _)); refine blk_put (cs := #[.int .i64 0, .int .i64 0, .int .i64 0, .slice none 0 0]) ?_ 0 _ rfl; (with_reducible repeat (first | refine blk_drewN ?_ _ | refine blk_drew ?_ | refine blk_alloc ?_ _)); exact BK331.out⟩, ⟨by repeat (first | (with_reducible first | exact HB.out | apply below_alloc | apply pw_below_drewN | apply below_drew1 | refine below_set ?_ GE322.out | refine below_set ?_ GE331.out) | exact HB.out)⟩⟩
      · rw [if_neg c15] at H
        have c15b0 : (t321 == t330) = false := beq_eq_false_iff_ne.mpr c15
        have c15b1 : (t321 != t330) = true := bne_iff_ne.mpr c15
        (first | rw [c15b0] | (simp only [i64_w, i32_w]; rw [c15b0]) | skip)
        have H' := Aside0.mk H
        clear H
        go_wp2
        go_meet
        case rel => exact ⟨_, (true), (by first | rfl | (simp; done) | (simp [*]; done)), H', ⟨by first | omega | exact Nat.le_refl _⟩, ⟨by (with_reducible repeat (first | apply Kd.R_alloc | apply Kd.R_drewN | apply Kd.R_drew)); exact Kd.R_mono (Kd.R_far (p := ⟨gb331, 3, none⟩) (Kd.R_far (p := ⟨gb331, 2, none⟩) (Kd.R_far (p := ⟨gb331, 1, none⟩) (Kd.R_far (p := ⟨gb331, 0, none⟩) (Kd.R_types HO319.out BK331.out (by decide)) (fun _ hk => hk.2) (.int .i64 t323)) (fun _ hk => hk.2) (.int .i64 t324)) (fun _ hk => hk.2) (.int .i64 t325)) (fun _ hk => hk.2) (.slice Ao14 t326.length co14)) (fun _ hk => hk.1.2)⟩, ⟨by (with_reducible repeat (first | apply Kd.R_alloc | apply Kd.R_drewN | apply Kd.R_drew)); exact Kd.R_mono (Kd.R_far (p := ⟨gb331, 3, none⟩) (Kd.R_far (p := ⟨gb331, 2, none⟩) (Kd.R_far (p := ⟨gb331, 1, none⟩) (Kd.R_far (p := ⟨gb331, 0, none⟩) (Kd.R_types HO328.out BK331.out (by decide)) (fun _ hk => hk.2) (.int .i64 t323)) (fun _ hk => hk.2) (.int .i64 t324)) (fun _ hk => hk.2) (.int .i64 t325)) (fun _ hk => hk.2) (.slice Ao14 t326.length co14)) (fun _ hk => hk.1.2)⟩, ⟨by (with_reducible repeat (first | refine blk_drewN ?_ _ | refine blk_drew ?_ | refine blk_alloc ?_ _)); refine blk_far ?_ NB322_331.out _; (with_reducible repeat (first | refine blk_drewN ?_ _ | refine blk_drew ?_ | refine blk_alloc ?_ _)); refine blk_far ?_ NB322_331.out _; (with_reducible repeat (first | refine blk_drewN ?_ _ | refine blk_drew ?_ | refine blk_alloc ?_ _)); refine blk_far ?_ NB322_331.out _; (with_reducible repeat (first | refine blk_drewN ?_ _ | refine blk_drew ?_ | refine blk_alloc ?_ _)); refine blk_far ?_ NB322_331.out _; (with_reducible repeat (first | refine blk_drewN ?_ _ | refine blk_drew ?_ | refine blk_alloc ?_ _)); exact BK322.out⟩, ⟨by (with_reducible repeat (first | refine blk_drewN ?_ _ | refine blk_drew ?_ | refine blk_alloc ?_ _)); refine blk_put (cs := #[.int .i64 t323, .int .i64 t324, .int .i64 t325, .slice none 0 0]) ?_ 3 _ rfl; (with_reducible repeat (first | refine blk_drewN ?_ _ | refine blk_drew ?_ | refine blk_alloc ?_ _)); refine blk_put (cs := #[.int .i64 t323, .int .i64 t324, .int .i64 0, .slice none 0 0]) ?_ 2 _ rfl; (with_reducible repeat (first | refine blk_drewN ?_ _ | refine blk_drew ?_ | refine blk_alloc ?_ _)); refine blk_put (cs := #[.int .i64 t323, .int .i64 0, .int .i64 0, .slice none 0 0]) ?_ 1 _ rfl; (with_reducible repeat (first | refine blk_drewN ?_ _ | refine blk_drew ?_ | refine blk_alloc ?_ _)); refine blk_put (cs := #[.int .i64 0, .int .i64 0, .int .i64 0, .slice none 0 0]) ?_ 0 _ rfl; (with_reducible repeat (first | refine blk_drewN ?_ _ | refine blk_drew ?_ | refine blk_alloc ?_ _)); exact BK331.out⟩, ⟨by repeat (first | (with_reducible first | exact HB.out | apply below_alloc | apply pw_below_drewN | apply below_drew1 | refine below_set ?_ GE322.out | refine below_set ?_ GE331.out) | exact HB.out)⟩⟩
    case rest =>
      clear HC5
      try clear c1
      try clear c2
      try clear c2b0
      try clear c2b1
      try clear p2
      try clear c7
      try clear c12
      try clear c15
      try clear c15b0
      try clear c15b1
      try clear c16
      try clear c16b0
      try clear c16b1
      try clear c17
      try clear c17b0
      try clear c17b1
      try clear c19
      try clear c22
      try clear hcz13_0
      try clear hcz13_1
      try clear hcz13_2
      try clear hcz13_3
      try clear hcz20_0
      try clear hcz20_1
      try clear hcz20_2
      try clear hcz20_3
      try clear hcz21_0
      try clear hcz21_1
      try clear hcz21_2
      try clear hcz21_3
      try clear hcz8_0
      try clear hcz8_1
      try clear hcz8_2
      try clear hcz8_3
      try clear hfz13_0
      try clear hfz13_1
      try clear hfz13_2
      try clear hfz13_3
      try clear hfz20_0
      try clear hfz20_1
      try clear hfz20_2
      try clear hfz20_3
      try clear hfz21_0
      try clear hfz21_1
      try clear hfz21_2
      try clear hfz21_3
      try clear hfz8_0
      try clear hfz8_1
      try clear hfz8_2
      try clear hfz8_3
      obtain ⟨kq, x43_4, rfl, HA, HJ4, HO_323003, HO_332003, BK322, BK331, HB⟩ := hcut
      cases kq with
      | zero => exact absurd HA.out (by simp [cutroomlaw16_PesTakes.j0])
      | succ kj4 =>
        have H := HA.out
        clear HA
        simp only [cutroomlaw16_PesTakes.j0] at H
        by_cases c23 : x43_4 = true
        · subst c23
          have H1 : (some false) = some r := by rw [if_pos rfl] at H; exact H
          clear H
          have H := H1
          clear H1
          obtain rfl := Option.some.inj H
          go_wp2
          go_ret
          exact ⟨by first | rfl | (simp [errW_none, errW_some] <;> rfl) | (simp [*, errW_none, errW_some] <;> rfl), by repeat (first | (with_reducible first | exact HB.out | apply below_alloc | apply pw_below_drewN | apply below_drew1 | refine below_set ?_ GE322.out | refine below_set ?_ GE331.out) | exact HB.out)⟩
        · replace c23 := Bool.eq_false_iff.mpr c23
          subst c23
          have H1 : (if t321 = 0 then ((pes_Put.f kj4 t314 t315 t316 t317).bind fun bt334 => ((cutroomlaw16_awake.f kj4).bind fun t338 => (if t338 = true then (if bt334.2 = 0 then (if t320 ≤ (l0.length : Int) then (if 0 ≤ t320 then ((cutroomref02_SameBytes.f (l0.take (t320 : Int).toNat) bt334.1).bind fun t340 => (some t340)) else (none)) else (some false)) else (some false)) else (some false)))) else ((cutroomlaw16_awake.f kj4).bind fun t333 => (if t333 = true then (if (t317.length : Int) = 0 then (if t314 = 0 then (if t315 = 0 then (some (t316 == 0)) else (some false)) else (some false)) else (some false)) else (some false)))) = some r := by rw [if_neg (show ¬ (false = true) by decide)] at H; exact H
          clear H
          have H := H1
          clear H1
          by_cases c24 : t321 = 0
          · rw [if_pos c24] at H
            have c24b0 : (t321 == 0) = true := beq_iff_eq.mpr c24
            have c24b1 : (t321 != 0) = false := bne_eq_false_iff_eq.mpr c24
            clear c24
            replace H := Option.bind_eq_some_iff.mp H
            obtain ⟨⟨t334, t337⟩, A250, H⟩ := H
            replace H : ((cutroomlaw16_awake.f kj4).bind fun t338 => (if t338 = true then (if t337 = 0 then (if t320 ≤ (l0.length : Int) then (if 0 ≤ t320 then ((cutroomref02_SameBytes.f (l0.take (t320 : Int).toNat) t334).bind fun t340 => (some t340)) else (none)) else (some false)) else (some false)) else (some false))) = some r := H
            have A25 := Aside0.mk A250
            clear A250
            replace H := Option.bind_eq_some_iff.mp H
            obtain ⟨t338, A260, H⟩ := H
            replace H : (if t338 = true then (if t337 = 0 then (if t320 ≤ (l0.length : Int) then (if 0 ≤ t320 then ((cutroomref02_SameBytes.f (l0.take (t320 : Int).toNat) t334).bind fun t340 => (some t340)) else (none)) else (some false)) else (some false)) else (some false)) = some r := H
            have A26 := Aside0.mk A260
            clear A260
            by_cases c27 : t338 = true
            · subst c27
              have H1 : (if t337 = 0 then (if t320 ≤ (l0.length : Int) then (if 0 ≤ t320 then ((cutroomref02_SameBytes.f (l0.take (t320 : Int).toNat) t334).bind fun t340 => (some t340)) else (none)) else (some false)) else (some false)) = some r := by rw [if_pos rfl] at H; exact H
              clear H
              have H := H1
              clear H1
              by_cases c28 : t337 = 0
              · rw [if_pos c28] at H
                have c28b0 : (t337 == 0) = true := beq_iff_eq.mpr c28
                have c28b1 : (t337 != 0) = false := bne_eq_false_iff_eq.mpr c28
                clear c28
                by_cases c29 : t320 ≤ (l0.length : Int)
                · rw [if_pos c29] at H
                  have c29b0 : decide (t320 ≤ (l0.length : Int)) = true := decide_eq_true c29
                  clear c29
                  by_cases c30 : 0 ≤ t320
                  · rw [if_pos c30] at H
                    have c30b0 := eq_true c30
                    have c30b1 : decide (0 ≤ t320) = true := decide_eq_true c30
                    clear c30
                    have c31b0 := eq_true (of_decide_eq_true (by first | (with_reducible assumption) | assumption) : t320 ≤ (l0.length : Int))
                    replace H := Option.bind_eq_some_iff.mp H
                    obtain ⟨t340, A320, H⟩ := H
                    replace H : (some t340) = some r := H
                    have A32 := Aside0.mk A320
                    clear A320
                    obtain rfl := Option.some.inj H
                    have hnb33 := NB322_331.out
                    have hnc33 := NB331_322.out
                    have hcz34_0 : wc.cell? ⟨gb322, 0, none⟩ = some (.int .i64 t314) := (blk_cell BK322.out 0).trans rfl
                    have hcz34_1 : wc.cell? ⟨gb322, 1, none⟩ = some (.int .i64 t315) := (blk_cell BK322.out 1).trans rfl
                    have hcz34_2 : wc.cell? ⟨gb322, 2, none⟩ = some (.int .i64 t316) := (blk_cell BK322.out 2).trans rfl
                    have hcz34_3 : wc.cell? ⟨gb322, 3, none⟩ = some (.slice Ao9 t317.length co9) := (blk_cell BK322.out 3).trans rfl
                    have hfz34_0 := blk_frozen BK322.out 0
                    have hfz34_1 := blk_frozen BK322.out 1
                    have hfz34_2 := blk_frozen BK322.out 2
                    have hfz34_3 := blk_frozen BK322.out 3
                    go_wp2_with (first | ((with_reducible refine gate_callee (f := 20) rfl ?_); refine goesL_ (some 70) rfl rfl Try.func20 (by kernel_rfl) rfl #[.agg #[.int .i64 t314, .int .i64 t315, .int .i64 t316, .slice Ao9 t317.length co9]] rfl (by (try simp only [List.map_toArray, List.map_cons, List.map_nil]); first | done | rfl | (simp only [List.length_drop, List.length_take]; rfl)) ?_; (with_reducible refine (pes_Put.calls kj4 t314 t315 t316 (fun k_ => some k_ = (.slice Ao9 t317.length co9 : Value).ownBlock) _ _ t317 t334 t337 _ ?side1 A25.out).mono ?_); (case side1 => exact Kd.R_V (Kd.R_tight rfl (Kd.R_types (Kd.R_types (HO_323003.out) BK322.out (by decide)) BK331.out (by decide)))); rintro e w35 ⟨v335, rfl, ho0, hb⟩; refine ⟨_, rfl, ?_⟩; have n0_ := Aside0.mk (Kd.R_elder' (by (with_reducible repeat (first | apply Kd.R_alloc | apply Kd.R_drewN | apply Kd.R_drew)); exact HO_323003.out) (Kd.R_base ho0) hb); have n1_ := Aside0.mk (Kd.R_elder' (by (with_reducible repeat (first | apply Kd.R_alloc | apply Kd.R_drewN | apply Kd.R_drew)); exact HO_332003.out) (Kd.R_base ho0) hb); have n2_ := Aside0.mk (Kd.R_lower (Kd.R_new' (Kd.R_new' (Kd.R_mono (ok' := fun k_ => True) ho0 (fun _ hk_ => trivial)) (Kd.R_lt (by (with_reducible repeat (first | apply Kd.R_alloc | apply Kd.R_drewN | apply Kd.R_drew)); exact HO_323003.out))) (Kd.R_lt (by (with_reducible repeat (first | apply Kd.R_alloc | apply Kd.R_drewN | apply Kd.R_drew)); exact HO_332003.out))) (below_size (by repeat (first | (with_reducible first | exact HB.out | apply below_alloc | apply pw_below_drewN | apply below_drew1 | refine below_set ?_ GE322.out | refine below_set ?_ GE331.out) | exact HB.out)))); have n3_ := Aside0.mk (blk_below (g := gb322) (o := .cells #[.int .i64 t314, .int .i64 t315, .int .i64 t316, .slice Ao9 t317.length co9] 30 (0, 0)) (by (with_reducible repeat (first | refine blk_drewN ?_ _ | refine blk_drew ?_ | refine blk_alloc ?_ _)); exact BK322.out) hb); have n4_ := Aside0.mk (blk_below (g := gb331) (o := .cells #[.int .i64 t323, .int .i64 t324, .int .i64 t325, .slice Ao14 t326.length co14] 29 (0, 0)) (by (with_reducible repeat (first | refine blk_drewN ?_ _ | refine blk_drew ?_ | refine blk_alloc ?_ _)); exact BK331.out) hb); have n5_ := Aside0.mk (below_step (by repeat (first | (with_reducible first | exact HB.out | apply below_alloc | apply pw_below_drewN | apply below_drew1 | refine below_set ?_ GE322.out | refine below_set ?_ GE331.out) | exact HB.out)) hb); clear HO_323003; clear HO_332003; clear BK322; clear BK331; clear HB; have HO_323003 := n0_; have HO_332003 := n1_; have HO336 := n2_; have BK322 := n3_; have BK331 := n4_; have HB := n5_; clear n0_ n1_ n2_ n3_ n4_ n5_; (try clear hb); (try clear hb2); (try clear hk); (try clear hi); (try clear ho0)) | ((with_reducible refine gate_callee (f := 10) rfl ?_); refine goesL_ (some 73) rfl rfl Try.func10 (by kernel_rfl) rfl #[] rfl (by (try simp only [List.map_toArray, List.map_cons, List.map_nil]); first | done | rfl | (simp only [List.length_drop, List.length_take]; rfl)) ?_; (with_reducible refine (cutroomlaw16_awake.calls kj4  true _ A26.out).mono ?_); rintro e w36 ⟨rfl, hb⟩; refine ⟨_, rfl, ?_⟩; have n0_ := Aside0.mk (Kd.R_below (by (with_reducible repeat (first | apply Kd.R_alloc | apply Kd.R_drewN | apply Kd.R_drew)); exact HO_323003.out) hb); have n1_ := Aside0.mk (Kd.R_below (by (with_reducible repeat (first | apply Kd.R_alloc | apply Kd.R_drewN | apply Kd.R_drew)); exact HO_332003.out) hb); have n2_ := Aside0.mk (Kd.R_below (by (with_reducible repeat (first | apply Kd.R_alloc | apply Kd.R_drewN | apply Kd.R_drew)); exact HO336.out) hb); have n3_ := Aside0.mk (blk_below (g := gb322) (o := .cells #[.int .i64 t314, .int .i64 t315, .int .i64 t316, .slice Ao9 t317.length co9] 30 (0, 0)) (by (with_reducible repeat (first | refine blk_drewN ?_ _ | refine blk_drew ?_ | refine blk_alloc ?_ _)); exact BK322.out) hb); have n4_ := Aside0.mk (blk_below (g := gb331) (o := .cells #[.int .i64 t323, .int .i64 t324, .int .i64 t325, .slice Ao14 t326.length co14] 29 (0, 0)) (by (with_reducible repeat (first | refine blk_drewN ?_ _ | refine blk_drew ?_ | refine blk_alloc ?_ _)); exact BK331.out) hb); have n5_ := Aside0.mk (below_step (by repeat (first | (with_reducible first | exact HB.out | apply below_alloc | apply pw_below_drewN | apply below_drew1 | refine below_set ?_ GE322.out | refine below_set ?_ GE331.out) | exact HB.out)) hb); clear HO_323003; clear HO_332003; clear HO336; clear BK322; clear BK331; clear HB; have HO_323003 := n0_; have HO_332003 := n1_; have HO336 := n2_; have BK322 := n3_; have BK331 := n4_; have HB := n5_; clear n0_ n1_ n2_ n3_ n4_ n5_; (try clear hb); (try clear hb2); (try clear hk); (try clear hi); obtain ⟨i037, hi037, _, hsz37, _⟩ := info_parts info5; obtain ⟨hcut37, hA37, hC37⟩ := print_take_of (P := Try.prog) (Value.int .u8) 0 27 5 .i64 Try.underlying27 hi037 hsz37 A0 c0 l0 t320 (of_decide_eq_true (by first | (with_reducible assumption) | assumption)) (of_decide_eq_true (by first | (with_reducible assumption) | assumption)) HC0.out; have HR339 := Aside0.mk (Kd.C_of_reads (h1 := fun _ => rfl) (hA37 _ (Kd.reads_of_C HR0.out))); have HC339 := Aside0.mk hC37; clear hA37 hC37 hi037 hsz37; obtain ⟨Ao38, co38, eo38⟩ := Kd.R_slice HO336.out; subst eo38) | (go_at_call 16; refine calls_of_args (args' := #[.slice A0 (l0.take (t320 : Int).toNat).length c0, .slice Ao38 t334.length co38]) (by first | rfl | (rw [show (l0.take (t320 : Int).toNat).length = t320.toNat from (by rw [List.length_take]; have h_ : (t320 : Int) ≤ (l0.length : Int) := of_decide_eq_true (by first | (with_reducible assumption) | assumption); omega)]; done) | (simp only [List.length_drop, List.length_take]; done) | (simp only [List.length_drop, List.length_take]; rfl)) ?_; (with_reducible refine (cutroomref02_SameBytes.calls _ _ (l0.take (t320 : Int).toNat) _ _ t334 t340 _ ?side1 ?side2 ?side3 ?side4 A32.out).mono ?_); (case side1 => repeat (first | exact (Kd.C_below HR339.out HB.out) | (with_reducible refine Kd.C_alloc ?_ _) | (with_reducible refine Kd.C_drewN ?_ _) | (with_reducible refine Kd.C_drew ?_))); (case side2 => exact HC339.out); (case side3 => repeat (first | exact (Kd.R_reads' HO336.out).2.2 | (with_reducible refine Kd.C_alloc ?_ _) | (with_reducible refine Kd.C_drewN ?_ _) | (with_reducible refine Kd.C_drew ?_))); (case side4 => exact (Kd.R_reads' HO336.out).2.1); rintro e w' ⟨rfl, ⟨nd, rfl⟩⟩))
                    go_ret
                    exact ⟨by first | rfl | (simp [errW_none, errW_some] <;> rfl) | (simp [*, errW_none, errW_some] <;> rfl), by repeat (first | (with_reducible first | exact HB.out | apply below_alloc | apply pw_below_drewN | apply below_drew1 | refine below_set ?_ GE322.out | refine below_set ?_ GE331.out) | exact HB.out)⟩
                  · rw [if_neg c30] at H
                    exact absurd H (by simp)
                · rw [if_neg c29] at H
                  have c29b0 : decide (t320 ≤ (l0.length : Int)) = false := decide_eq_false c29
                  clear c29
                  obtain rfl := Option.some.inj H
                  have hnb39 := NB322_331.out
                  have hnc39 := NB331_322.out
                  have hcz40_0 : wc.cell? ⟨gb322, 0, none⟩ = some (.int .i64 t314) := (blk_cell BK322.out 0).trans rfl
                  have hcz40_1 : wc.cell? ⟨gb322, 1, none⟩ = some (.int .i64 t315) := (blk_cell BK322.out 1).trans rfl
                  have hcz40_2 : wc.cell? ⟨gb322, 2, none⟩ = some (.int .i64 t316) := (blk_cell BK322.out 2).trans rfl
                  have hcz40_3 : wc.cell? ⟨gb322, 3, none⟩ = some (.slice Ao9 t317.length co9) := (blk_cell BK322.out 3).trans rfl
                  have hfz40_0 := blk_frozen BK322.out 0
                  have hfz40_1 := blk_frozen BK322.out 1
                  have hfz40_2 := blk_frozen BK322.out 2
                  have hfz40_3 := blk_frozen BK322.out 3
                  go_wp2_with (first | ((with_reducible refine gate_callee (f := 20) rfl ?_); refine goesL_ (some 70) rfl rfl Try.func20 (by kernel_rfl) rfl #[.agg #[.int .i64 t314, .int .i64 t315, .int .i64 t316, .slice Ao9 t317.length co9]] rfl (by (try simp only [List.map_toArray, List.map_cons, List.map_nil]); first | done | rfl | (simp only [List.length_drop, List.length_take]; rfl)) ?_; (with_reducible refine (pes_Put.calls kj4 t314 t315 t316 (fun k_ => some k_ = (.slice Ao9 t317.length co9 : Value).ownBlock) _ _ t317 t334 t337 _ ?side1 A25.out).mono ?_); (case side1 => exact Kd.R_V (Kd.R_tight rfl (Kd.R_types (Kd.R_types (HO_323003.out) BK322.out (by decide)) BK331.out (by decide)))); rintro e w41 ⟨v335, rfl, ho0, hb⟩; refine ⟨_, rfl, ?_⟩; have n0_ := Aside0.mk (Kd.R_elder' (by (with_reducible repeat (first | apply Kd.R_alloc | apply Kd.R_drewN | apply Kd.R_drew)); exact HO_323003.out) (Kd.R_base ho0) hb); have n1_ := Aside0.mk (Kd.R_elder' (by (with_reducible repeat (first | apply Kd.R_alloc | apply Kd.R_drewN | apply Kd.R_drew)); exact HO_332003.out) (Kd.R_base ho0) hb); have n2_ := Aside0.mk (Kd.R_lower (Kd.R_new' (Kd.R_new' (Kd.R_mono (ok' := fun k_ => True) ho0 (fun _ hk_ => trivial)) (Kd.R_lt (by (with_reducible repeat (first | apply Kd.R_alloc | apply Kd.R_drewN | apply Kd.R_drew)); exact HO_323003.out))) (Kd.R_lt (by (with_reducible repeat (first | apply Kd.R_alloc | apply Kd.R_drewN | apply Kd.R_drew)); exact HO_332003.out))) (below_size (by repeat (first | (with_reducible first | exact HB.out | apply below_alloc | apply pw_below_drewN | apply below_drew1 | refine below_set ?_ GE322.out | refine below_set ?_ GE331.out) | exact HB.out)))); have n3_ := Aside0.mk (blk_below (g := gb322) (o := .cells #[.int .i64 t314, .int .i64 t315, .int .i64 t316, .slice Ao9 t317.length co9] 30 (0, 0)) (by (with_reducible repeat (first | refine blk_drewN ?_ _ | refine blk_drew ?_ | refine blk_alloc ?_ _)); exact BK322.out) hb); have n4_ := Aside0.mk (blk_below (g := gb331) (o := .cells #[.int .i64 t323, .int .i64 t324, .int .i64 t325, .slice Ao14 t326.length co14] 29 (0, 0)) (by (with_reducible repeat (first | refine blk_drewN ?_ _ | refine blk_drew ?_ | refine blk_alloc ?_ _)); exact BK331.out) hb); have n5_ := Aside0.mk (below_step (by repeat (first | (with_reducible first | exact HB.out | apply below_alloc | apply pw_below_drewN | apply below_drew1 | refine below_set ?_ GE322.out | refine below_set ?_ GE331.out) | exact HB.out)) hb); clear HO_323003; clear HO_332003; clear BK322; clear BK331; clear HB; have HO_323003 := n0_; have HO_332003 := n1_; have HO336 := n2_; have BK322 := n3_; have BK331 := n4_; have HB := n5_; clear n0_ n1_ n2_ n3_ n4_ n5_; (try clear hb); (try clear hb2); (try clear hk); (try clear hi); (try clear ho0)) | ((with_reducible refine gate_callee (f := 10) rfl ?_); refine goesL_ (some 73) rfl rfl Try.func10 (by kernel_rfl) rfl #[] rfl (by (try simp only [List.map_toArray, List.map_cons, List.map_nil]); first | done | rfl | (simp only [List.length_drop, List.length_take]; rfl)) ?_; (with_reducible refine (cutroomlaw16_awake.calls kj4  true _ A26.out).mono ?_); rintro e w42 ⟨rfl, hb⟩; refine ⟨_, rfl, ?_⟩; have n0_ := Aside0.mk (Kd.R_below (by (with_reducible repeat (first | apply Kd.R_alloc | apply Kd.R_drewN | apply Kd.R_drew)); exact HO_323003.out) hb); have n1_ := Aside0.mk (Kd.R_below (by (with_reducible repeat (first | apply Kd.R_alloc | apply Kd.R_drewN | apply Kd.R_drew)); exact HO_332003.out) hb); have n2_ := Aside0.mk (Kd.R_below (by (with_reducible repeat (first | apply Kd.R_alloc | apply Kd.R_drewN | apply Kd.R_drew)); exact HO336.out) hb); have n3_ := Aside0.mk (blk_below (g := gb322) (o := .cells #[.int .i64 t314, .int .i64 t315, .int .i64 t316, .slice Ao9 t317.length co9] 30 (0, 0)) (by (with_reducible repeat (first | refine blk_drewN ?_ _ | refine blk_drew ?_ | refine blk_alloc ?_ _)); exact BK322.out) hb); have n4_ := Aside0.mk (blk_below (g := gb331) (o := .cells #[.int .i64 t323, .int .i64 t324, .int .i64 t325, .slice Ao14 t326.length co14] 29 (0, 0)) (by (with_reducible repeat (first | refine blk_drewN ?_ _ | refine blk_drew ?_ | refine blk_alloc ?_ _)); exact BK331.out) hb); have n5_ := Aside0.mk (below_step (by repeat (first | (with_reducible first | exact HB.out | apply below_alloc | apply pw_below_drewN | apply below_drew1 | refine below_set ?_ GE322.out | refine below_set ?_ GE331.out) | exact HB.out)) hb); clear HO_323003; clear HO_332003; clear HO336; clear BK322; clear BK331; clear HB; have HO_323003 := n0_; have HO_332003 := n1_; have HO336 := n2_; have BK322 := n3_; have BK331 := n4_; have HB := n5_; clear n0_ n1_ n2_ n3_ n4_ n5_; (try clear hb); (try clear hb2); (try clear hk); (try clear hi)))
                  go_ret
                  exact ⟨by first | rfl | (simp [errW_none, errW_some] <;> rfl) | (simp [*, errW_none, errW_some] <;> rfl), by repeat (first | (with_reducible first | exact HB.out | apply below_alloc | apply pw_below_drewN | apply below_drew1 | refine below_set ?_ GE322.out | refine below_set ?_ GE331.out) | exact HB.out)⟩
              · rw [if_neg c28] at H
                have c28b0 : (t337 == 0) = false := beq_eq_false_iff_ne.mpr c28
                have c28b1 : (t337 != 0) = true := bne_iff_ne.mpr c28
                obtain rfl := Option.some.inj H
                have hnb43 := NB322_331.out
                have hnc43 := NB331_322.out
                have hcz44_0 : wc.cell? ⟨gb322, 0, none⟩ = some (.int .i64 t314) := (blk_cell BK322.out 0).trans rfl
                have hcz44_1 : wc.cell? ⟨gb322, 1, none⟩ = some (.int .i64 t315) := (blk_cell BK322.out 1).trans rfl
                have hcz44_2 : wc.cell? ⟨gb322, 2, none⟩ = some (.int .i64 t316) := (blk_cell BK322.out 2).trans rfl
                have hcz44_3 : wc.cell? ⟨gb322, 3, none⟩ = some (.slice Ao9 t317.length co9) := (blk_cell BK322.out 3).trans rfl
                have hfz44_0 := blk_frozen BK322.out 0
                have hfz44_1 := blk_frozen BK322.out 1
                have hfz44_2 := blk_frozen BK322.out 2
                have hfz44_3 := blk_frozen BK322.out 3
                go_wp2_with (first | ((with_reducible refine gate_callee (f := 20) rfl ?_); refine goesL_ (some 70) rfl rfl Try.func20 (by kernel_rfl) rfl #[.agg #[.int .i64 t314, .int .i64 t315, .int .i64 t316, .slice Ao9 t317.length co9]] rfl (by (try simp only [List.map_toArray, List.map_cons, List.map_nil]); first | done | rfl | (simp only [List.length_drop, List.length_take]; rfl)) ?_; (with_reducible refine (pes_Put.calls kj4 t314 t315 t316 (fun k_ => some k_ = (.slice Ao9 t317.length co9 : Value).ownBlock) _ _ t317 t334 t337 _ ?side1 A25.out).mono ?_); (case side1 => exact Kd.R_V (Kd.R_tight rfl (Kd.R_types (Kd.R_types (HO_323003.out) BK322.out (by decide)) BK331.out (by decide)))); rintro e w45 ⟨v335, rfl, ho0, hb⟩; refine ⟨_, rfl, ?_⟩; have n0_ := Aside0.mk (Kd.R_elder' (by (with_reducible repeat (first | apply Kd.R_alloc | apply Kd.R_drewN | apply Kd.R_drew)); exact HO_323003.out) (Kd.R_base ho0) hb); have n1_ := Aside0.mk (Kd.R_elder' (by (with_reducible repeat (first | apply Kd.R_alloc | apply Kd.R_drewN | apply Kd.R_drew)); exact HO_332003.out) (Kd.R_base ho0) hb); have n2_ := Aside0.mk (Kd.R_lower (Kd.R_new' (Kd.R_new' (Kd.R_mono (ok' := fun k_ => True) ho0 (fun _ hk_ => trivial)) (Kd.R_lt (by (with_reducible repeat (first | apply Kd.R_alloc | apply Kd.R_drewN | apply Kd.R_drew)); exact HO_323003.out))) (Kd.R_lt (by (with_reducible repeat (first | apply Kd.R_alloc | apply Kd.R_drewN | apply Kd.R_drew)); exact HO_332003.out))) (below_size (by repeat (first | (with_reducible first | exact HB.out | apply below_alloc | apply pw_below_drewN | apply below_drew1 | refine below_set ?_ GE322.out | refine below_set ?_ GE331.out) | exact HB.out)))); have n3_ := Aside0.mk (blk_below (g := gb322) (o := .cells #[.int .i64 t314, .int .i64 t315, .int .i64 t316, .slice Ao9 t317.length co9] 30 (0, 0)) (by (with_reducible repeat (first | refine blk_drewN ?_ _ | refine blk_drew ?_ | refine blk_alloc ?_ _)); exact BK322.out) hb); have n4_ := Aside0.mk (blk_below (g := gb331) (o := .cells #[.int .i64 t323, .int .i64 t324, .int .i64 t325, .slice Ao14 t326.length co14] 29 (0, 0)) (by (with_reducible repeat (first | refine blk_drewN ?_ _ | refine blk_drew ?_ | refine blk_alloc ?_ _)); exact BK331.out) hb); have n5_ := Aside0.mk (below_step (by repeat (first | (with_reducible first | exact HB.out | apply below_alloc | apply pw_below_drewN | apply below_drew1 | refine below_set ?_ GE322.out | refine below_set ?_ GE331.out) | exact HB.out)) hb); clear HO_323003; clear HO_332003; clear BK322; clear BK331; clear HB; have HO_323003 := n0_; have HO_332003 := n1_; have HO336 := n2_; have BK322 := n3_; have BK331 := n4_; have HB := n5_; clear n0_ n1_ n2_ n3_ n4_ n5_; (try clear hb); (try clear hb2); (try clear hk); (try clear hi); (try clear ho0)) | ((with_reducible refine gate_callee (f := 10) rfl ?_); refine goesL_ (some 73) rfl rfl Try.func10 (by kernel_rfl) rfl #[] rfl (by (try simp only [List.map_toArray, List.map_cons, List.map_nil]); first | done | rfl | (simp only [List.length_drop, List.length_take]; rfl)) ?_; (with_reducible refine (cutroomlaw16_awake.calls kj4  true _ A26.out).mono ?_); rintro e w46 ⟨rfl, hb⟩; refine ⟨_, rfl, ?_⟩; have n0_ := Aside0.mk (Kd.R_below (by (with_reducible repeat (first | apply Kd.R_alloc | apply Kd.R_drewN | apply Kd.R_drew)); exact HO_323003.out) hb); have n1_ := Aside0.mk (Kd.R_below (by (with_reducible repeat (first | apply Kd.R_alloc | apply Kd.R_drewN | apply Kd.R_drew)); exact HO_332003.out) hb); have n2_ := Aside0.mk (Kd.R_below (by (with_reducible repeat (first | apply Kd.R_alloc | apply Kd.R_drewN | apply Kd.R_drew)); exact HO336.out) hb); have n3_ := Aside0.mk (blk_below (g := gb322) (o := .cells #[.int .i64 t314, .int .i64 t315, .int .i64 t316, .slice Ao9 t317.length co9] 30 (0, 0)) (by (with_reducible repeat (first | refine blk_drewN ?_ _ | refine blk_drew ?_ | refine blk_alloc ?_ _)); exact BK322.out) hb); have n4_ := Aside0.mk (blk_below (g := gb331) (o := .cells #[.int .i64 t323, .int .i64 t324, .int .i64 t325, .slice Ao14 t326.length co14] 29 (0, 0)) (by (with_reducible repeat (first | refine blk_drewN ?_ _ | refine blk_drew ?_ | refine blk_alloc ?_ _)); exact BK331.out) hb); have n5_ := Aside0.mk (below_step (by repeat (first | (with_reducible first | exact HB.out | apply below_alloc | apply pw_below_drewN | apply below_drew1 | refine below_set ?_ GE322.out | refine below_set ?_ GE331.out) | exact HB.out)) hb); clear HO_323003; clear HO_332003; clear HO336; clear BK322; clear BK331; clear HB; have HO_323003 := n0_; have HO_332003 := n1_; have HO336 := n2_; have BK322 := n3_; have BK331 := n4_; have HB := n5_; clear n0_ n1_ n2_ n3_ n4_ n5_; (try clear hb); (try clear hb2); (try clear hk); (try clear hi)))
                go_ret
                exact ⟨by first | rfl | (simp [errW_none, errW_some] <;> rfl) | (simp [*, errW_none, errW_some] <;> rfl), by repeat (first | (with_reducible first | exact HB.out | apply below_alloc | apply pw_below_drewN | apply below_drew1 | refine below_set ?_ GE322.out | refine below_set ?_ GE331.out) | exact HB.out)⟩
            · replace c27 := Bool.eq_false_iff.mpr c27
              subst c27
              have H1 : (some false) = some r := by rw [if_neg (show ¬ (false = true) by decide)] at H; exact H
              clear H
              have H := H1
              clear H1
              obtain rfl := Option.some.inj H
              have hnb47 := NB322_331.out
              have hnc47 := NB331_322.out
              have hcz48_0 : wc.cell? ⟨gb322, 0, none⟩ = some (.int .i64 t314) := (blk_cell BK322.out 0).trans rfl
              have hcz48_1 : wc.cell? ⟨gb322, 1, none⟩ = some (.int .i64 t315) := (blk_cell BK322.out 1).trans rfl
              have hcz48_2 : wc.cell? ⟨gb322, 2, none⟩ = some (.int .i64 t316) := (blk_cell BK322.out 2).trans rfl
              have hcz48_3 : wc.cell? ⟨gb322, 3, none⟩ = some (.slice Ao9 t317.length co9) := (blk_cell BK322.out 3).trans rfl
              have hfz48_0 := blk_frozen BK322.out 0
              have hfz48_1 := blk_frozen BK322.out 1
              have hfz48_2 := blk_frozen BK322.out 2
              have hfz48_3 := blk_frozen BK322.out 3
              go_wp2_with (first | ((with_reducible refine gate_callee (f := 20) rfl ?_); refine goesL_ (some 70) rfl rfl Try.func20 (by kernel_rfl) rfl #[.agg #[.int .i64 t314, .int .i64 t315, .int .i64 t316, .slice Ao9 t317.length co9]] rfl (by (try simp only [List.map_toArray, List.map_cons, List.map_nil]); first | done | rfl | (simp only [List.length_drop, List.length_take]; rfl)) ?_; (with_reducible refine (pes_Put.calls kj4 t314 t315 t316 (fun k_ => some k_ = (.slice Ao9 t317.length co9 : Value).ownBlock) _ _ t317 t334 t337 _ ?side1 A25.out).mono ?_); (case side1 => exact Kd.R_V (Kd.R_tight rfl (Kd.R_types (Kd.R_types (HO_323003.out) BK322.out (by decide)) BK331.out (by decide)))); rintro e w49 ⟨v335, rfl, ho0, hb⟩; refine ⟨_, rfl, ?_⟩; have n0_ := Aside0.mk (Kd.R_elder' (by (with_reducible repeat (first | apply Kd.R_alloc | apply Kd.R_drewN | apply Kd.R_drew)); exact HO_323003.out) (Kd.R_base ho0) hb); have n1_ := Aside0.mk (Kd.R_elder' (by (with_reducible repeat (first | apply Kd.R_alloc | apply Kd.R_drewN | apply Kd.R_drew)); exact HO_332003.out) (Kd.R_base ho0) hb); have n2_ := Aside0.mk (Kd.R_lower (Kd.R_new' (Kd.R_new' (Kd.R_mono (ok' := fun k_ => True) ho0 (fun _ hk_ => trivial)) (Kd.R_lt (by (with_reducible repeat (first | apply Kd.R_alloc | apply Kd.R_drewN | apply Kd.R_drew)); exact HO_323003.out))) (Kd.R_lt (by (with_reducible repeat (first | apply Kd.R_alloc | apply Kd.R_drewN | apply Kd.R_drew)); exact HO_332003.out))) (below_size (by repeat (first | (with_reducible first | exact HB.out | apply below_alloc | apply pw_below_drewN | apply below_drew1 | refine below_set ?_ GE322.out | refine below_set ?_ GE331.out) | exact HB.out)))); have n3_ := Aside0.mk (blk_below (g := gb322) (o := .cells #[.int .i64 t314, .int .i64 t315, .int .i64 t316, .slice Ao9 t317.length co9] 30 (0, 0)) (by (with_reducible repeat (first | refine blk_drewN ?_ _ | refine blk_drew ?_ | refine blk_alloc ?_ _)); exact BK322.out) hb); have n4_ := Aside0.mk (blk_below (g := gb331) (o := .cells #[.int .i64 t323, .int .i64 t324, .int .i64 t325, .slice Ao14 t326.length co14] 29 (0, 0)) (by (with_reducible repeat (first | refine blk_drewN ?_ _ | refine blk_drew ?_ | refine blk_alloc ?_ _)); exact BK331.out) hb); have n5_ := Aside0.mk (below_step (by repeat (first | (with_reducible first | exact HB.out | apply below_alloc | apply pw_below_drewN | apply below_drew1 | refine below_set ?_ GE322.out | refine below_set ?_ GE331.out) | exact HB.out)) hb); clear HO_323003; clear HO_332003; clear BK322; clear BK331; clear HB; have HO_323003 := n0_; have HO_332003 := n1_; have HO336 := n2_; have BK322 := n3_; have BK331 := n4_; have HB := n5_; clear n0_ n1_ n2_ n3_ n4_ n5_; (try clear hb); (try clear hb2); (try clear hk); (try clear hi); (try clear ho0)) | ((with_reducible refine gate_callee (f := 10) rfl ?_); refine goesL_ (some 73) rfl rfl Try.func10 (by kernel_rfl) rfl #[] rfl (by (try simp only [List.map_toArray, List.map_cons, List.map_nil]); first | done | rfl | (simp only [List.length_drop, List.length_take]; rfl)) ?_; (with_reducible refine (cutroomlaw16_awake.calls kj4  false _ A26.out).mono ?_); rintro e w50 ⟨rfl, hb⟩; refine ⟨_, rfl, ?_⟩; have n0_ := Aside0.mk (Kd.R_below (by (with_reducible repeat (first | apply Kd.R_alloc | apply Kd.R_drewN | apply Kd.R_drew)); exact HO_323003.out) hb); have n1_ := Aside0.mk (Kd.R_below (by (with_reducible repeat (first | apply Kd.R_alloc | apply Kd.R_drewN | apply Kd.R_drew)); exact HO_332003.out) hb); have n2_ := Aside0.mk (Kd.R_below (by (with_reducible repeat (first | apply Kd.R_alloc | apply Kd.R_drewN | apply Kd.R_drew)); exact HO336.out) hb); have n3_ := Aside0.mk (blk_below (g := gb322) (o := .cells #[.int .i64 t314, .int .i64 t315, .int .i64 t316, .slice Ao9 t317.length co9] 30 (0, 0)) (by (with_reducible repeat (first | refine blk_drewN ?_ _ | refine blk_drew ?_ | refine blk_alloc ?_ _)); exact BK322.out) hb); have n4_ := Aside0.mk (blk_below (g := gb331) (o := .cells #[.int .i64 t323, .int .i64 t324, .int .i64 t325, .slice Ao14 t326.length co14] 29 (0, 0)) (by (with_reducible repeat (first | refine blk_drewN ?_ _ | refine blk_drew ?_ | refine blk_alloc ?_ _)); exact BK331.out) hb); have n5_ := Aside0.mk (below_step (by repeat (first | (with_reducible first | exact HB.out | apply below_alloc | apply pw_below_drewN | apply below_drew1 | refine below_set ?_ GE322.out | refine below_set ?_ GE331.out) | exact HB.out)) hb); clear HO_323003; clear HO_332003; clear HO336; clear BK322; clear BK331; clear HB; have HO_323003 := n0_; have HO_332003 := n1_; have HO336 := n2_; have BK322 := n3_; have BK331 := n4_; have HB := n5_; clear n0_ n1_ n2_ n3_ n4_ n5_; (try clear hb); (try clear hb2); (try clear hk); (try clear hi)))
              go_ret
              exact ⟨by first | rfl | (simp [errW_none, errW_some] <;> rfl) | (simp [*, errW_none, errW_some] <;> rfl), by repeat (first | (with_reducible first | exact HB.out | apply below_alloc | apply pw_below_drewN | apply below_drew1 | refine below_set ?_ GE322.out | refine below_set ?_ GE331.out) | exact HB.out)⟩
          · rw [if_neg c24] at H
            have c24b0 : (t321 == 0) = false := beq_eq_false_iff_ne.mpr c24
            have c24b1 : (t321 != 0) = true := bne_iff_ne.mpr c24
            replace H := Option.bind_eq_some_iff.mp H
            obtain ⟨t333, A510, H⟩ := H
            replace H : (if t333 = true then (if (t317.length : Int) = 0 then (if t314 = 0 then (if t315 = 0 then (some (t316 == 0)) else (some false)) else (some false)) else (some false)) else (some false)) = some r := H
            have A51 := Aside0.mk A510
            clear A510
            by_cases c52 : t333 = true
            · subst c52
              have H1 : (if (t317.length : Int) = 0 then (if t314 = 0 then (if t315 = 0 then (some (t316 == 0)) else (some false)) else (some false)) else (some false)) = some r := by rw [if_pos rfl] at H; exact H
              clear H
              have H := H1
              clear H1
              by_cases c53 : (t317.length : Int) = 0
              · rw [if_pos c53] at H
                have c53b0 : ((t317.length : Int) == 0) = true := beq_iff_eq.mpr c53
                have c53b1 : ((t317.length : Int) != 0) = false := bne_eq_false_iff_eq.mpr c53
                clear c53
                by_cases c54 : t314 = 0
                · rw [if_pos c54] at H
                  have c54b0 : (t314 == 0) = true := beq_iff_eq.mpr c54
                  have c54b1 : (t314 != 0) = false := bne_eq_false_iff_eq.mpr c54
                  clear c54
                  by_cases c55 : t315 = 0
                  · rw [if_pos c55] at H
                    have c55b0 : (t315 == 0) = true := beq_iff_eq.mpr c55
                    have c55b1 : (t315 != 0) = false := bne_eq_false_iff_eq.mpr c55
                    clear c55
                    obtain rfl := Option.some.inj H
                    go_wp2_with (first | ((with_reducible refine gate_callee (f := 10) rfl ?_); refine goesL_ (some 46) rfl rfl Try.func10 (by kernel_rfl) rfl #[] rfl (by (try simp only [List.map_toArray, List.map_cons, List.map_nil]); first | done | rfl | (simp only [List.length_drop, List.length_take]; rfl)) ?_; (with_reducible refine (cutroomlaw16_awake.calls kj4  true _ A51.out).mono ?_); rintro e w56 ⟨rfl, hb⟩; refine ⟨_, rfl, ?_⟩; have n0_ := Aside0.mk (Kd.R_below (by (with_reducible repeat (first | apply Kd.R_alloc | apply Kd.R_drewN | apply Kd.R_drew)); exact HO_323003.out) hb); have n1_ := Aside0.mk (Kd.R_below (by (with_reducible repeat (first | apply Kd.R_alloc | apply Kd.R_drewN | apply Kd.R_drew)); exact HO_332003.out) hb); have n2_ := Aside0.mk (blk_below (g := gb322) (o := .cells #[.int .i64 t314, .int .i64 t315, .int .i64 t316, .slice Ao9 t317.length co9] 30 (0, 0)) (by (with_reducible repeat (first | refine blk_drewN ?_ _ | refine blk_drew ?_ | refine blk_alloc ?_ _)); exact BK322.out) hb); have n3_ := Aside0.mk (blk_below (g := gb331) (o := .cells #[.int .i64 t323, .int .i64 t324, .int .i64 t325, .slice Ao14 t326.length co14] 29 (0, 0)) (by (with_reducible repeat (first | refine blk_drewN ?_ _ | refine blk_drew ?_ | refine blk_alloc ?_ _)); exact BK331.out) hb); have n4_ := Aside0.mk (below_step (by repeat (first | (with_reducible first | exact HB.out | apply below_alloc | apply pw_below_drewN | apply below_drew1 | refine below_set ?_ GE322.out | refine below_set ?_ GE331.out) | exact HB.out)) hb); clear HO_323003; clear HO_332003; clear BK322; clear BK331; clear HB; have HO_323003 := n0_; have HO_332003 := n1_; have BK322 := n2_; have BK331 := n3_; have HB := n4_; clear n0_ n1_ n2_ n3_ n4_; (try clear hb); (try clear hb2); (try clear hk); (try clear hi); have hnb57 := NB322_331.out; have hnc57 := NB331_322.out; have hcz58_0 : w56.cell? ⟨gb322, 0, none⟩ = some (.int .i64 t314) := (blk_cell BK322.out 0).trans rfl; have hcz58_1 : w56.cell? ⟨gb322, 1, none⟩ = some (.int .i64 t315) := (blk_cell BK322.out 1).trans rfl; have hcz58_2 : w56.cell? ⟨gb322, 2, none⟩ = some (.int .i64 t316) := (blk_cell BK322.out 2).trans rfl; have hcz58_3 : w56.cell? ⟨gb322, 3, none⟩ = some (.slice Ao9 t317.length co9) := (blk_cell BK322.out 3).trans rfl; have hfz58_0 := blk_frozen BK322.out 0; have hfz58_1 := blk_frozen BK322.out 1; have hfz58_2 := blk_frozen BK322.out 2; have hfz58_3 := blk_frozen BK322.out 3))
                    go_ret
                    exact ⟨by first | rfl | (simp [errW_none, errW_some] <;> rfl) | (simp [*, errW_none, errW_some] <;> rfl), by repeat (first | (with_reducible first | exact HB.out | apply below_alloc | apply pw_below_drewN | apply below_drew1 | refine below_set ?_ GE322.out | refine below_set ?_ GE331.out) | exact HB.out)⟩
                  · rw [if_neg c55] at H
                    have c55b0 : (t315 == 0) = false := beq_eq_false_iff_ne.mpr c55
                    have c55b1 : (t315 != 0) = true := bne_iff_ne.mpr c55
                    obtain rfl := Option.some.inj H
                    go_wp2_with (first | ((with_reducible refine gate_callee (f := 10) rfl ?_); refine goesL_ (some 46) rfl rfl Try.func10 (by kernel_rfl) rfl #[] rfl (by (try simp only [List.map_toArray, List.map_cons, List.map_nil]); first | done | rfl | (simp only [List.length_drop, List.length_take]; rfl)) ?_; (with_reducible refine (cutroomlaw16_awake.calls kj4  true _ A51.out).mono ?_); rintro e w59 ⟨rfl, hb⟩; refine ⟨_, rfl, ?_⟩; have n0_ := Aside0.mk (Kd.R_below (by (with_reducible repeat (first | apply Kd.R_alloc | apply Kd.R_drewN | apply Kd.R_drew)); exact HO_323003.out) hb); have n1_ := Aside0.mk (Kd.R_below (by (with_reducible repeat (first | apply Kd.R_alloc | apply Kd.R_drewN | apply Kd.R_drew)); exact HO_332003.out) hb); have n2_ := Aside0.mk (blk_below (g := gb322) (o := .cells #[.int .i64 t314, .int .i64 t315, .int .i64 t316, .slice Ao9 t317.length co9] 30 (0, 0)) (by (with_reducible repeat (first | refine blk_drewN ?_ _ | refine blk_drew ?_ | refine blk_alloc ?_ _)); exact BK322.out) hb); have n3_ := Aside0.mk (blk_below (g := gb331) (o := .cells #[.int .i64 t323, .int .i64 t324, .int .i64 t325, .slice Ao14 t326.length co14] 29 (0, 0)) (by (with_reducible repeat (first | refine blk_drewN ?_ _ | refine blk_drew ?_ | refine blk_alloc ?_ _)); exact BK331.out) hb); have n4_ := Aside0.mk (below_step (by repeat (first | (with_reducible first | exact HB.out | apply below_alloc | apply pw_below_drewN | apply below_drew1 | refine below_set ?_ GE322.out | refine below_set ?_ GE331.out) | exact HB.out)) hb); clear HO_323003; clear HO_332003; clear BK322; clear BK331; clear HB; have HO_323003 := n0_; have HO_332003 := n1_; have BK322 := n2_; have BK331 := n3_; have HB := n4_; clear n0_ n1_ n2_ n3_ n4_; (try clear hb); (try clear hb2); (try clear hk); (try clear hi); have hnb60 := NB322_331.out; have hnc60 := NB331_322.out; have hcz61_0 : w59.cell? ⟨gb322, 0, none⟩ = some (.int .i64 t314) := (blk_cell BK322.out 0).trans rfl; have hcz61_1 : w59.cell? ⟨gb322, 1, none⟩ = some (.int .i64 t315) := (blk_cell BK322.out 1).trans rfl; have hcz61_2 : w59.cell? ⟨gb322, 2, none⟩ = some (.int .i64 t316) := (blk_cell BK322.out 2).trans rfl; have hcz61_3 : w59.cell? ⟨gb322, 3, none⟩ = some (.slice Ao9 t317.length co9) := (blk_cell BK322.out 3).trans rfl; have hfz61_0 := blk_frozen BK322.out 0; have hfz61_1 := blk_frozen BK322.out 1; have hfz61_2 := blk_frozen BK322.out 2; have hfz61_3 := blk_frozen BK322.out 3))
                    go_ret
                    exact ⟨by first | rfl | (simp [errW_none, errW_some] <;> rfl) | (simp [*, errW_none, errW_some] <;> rfl), by repeat (first | (with_reducible first | exact HB.out | apply below_alloc | apply pw_below_drewN | apply below_drew1 | refine below_set ?_ GE322.out | refine below_set ?_ GE331.out) | exact HB.out)⟩
                · rw [if_neg c54] at H
                  have c54b0 : (t314 == 0) = false := beq_eq_false_iff_ne.mpr c54
                  have c54b1 : (t314 != 0) = true := bne_iff_ne.mpr c54
                  obtain rfl := Option.some.inj H
                  go_wp2_with (first | ((with_reducible refine gate_callee (f := 10) rfl ?_); refine goesL_ (some 46) rfl rfl Try.func10 (by kernel_rfl) rfl #[] rfl (by (try simp only [List.map_toArray, List.map_cons, List.map_nil]); first | done | rfl | (simp only [List.length_drop, List.length_take]; rfl)) ?_; (with_reducible refine (cutroomlaw16_awake.calls kj4  true _ A51.out).mono ?_); rintro e w62 ⟨rfl, hb⟩; refine ⟨_, rfl, ?_⟩; have n0_ := Aside0.mk (Kd.R_below (by (with_reducible repeat (first | apply Kd.R_alloc | apply Kd.R_drewN | apply Kd.R_drew)); exact HO_323003.out) hb); have n1_ := Aside0.mk (Kd.R_below (by (with_reducible repeat (first | apply Kd.R_alloc | apply Kd.R_drewN | apply Kd.R_drew)); exact HO_332003.out) hb); have n2_ := Aside0.mk (blk_below (g := gb322) (o := .cells #[.int .i64 t314, .int .i64 t315, .int .i64 t316, .slice Ao9 t317.length co9] 30 (0, 0)) (by (with_reducible repeat (first | refine blk_drewN ?_ _ | refine blk_drew ?_ | refine blk_alloc ?_ _)); exact BK322.out) hb); have n3_ := Aside0.mk (blk_below (g := gb331) (o := .cells #[.int .i64 t323, .int .i64 t324, .int .i64 t325, .slice Ao14 t326.length co14] 29 (0, 0)) (by (with_reducible repeat (first | refine blk_drewN ?_ _ | refine blk_drew ?_ | refine blk_alloc ?_ _)); exact BK331.out) hb); have n4_ := Aside0.mk (below_step (by repeat (first | (with_reducible first | exact HB.out | apply below_alloc | apply pw_below_drewN | apply below_drew1 | refine below_set ?_ GE322.out | refine below_set ?_ GE331.out) | exact HB.out)) hb); clear HO_323003; clear HO_332003; clear BK322; clear BK331; clear HB; have HO_323003 := n0_; have HO_332003 := n1_; have BK322 := n2_; have BK331 := n3_; have HB := n4_; clear n0_ n1_ n2_ n3_ n4_; (try clear hb); (try clear hb2); (try clear hk); (try clear hi); have hnb63 := NB322_331.out; have hnc63 := NB331_322.out; have hcz64_0 : w62.cell? ⟨gb322, 0, none⟩ = some (.int .i64 t314) := (blk_cell BK322.out 0).trans rfl; have hcz64_1 : w62.cell? ⟨gb322, 1, none⟩ = some (.int .i64 t315) := (blk_cell BK322.out 1).trans rfl; have hcz64_2 : w62.cell? ⟨gb322, 2, none⟩ = some (.int .i64 t316) := (blk_cell BK322.out 2).trans rfl; have hcz64_3 : w62.cell? ⟨gb322, 3, none⟩ = some (.slice Ao9 t317.length co9) := (blk_cell BK322.out 3).trans rfl; have hfz64_0 := blk_frozen BK322.out 0; have hfz64_1 := blk_frozen BK322.out 1; have hfz64_2 := blk_frozen BK322.out 2; have hfz64_3 := blk_frozen BK322.out 3))
                  go_ret
                  exact ⟨by first | rfl | (simp [errW_none, errW_some] <;> rfl) | (simp [*, errW_none, errW_some] <;> rfl), by repeat (first | (with_reducible first | exact HB.out | apply below_alloc | apply pw_below_drewN | apply below_drew1 | refine below_set ?_ GE322.out | refine below_set ?_ GE331.out) | exact HB.out)⟩
              · rw [if_neg c53] at H
                have c53b0 : ((t317.length : Int) == 0) = false := beq_eq_false_iff_ne.mpr c53
                have c53b1 : ((t317.length : Int) != 0) = true := bne_iff_ne.mpr c53
                have c53b2 : ¬ (t317 = []) := fun h_ => c53 (by rw [h_]; rfl)
                obtain rfl := Option.some.inj H
                go_wp2_with (first | ((with_reducible refine gate_callee (f := 10) rfl ?_); refine goesL_ (some 46) rfl rfl Try.func10 (by kernel_rfl) rfl #[] rfl (by (try simp only [List.map_toArray, List.map_cons, List.map_nil]); first | done | rfl | (simp only [List.length_drop, List.length_take]; rfl)) ?_; (with_reducible refine (cutroomlaw16_awake.calls kj4  true _ A51.out).mono ?_); rintro e w65 ⟨rfl, hb⟩; refine ⟨_, rfl, ?_⟩; have n0_ := Aside0.mk (Kd.R_below (by (with_reducible repeat (first | apply Kd.R_alloc | apply Kd.R_drewN | apply Kd.R_drew)); exact HO_323003.out) hb); have n1_ := Aside0.mk (Kd.R_below (by (with_reducible repeat (first | apply Kd.R_alloc | apply Kd.R_drewN | apply Kd.R_drew)); exact HO_332003.out) hb); have n2_ := Aside0.mk (blk_below (g := gb322) (o := .cells #[.int .i64 t314, .int .i64 t315, .int .i64 t316, .slice Ao9 t317.length co9] 30 (0, 0)) (by (with_reducible repeat (first | refine blk_drewN ?_ _ | refine blk_drew ?_ | refine blk_alloc ?_ _)); exact BK322.out) hb); have n3_ := Aside0.mk (blk_below (g := gb331) (o := .cells #[.int .i64 t323, .int .i64 t324, .int .i64 t325, .slice Ao14 t326.length co14] 29 (0, 0)) (by (with_reducible repeat (first | refine blk_drewN ?_ _ | refine blk_drew ?_ | refine blk_alloc ?_ _)); exact BK331.out) hb); have n4_ := Aside0.mk (below_step (by repeat (first | (with_reducible first | exact HB.out | apply below_alloc | apply pw_below_drewN | apply below_drew1 | refine below_set ?_ GE322.out | refine below_set ?_ GE331.out) | exact HB.out)) hb); clear HO_323003; clear HO_332003; clear BK322; clear BK331; clear HB; have HO_323003 := n0_; have HO_332003 := n1_; have BK322 := n2_; have BK331 := n3_; have HB := n4_; clear n0_ n1_ n2_ n3_ n4_; (try clear hb); (try clear hb2); (try clear hk); (try clear hi); have hnb66 := NB322_331.out; have hnc66 := NB331_322.out; have hcz67_0 : w65.cell? ⟨gb322, 0, none⟩ = some (.int .i64 t314) := (blk_cell BK322.out 0).trans rfl; have hcz67_1 : w65.cell? ⟨gb322, 1, none⟩ = some (.int .i64 t315) := (blk_cell BK322.out 1).trans rfl; have hcz67_2 : w65.cell? ⟨gb322, 2, none⟩ = some (.int .i64 t316) := (blk_cell BK322.out 2).trans rfl; have hcz67_3 : w65.cell? ⟨gb322, 3, none⟩ = some (.slice Ao9 t317.length co9) := (blk_cell BK322.out 3).trans rfl; have hfz67_0 := blk_frozen BK322.out 0; have hfz67_1 := blk_frozen BK322.out 1; have hfz67_2 := blk_frozen BK322.out 2; have hfz67_3 := blk_frozen BK322.out 3))
                go_ret
                exact ⟨by first | rfl | (simp [errW_none, errW_some] <;> rfl) | (simp [*, errW_none, errW_some] <;> rfl), by repeat (first | (with_reducible first | exact HB.out | apply below_alloc | apply pw_below_drewN | apply below_drew1 | refine below_set ?_ GE322.out | refine below_set ?_ GE331.out) | exact HB.out)⟩
            · replace c52 := Bool.eq_false_iff.mpr c52
              subst c52
              have H1 : (some false) = some r := by rw [if_neg (show ¬ (false = true) by decide)] at H; exact H
              clear H
              have H := H1
              clear H1
              obtain rfl := Option.some.inj H
              go_wp2_with (first | ((with_reducible refine gate_callee (f := 10) rfl ?_); refine goesL_ (some 46) rfl rfl Try.func10 (by kernel_rfl) rfl #[] rfl (by (try simp only [List.map_toArray, List.map_cons, List.map_nil]); first | done | rfl | (simp only [List.length_drop, List.length_take]; rfl)) ?_; (with_reducible refine (cutroomlaw16_awake.calls kj4  false _ A51.out).mono ?_); rintro e w68 ⟨rfl, hb⟩; refine ⟨_, rfl, ?_⟩; have n0_ := Aside0.mk (Kd.R_below (by (with_reducible repeat (first | apply Kd.R_alloc | apply Kd.R_drewN | apply Kd.R_drew)); exact HO_323003.out) hb); have n1_ := Aside0.mk (Kd.R_below (by (with_reducible repeat (first | apply Kd.R_alloc | apply Kd.R_drewN | apply Kd.R_drew)); exact HO_332003.out) hb); have n2_ := Aside0.mk (blk_below (g := gb322) (o := .cells #[.int .i64 t314, .int .i64 t315, .int .i64 t316, .slice Ao9 t317.length co9] 30 (0, 0)) (by (with_reducible repeat (first | refine blk_drewN ?_ _ | refine blk_drew ?_ | refine blk_alloc ?_ _)); exact BK322.out) hb); have n3_ := Aside0.mk (blk_below (g := gb331) (o := .cells #[.int .i64 t323, .int .i64 t324, .int .i64 t325, .slice Ao14 t326.length co14] 29 (0, 0)) (by (with_reducible repeat (first | refine blk_drewN ?_ _ | refine blk_drew ?_ | refine blk_alloc ?_ _)); exact BK331.out) hb); have n4_ := Aside0.mk (below_step (by repeat (first | (with_reducible first | exact HB.out | apply below_alloc | apply pw_below_drewN | apply below_drew1 | refine below_set ?_ GE322.out | refine below_set ?_ GE331.out) | exact HB.out)) hb); clear HO_323003; clear HO_332003; clear BK322; clear BK331; clear HB; have HO_323003 := n0_; have HO_332003 := n1_; have BK322 := n2_; have BK331 := n3_; have HB := n4_; clear n0_ n1_ n2_ n3_ n4_; (try clear hb); (try clear hb2); (try clear hk); (try clear hi)))
              go_ret
              exact ⟨by first | rfl | (simp [errW_none, errW_some] <;> rfl) | (simp [*, errW_none, errW_some] <;> rfl), by repeat (first | (with_reducible first | exact HB.out | apply below_alloc | apply pw_below_drewN | apply below_drew1 | refine below_set ?_ GE322.out | refine below_set ?_ GE331.out) | exact HB.out)⟩

/-- THE ONE PURE STATEMENT of cutroomlaw16_PesTakes: yours. -/
def cutroomlaw16_PesTakes.Pure : Prop := ∀ (l0 : List Int), l0.length ≤ maxLen → l0.length * 1 ≤ 140737488351232 → (∀ x ∈ l0, (Lit.int .u8 x).wf = true) → ∃ k, cutroomlaw16_PesTakes.f k l0 = some true
theorem cutroomlaw16_PesTakes.walk (P : cutroomlaw16_PesTakes.Pure) (a0 : Option Addr) (len0 cap0 : Nat) (z0 : List Int) (w : World) (w0 : (a0 = none ∧ len0 = 0 ∧ cap0 = 0 ∧ z0 = []) ∨ ∃ x, a0 = some x ∧ len0 ≤ cap0 ∧ cap0 ≤ maxLen ∧ z0.length = cap0 ∧ (∀ i, i < z0.length → w.cell? (x.add i) = some (.int .u8 (z0.getD i 0))) ∧ ∀ n ∈ z0, (Lit.int .u8 n).wf = true) (y0 : len0 * 1 ≤ 140737488351232) :
    Calls Try.prog 7 #[.slice a0 len0 cap0] w fun e w' => e = .returned (.bool true) ∧ Below w.heap.size w w' := by
  obtain ⟨l0, rfl, hr0, hm0, hw0, hc0⟩ := ReadsInt.ofRowC w0
  obtain ⟨k, h⟩ := P l0 hm0 y0 hw0
  refine (cutroomlaw16_PesTakes.calls k _ _ l0 true w (Kd.C_of_reads (d := (0 : Int)) (h1 := fun _ => rfl) hr0) hc0 h).mono ?_
  rintro e w' ⟨rfl, hd⟩
  exact ⟨rfl, hd⟩

end Go.Proofs.Ytdkibpdgnocgaaa.PPesTakes
