-- Written for this claim by a turned copy of the kit's print (wip/printx/mk.py). By an AI agent.
import Derived.Test.YtdkibpdgnocgaaaPPesLongx0
import Derived.Test.YtdkibpdgnocgaaaPPesLongx4
namespace Go.Proofs.Ytdkibpdgnocgaaa.PPesLong
open Go.RowKit Go.Proofs.YtdkibpdgnocgaaaW.PrintWords Go.Proofs.YtdkibpdgnocgaaaW.PrintLast Go.Proofs.YtdkibpdgnocgaaaW.PrintMore
attribute [local go_sem] max2_int min2_int max_two min_two max_three min_three max_four min_four   -- for this text's walks alone
set_option linter.unusedVariables false
set_option linter.unusedSimpArgs false

/-! ### cutroomref01_Position: function 27 -/
mutual
def cutroomref01_Position.j0 : Nat → Int → Bool → Int → Int → Int → Int → Option (Int × Int)
  | 0, _, _, _, _, _, _ => none
  | k + 1, x0, x22, x202000, x202001, x203000, x203001 => if x22 = true then (some (0, 1)) else ((cutroomref01_mag.f x0).bind fun t205 => ((cutroomref01_times.f t205 (IntKind.u64.wrap ((IntKind.u64.wrap (x203000)) * (IntKind.u64.wrap (x202001))))).bind fun bt206 => ((cutroomref01_plus.f bt206.1 bt206.2 bt206.1 bt206.2).bind fun bt209 => (if x0 < 0 then ((cutroomref01_less.f 0 (IntKind.u64.wrap ((IntKind.u64.wrap (x203001)) * (IntKind.u64.wrap (x202000)))) bt209.1 bt209.2).bind fun t211 => (cutroomref01_Position.j1 k x0 (IntKind.u64.wrap ((IntKind.u64.wrap (x203001)) * (IntKind.u64.wrap (x202000)))) (!t211) bt209.1 bt209.2)) else (cutroomref01_Position.j1 k x0 (IntKind.u64.wrap ((IntKind.u64.wrap (x203001)) * (IntKind.u64.wrap (x202000)))) false bt209.1 bt209.2)))))
def cutroomref01_Position.j1 : Nat → Int → Int → Bool → Int → Int → Option (Int × Int)
  | 0, _, _, _, _, _ => none
  | k + 1, x0, x8, x51, x209000, x209001 => if x51 = true then (some (0, 0)) else (if x0 < 0 then ((cutroomref01_minus.f x209000 x209001 0 x8).bind fun bt212 => (cutroomref01_Position.j2 k x8 true bt212.1 bt212.2)) else ((cutroomref01_plus.f x209000 x209001 0 x8).bind fun bt214 => (cutroomref01_Position.j2 k x8 false bt214.1 bt214.2)))
def cutroomref01_Position.j2 : Nat → Int → Bool → Int → Int → Option (Int × Int)
  | 0, _, _, _, _ => none
  | k + 1, x8, x10, x209000, x209001 => (cutroomref01_over.f k x209000 x209001 (IntKind.u64.wrap (2 * x8))).bind fun bt216 => (if bt216.2.2 = true then (cutroomref01_Position.j3 k x10 bt216.1 bt216.2.1 (decide (bt216.1 > 9223372036854775808))) else (cutroomref01_Position.j3 k x10 bt216.1 bt216.2.1 true))
def cutroomref01_Position.j3 : Nat → Bool → Int → Int → Bool → Option (Int × Int)
  | 0, _, _, _, _ => none
  | k + 1, x10, x11, x12, x76 => if x76 = true then (some (0, 2)) else (if x10 = true then (cutroomref01_Position.j4 k x10 x11 (decide (x12 > 0))) else (cutroomref01_Position.j4 k x10 x11 false))
def cutroomref01_Position.j4 : Nat → Bool → Int → Bool → Option (Int × Int)
  | 0, _, _, _ => none
  | k + 1, x10, x11, x81 => if x81 = true then (cutroomref01_Position.j5 k x10 (IntKind.u64.wrap (x11 + 1))) else (cutroomref01_Position.j5 k x10 x11)
def cutroomref01_Position.j5 : Nat → Bool → Int → Option (Int × Int)
  | 0, _, _ => none
  | k + 1, x10, x11 => (cutroomref01_signed.f x10 x11).bind fun bt219 => (if bt219.2 = true then (some (bt219.1, 0)) else (some (0, 2)))
end
def cutroomref01_Position.f (k : Nat) (a0 : Int) (a1_0 : Int) (a1_1 : Int) (a2_0 : Int) (a2_1 : Int) : Option (Int × Int) := (cutroomref01_scale.f k a1_0 a1_1).bind fun t203 => (if t203 = true then ((cutroomref01_scale.f k a2_0 a2_1).bind fun t204 => (cutroomref01_Position.j0 k a0 (!t204) a1_0 a1_1 a2_0 a2_1)) else (cutroomref01_Position.j0 k a0 true a1_0 a1_1 a2_0 a2_1))
theorem cutroomref01_Position.mono_l : ∀ k, (∀ y0 y1 y2 y3 y4 y5, LeO (cutroomref01_Position.j0 k y0 y1 y2 y3 y4 y5) (cutroomref01_Position.j0 (k + 1) y0 y1 y2 y3 y4 y5)) ∧ (∀ y0 y1 y2 y3 y4, LeO (cutroomref01_Position.j1 k y0 y1 y2 y3 y4) (cutroomref01_Position.j1 (k + 1) y0 y1 y2 y3 y4)) ∧ (∀ y0 y1 y2 y3, LeO (cutroomref01_Position.j2 k y0 y1 y2 y3) (cutroomref01_Position.j2 (k + 1) y0 y1 y2 y3)) ∧ (∀ y0 y1 y2 y3, LeO (cutroomref01_Position.j3 k y0 y1 y2 y3) (cutroomref01_Position.j3 (k + 1) y0 y1 y2 y3)) ∧ (∀ y0 y1 y2, LeO (cutroomref01_Position.j4 k y0 y1 y2) (cutroomref01_Position.j4 (k + 1) y0 y1 y2)) ∧ (∀ y0 y1, LeO (cutroomref01_Position.j5 k y0 y1) (cutroomref01_Position.j5 (k + 1) y0 y1))
  | 0 => ⟨fun _ _ _ _ _ _ r h => by simp [cutroomref01_Position.j0] at h, fun _ _ _ _ _ r h => by simp [cutroomref01_Position.j1] at h, fun _ _ _ _ r h => by simp [cutroomref01_Position.j2] at h, fun _ _ _ _ r h => by simp [cutroomref01_Position.j3] at h, fun _ _ _ r h => by simp [cutroomref01_Position.j4] at h, fun _ _ r h => by simp [cutroomref01_Position.j5] at h⟩
  | k + 1 => by
    obtain ⟨ih0, ih1, ih2, ih3, ih4, ih5⟩ := cutroomref01_Position.mono_l k
    refine ⟨?_, ?_, ?_, ?_, ?_, ?_⟩
    · intro y0 y1 y2 y3 y4 y5
      unfold cutroomref01_Position.j0
      repeat' first
      | (with_reducible exact ih0 _ _ _ _ _ _)
      | (with_reducible exact ih1 _ _ _ _ _)
      | (with_reducible exact ih2 _ _ _ _)
      | (with_reducible exact ih3 _ _ _ _)
      | (with_reducible exact ih4 _ _ _)
      | (with_reducible exact ih5 _ _)
      | (with_reducible exact cutroomref01_over.mono _ _ _ _)
      | (with_reducible exact cutroomref01_scale.mono _ _ _)
      | (with_reducible exact LeO.refl _)
      | (with_reducible exact LeO.none _)
      | (with_reducible refine LeO.ite ?_ ?_)
      | (with_reducible refine LeO.bind ?_ (fun _ => ?_))
      | exact ih0 _ _ _ _ _ _
      | exact ih1 _ _ _ _ _
      | exact ih2 _ _ _ _
      | exact ih3 _ _ _ _
      | exact ih4 _ _ _
      | exact ih5 _ _
      | exact cutroomref01_over.mono _ _ _ _
      | exact cutroomref01_scale.mono _ _ _
      | exact LeO.none _
      | refine LeO.ite ?_ ?_
      | refine LeO.bind ?_ (fun _ => ?_)
    · intro y0 y1 y2 y3 y4
      unfold cutroomref01_Position.j1
      repeat' first
      | (with_reducible exact ih0 _ _ _ _ _ _)
      | (with_reducible exact ih1 _ _ _ _ _)
      | (with_reducible exact ih2 _ _ _ _)
      | (with_reducible exact ih3 _ _ _ _)
      | (with_reducible exact ih4 _ _ _)
      | (with_reducible exact ih5 _ _)
      | (with_reducible exact cutroomref01_over.mono _ _ _ _)
      | (with_reducible exact cutroomref01_scale.mono _ _ _)
      | (with_reducible exact LeO.refl _)
      | (with_reducible exact LeO.none _)
      | (with_reducible refine LeO.ite ?_ ?_)
      | (with_reducible refine LeO.bind ?_ (fun _ => ?_))
      | exact ih0 _ _ _ _ _ _
      | exact ih1 _ _ _ _ _
      | exact ih2 _ _ _ _
      | exact ih3 _ _ _ _
      | exact ih4 _ _ _
      | exact ih5 _ _
      | exact cutroomref01_over.mono _ _ _ _
      | exact cutroomref01_scale.mono _ _ _
      | exact LeO.none _
      | refine LeO.ite ?_ ?_
      | refine LeO.bind ?_ (fun _ => ?_)
    · intro y0 y1 y2 y3
      unfold cutroomref01_Position.j2
      repeat' first
      | (with_reducible exact ih0 _ _ _ _ _ _)
      | (with_reducible exact ih1 _ _ _ _ _)
      | (with_reducible exact ih2 _ _ _ _)
      | (with_reducible exact ih3 _ _ _ _)
      | (with_reducible exact ih4 _ _ _)
      | (with_reducible exact ih5 _ _)
      | (with_reducible exact cutroomref01_over.mono _ _ _ _)
      | (with_reducible exact cutroomref01_scale.mono _ _ _)
      | (with_reducible exact LeO.refl _)
      | (with_reducible exact LeO.none _)
      | (with_reducible refine LeO.ite ?_ ?_)
      | (with_reducible refine LeO.bind ?_ (fun _ => ?_))
      | exact ih0 _ _ _ _ _ _
      | exact ih1 _ _ _ _ _
      | exact ih2 _ _ _ _
      | exact ih3 _ _ _ _
      | exact ih4 _ _ _
      | exact ih5 _ _
      | exact cutroomref01_over.mono _ _ _ _
      | exact cutroomref01_scale.mono _ _ _
      | exact LeO.none _
      | refine LeO.ite ?_ ?_
      | refine LeO.bind ?_ (fun _ => ?_)
    · intro y0 y1 y2 y3
      unfold cutroomref01_Position.j3
      repeat' first
      | (with_reducible exact ih0 _ _ _ _ _ _)
      | (with_reducible exact ih1 _ _ _ _ _)
      | (with_reducible exact ih2 _ _ _ _)
      | (with_reducible exact ih3 _ _ _ _)
      | (with_reducible exact ih4 _ _ _)
      | (with_reducible exact ih5 _ _)
      | (with_reducible exact cutroomref01_over.mono _ _ _ _)
      | (with_reducible exact cutroomref01_scale.mono _ _ _)
      | (with_reducible exact LeO.refl _)
      | (with_reducible exact LeO.none _)
      | (with_reducible refine LeO.ite ?_ ?_)
      | (with_reducible refine LeO.bind ?_ (fun _ => ?_))
      | exact ih0 _ _ _ _ _ _
      | exact ih1 _ _ _ _ _
      | exact ih2 _ _ _ _
      | exact ih3 _ _ _ _
      | exact ih4 _ _ _
      | exact ih5 _ _
      | exact cutroomref01_over.mono _ _ _ _
      | exact cutroomref01_scale.mono _ _ _
      | exact LeO.none _
      | refine LeO.ite ?_ ?_
      | refine LeO.bind ?_ (fun _ => ?_)
    · intro y0 y1 y2
      unfold cutroomref01_Position.j4
      repeat' first
      | (with_reducible exact ih0 _ _ _ _ _ _)
      | (with_reducible exact ih1 _ _ _ _ _)
      | (with_reducible exact ih2 _ _ _ _)
      | (with_reducible exact ih3 _ _ _ _)
      | (with_reducible exact ih4 _ _ _)
      | (with_reducible exact ih5 _ _)
      | (with_reducible exact cutroomref01_over.mono _ _ _ _)
      | (with_reducible exact cutroomref01_scale.mono _ _ _)
      | (with_reducible exact LeO.refl _)
      | (with_reducible exact LeO.none _)
      | (with_reducible refine LeO.ite ?_ ?_)
      | (with_reducible refine LeO.bind ?_ (fun _ => ?_))
      | exact ih0 _ _ _ _ _ _
      | exact ih1 _ _ _ _ _
      | exact ih2 _ _ _ _
      | exact ih3 _ _ _ _
      | exact ih4 _ _ _
      | exact ih5 _ _
      | exact cutroomref01_over.mono _ _ _ _
      | exact cutroomref01_scale.mono _ _ _
      | exact LeO.none _
      | refine LeO.ite ?_ ?_
      | refine LeO.bind ?_ (fun _ => ?_)
    · intro y0 y1
      unfold cutroomref01_Position.j5
      repeat' first
      | (with_reducible exact ih0 _ _ _ _ _ _)
      | (with_reducible exact ih1 _ _ _ _ _)
      | (with_reducible exact ih2 _ _ _ _)
      | (with_reducible exact ih3 _ _ _ _)
      | (with_reducible exact ih4 _ _ _)
      | (with_reducible exact ih5 _ _)
      | (with_reducible exact cutroomref01_over.mono _ _ _ _)
      | (with_reducible exact cutroomref01_scale.mono _ _ _)
      | (with_reducible exact LeO.refl _)
      | (with_reducible exact LeO.none _)
      | (with_reducible refine LeO.ite ?_ ?_)
      | (with_reducible refine LeO.bind ?_ (fun _ => ?_))
      | exact ih0 _ _ _ _ _ _
      | exact ih1 _ _ _ _ _
      | exact ih2 _ _ _ _
      | exact ih3 _ _ _ _
      | exact ih4 _ _ _
      | exact ih5 _ _
      | exact cutroomref01_over.mono _ _ _ _
      | exact cutroomref01_scale.mono _ _ _
      | exact LeO.none _
      | refine LeO.ite ?_ ?_
      | refine LeO.bind ?_ (fun _ => ?_)
theorem cutroomref01_Position.mono : ∀ a0 a1 a2 a3 a4 k, LeO (cutroomref01_Position.f k a0 a1 a2 a3 a4) (cutroomref01_Position.f (k + 1) a0 a1 a2 a3 a4) := by
  intro a0 a1 a2 a3 a4 k
  obtain ⟨ih0, ih1, ih2, ih3, ih4, ih5⟩ := cutroomref01_Position.mono_l k
  unfold cutroomref01_Position.f
  repeat' first
      | (with_reducible exact ih0 _ _ _ _ _ _)
      | (with_reducible exact ih1 _ _ _ _ _)
      | (with_reducible exact ih2 _ _ _ _)
      | (with_reducible exact ih3 _ _ _ _)
      | (with_reducible exact ih4 _ _ _)
      | (with_reducible exact ih5 _ _)
      | (with_reducible exact cutroomref01_over.mono _ _ _ _)
      | (with_reducible exact cutroomref01_scale.mono _ _ _)
      | (with_reducible exact LeO.refl _)
      | (with_reducible exact LeO.none _)
      | (with_reducible refine LeO.ite ?_ ?_)
      | (with_reducible refine LeO.bind ?_ (fun _ => ?_))
      | exact ih0 _ _ _ _ _ _
      | exact ih1 _ _ _ _ _
      | exact ih2 _ _ _ _
      | exact ih3 _ _ _ _
      | exact ih4 _ _ _
      | exact ih5 _ _
      | exact cutroomref01_over.mono _ _ _ _
      | exact cutroomref01_scale.mono _ _ _
      | exact LeO.none _
      | refine LeO.ite ?_ ?_
      | refine LeO.bind ?_ (fun _ => ?_)
def cutroomref01_Position.T4 : Bool × List (List Nat × List Nat) := (true, [([], []), ([0], [0]), ([], []), ([2], [2]), ([3], [3]), ([], []), ([5], [5]), ([6], [6]), ([4, 7], [4, 7]), ([1, 8, 1], [1, 8]), ([], []), ([10, 9, 9, 0, 1, 2, 3, 4, 5, 6, 7, 8, 9, 10], [9, 10])])
def cutroomref01_Position.B4 : List Nat := [0, 1, 0, 4, 12, 0, 32, 96, 252, 511, 0, 2047]
theorem cutroomref01_Position.tab4 : rtab .any (opsOf Try.f27 4) = cutroomref01_Position.T4 := by kernel_rfl
theorem cutroomref01_Position.bits4 : waitsOk cutroomref01_Position.T4.2 cutroomref01_Position.B4 = true := by kernel_rfl
set_option maxHeartbeats 8000000 in
set_option maxRecDepth 100000 in
theorem cutroomref01_Position.calls (k : Nat) (a0 : Int) (a1_0 : Int) (a1_1 : Int) (a2_0 : Int) (a2_1 : Int) (r1 : Int) (r2 : Int) (w : World) (h : cutroomref01_Position.f k a0 a1_0 a1_1 a2_0 a2_1 = some (r1, r2)) :
    Calls Try.prog 27 #[.int .i64 a0, .agg #[.int .i64 a1_0, .int .i64 a1_1], .agg #[.int .i64 a2_0, .int .i64 a2_1]] w fun e w' => e = .returned (.tuple #[.int .i64 r1, .int .i64 r2]) ∧ Below w.heap.size w w' := by
  have hu55 := Try.underlying55
  have hu83 := Try.underlying83
  have HB := Aside0.mk (Below.refl w.heap.size w)
  have H : ((cutroomref01_scale.f k a1_0 a1_1).bind fun t203 => (if t203 = true then ((cutroomref01_scale.f k a2_0 a2_1).bind fun t204 => (cutroomref01_Position.j0 k a0 (!t204) a1_0 a1_1 a2_0 a2_1)) else (cutroomref01_Position.j0 k a0 true a1_0 a1_1 a2_0 a2_1))) = some (r1, r2) := h
  clear h
  have HC4 := Aside0.mk H
  clear H
  go_enter Try.func27, Try.ntmps27
  go_upto_region 1 with (first | ((with_reducible refine gate_dst (N := 4) rfl ?_); refine box_event ?hg (N := 4) ?hd (cs := #[.int .i64 a1_0, .int .i64 a1_1]) (t := 55) ?hr ?_; (case hd => rfl); (case hg => rfl); (case hr => first | (go_simp; done) | (go_simp; rfl)); intro gb201 hg w5 hbox hb; have n0_ := Aside0.mk (below_step (by repeat (first | (with_reducible first | exact HB.out | apply below_alloc | apply pw_below_drewN | apply below_drew1) | exact HB.out)) hb); have n1_ := Aside0.mk (hbox); have n2_ := Aside0.mk ((by rw [hg]; exact (below_size (by repeat (first | (with_reducible first | exact HB.out | apply below_alloc | apply pw_below_drewN | apply below_drew1) | exact HB.out))) : w.heap.size ≤ gb201)); have n3_ := Aside0.mk ((by rw [hg]; exact (below_size (by repeat (first | (with_reducible first | exact HB.out | apply below_alloc | apply pw_below_drewN | apply below_drew1) | exact HB.out))) : w.heap.size ≤ gb201)); clear HB; have HB := n0_; have BK201 := n1_; have GW201 := n2_; have GE201 := n3_; clear n0_ n1_ n2_ n3_; clear hb hbox hg) | ((with_reducible refine gate_dst (N := 5) rfl ?_); refine box_event ?hg (N := 5) ?hd (cs := #[.int .i64 a2_0, .int .i64 a2_1]) (t := 55) ?hr ?_; (case hd => rfl); (case hg => rfl); (case hr => first | (go_simp; done) | (go_simp; rfl)); intro gb202 hg w6 hbox hb; have n0_ := Aside0.mk (blk_below (g := gb201) (o := .cells #[.int .i64 a1_0, .int .i64 a1_1] 55 (0, 0)) (by (with_reducible repeat (first | refine blk_drewN ?_ _ | refine blk_drew ?_ | refine blk_alloc ?_ _)); exact BK201.out) hb); have n1_ := Aside0.mk (below_step (by repeat (first | (with_reducible first | exact HB.out | apply below_alloc | apply pw_below_drewN | apply below_drew1 | refine below_set ?_ GE201.out) | exact HB.out)) hb); have n2_ := Aside0.mk (hbox); have n3_ := Aside0.mk ((by rw [hg]; exact (below_size (by repeat (first | (with_reducible first | exact HB.out | apply below_alloc | apply pw_below_drewN | apply below_drew1 | refine below_set ?_ GE201.out) | exact HB.out))) : w.heap.size ≤ gb202)); have n4_ := Aside0.mk ((by rw [hg]; exact (below_size (by repeat (first | (with_reducible first | exact HB.out | apply below_alloc | apply pw_below_drewN | apply below_drew1 | refine below_set ?_ GE201.out) | exact HB.out))) : w.heap.size ≤ gb202)); have n5_ := Aside0.mk ((by rw [hg]; exact Nat.ne_of_lt (blk_lt (g := gb201) (o := .cells #[.int .i64 a1_0, .int .i64 a1_1] 55 (0, 0)) (by (with_reducible repeat (first | refine blk_drewN ?_ _ | refine blk_drew ?_ | refine blk_alloc ?_ _)); exact BK201.out)) : gb201 ≠ gb202)); have n6_ := Aside0.mk ((by rw [hg]; exact Nat.ne_of_gt (blk_lt (g := gb201) (o := .cells #[.int .i64 a1_0, .int .i64 a1_1] 55 (0, 0)) (by (with_reducible repeat (first | refine blk_drewN ?_ _ | refine blk_drew ?_ | refine blk_alloc ?_ _)); exact BK201.out)) : gb202 ≠ gb201)); clear BK201; clear HB; have BK201 := n0_; have HB := n1_; have BK202 := n2_; have GW202 := n3_; have GE202 := n4_; have NB201_202 := n5_; have NB202_201 := n6_; clear n0_ n1_ n2_ n3_ n4_ n5_ n6_; clear hb hbox hg))
  (try simp only [Act.put, List.setIfInBounds_toArray, List.set_cons_zero, List.set_cons_succ])
  go_cut [22] (fun v22 wc => ∃ (kq : Nat) (x22_3 : Bool), v22 = .bool x22_3 ∧ Aside0 (cutroomref01_Position.j0 kq a0 x22_3 a1_0 a1_1 a2_0 a2_1 = some (r1, r2)) ∧ Aside0 (kq ≤ k) ∧ Aside0 (wc.heap[gb201]? = some (.cells #[.int .i64 a1_0, .int .i64 a1_1] 55 (0, 0))) ∧ Aside0 (wc.heap[gb202]? = some (.cells #[.int .i64 a2_0, .int .i64 a2_1] 55 (0, 0))) ∧ Aside0 (Below w.heap.size w wc))
  case first =>
    have H := HC4.out
    clear HC4
    replace H := Option.bind_eq_some_iff.mp H
    obtain ⟨t203, A70, H⟩ := H
    replace H : (if t203 = true then ((cutroomref01_scale.f k a2_0 a2_1).bind fun t204 => (cutroomref01_Position.j0 k a0 (!t204) a1_0 a1_1 a2_0 a2_1)) else (cutroomref01_Position.j0 k a0 true a1_0 a1_1 a2_0 a2_1)) = some (r1, r2) := H
    have A7 := Aside0.mk A70
    clear A70
    by_cases c8 : t203 = true
    · subst c8
      have H1 : ((cutroomref01_scale.f k a2_0 a2_1).bind fun t204 => (cutroomref01_Position.j0 k a0 (!t204) a1_0 a1_1 a2_0 a2_1)) = some (r1, r2) := by rw [if_pos rfl] at H; exact H
      clear H
      have H := H1
      clear H1
      replace H := Option.bind_eq_some_iff.mp H
      obtain ⟨t204, A90, H⟩ := H
      replace H : (cutroomref01_Position.j0 k a0 (!t204) a1_0 a1_1 a2_0 a2_1) = some (r1, r2) := H
      have A9 := Aside0.mk A90
      clear A90
      have H' := Aside0.mk H
      clear H
      have hnb10 := NB201_202.out
      have hnc10 := NB202_201.out
      have hcz11_0 : w6.cell? ⟨gb201, 0, none⟩ = some (.int .i64 a1_0) := (blk_cell BK201.out 0).trans rfl
      have hcz11_1 : w6.cell? ⟨gb201, 1, none⟩ = some (.int .i64 a1_1) := (blk_cell BK201.out 1).trans rfl
      have hfz11_0 := blk_frozen BK201.out 0
      have hfz11_1 := blk_frozen BK201.out 1
      go_wp2_with (first | ((with_reducible refine gate_callee (f := 42) rfl ?_); refine goesL_ (some 16) rfl rfl Try.func42 (by kernel_rfl) rfl #[.agg #[.int .i64 a1_0, .int .i64 a1_1]] rfl (by (try simp only [List.map_toArray, List.map_cons, List.map_nil]); first | done | rfl | (simp only [List.length_drop, List.length_take]; rfl)) ?_; (with_reducible refine (cutroomref01_scale.calls k a1_0 a1_1 true _ A7.out).mono ?_); rintro e w12 ⟨rfl, hb⟩; refine ⟨_, rfl, ?_⟩; have n0_ := Aside0.mk (blk_below (g := gb201) (o := .cells #[.int .i64 a1_0, .int .i64 a1_1] 55 (0, 0)) (by (with_reducible repeat (first | refine blk_drewN ?_ _ | refine blk_drew ?_ | refine blk_alloc ?_ _)); exact BK201.out) hb); have n1_ := Aside0.mk (blk_below (g := gb202) (o := .cells #[.int .i64 a2_0, .int .i64 a2_1] 55 (0, 0)) (by (with_reducible repeat (first | refine blk_drewN ?_ _ | refine blk_drew ?_ | refine blk_alloc ?_ _)); exact BK202.out) hb); have n2_ := Aside0.mk (below_step (by repeat (first | (with_reducible first | exact HB.out | apply below_alloc | apply pw_below_drewN | apply below_drew1 | refine below_set ?_ GE201.out | refine below_set ?_ GE202.out) | exact HB.out)) hb); clear BK201; clear BK202; clear HB; have BK201 := n0_; have BK202 := n1_; have HB := n2_; clear n0_ n1_ n2_; (try clear hb); (try clear hb2); (try clear hk); (try clear hi); have hcz13_0 : w12.cell? ⟨gb202, 0, none⟩ = some (.int .i64 a2_0) := (blk_cell BK202.out 0).trans rfl; have hcz13_1 : w12.cell? ⟨gb202, 1, none⟩ = some (.int .i64 a2_1) := (blk_cell BK202.out 1).trans rfl; have hfz13_0 := blk_frozen BK202.out 0; have hfz13_1 := blk_frozen BK202.out 1) | (go_at_call 42; (with_reducible refine (cutroomref01_scale.calls k a2_0 a2_1 t204 _ A9.out).mono ?_); rintro e w14 ⟨rfl, hb⟩; have n0_ := Aside0.mk (blk_below (g := gb201) (o := .cells #[.int .i64 a1_0, .int .i64 a1_1] 55 (0, 0)) (by (with_reducible repeat (first | refine blk_drewN ?_ _ | refine blk_drew ?_ | refine blk_alloc ?_ _)); exact BK201.out) hb); have n1_ := Aside0.mk (blk_below (g := gb202) (o := .cells #[.int .i64 a2_0, .int .i64 a2_1] 55 (0, 0)) (by (with_reducible repeat (first | refine blk_drewN ?_ _ | refine blk_drew ?_ | refine blk_alloc ?_ _)); exact BK202.out) hb); have n2_ := Aside0.mk (below_step (by repeat (first | (with_reducible first | exact HB.out | apply below_alloc | apply pw_below_drewN | apply below_drew1 | refine below_set ?_ GE201.out | refine below_set ?_ GE202.out) | exact HB.out)) hb); clear BK201; clear BK202; clear HB; have BK201 := n0_; have BK202 := n1_; have HB := n2_; clear n0_ n1_ n2_; (try clear hb); (try clear hb2); (try clear hk); (try clear hi)))
      go_meet
      case rel => exact ⟨_, (!t204), (by first | rfl | (simp; done) | (simp [*]; done)), H', ⟨by first | omega | exact Nat.le_refl _⟩, ⟨by (with_reducible repeat (first | refine blk_drewN ?_ _ | refine blk_drew ?_ | refine blk_alloc ?_ _)); exact BK201.out⟩, ⟨by (with_reducible repeat (first | refine blk_drewN ?_ _ | refine blk_drew ?_ | refine blk_alloc ?_ _)); exact BK202.out⟩, ⟨by repeat (first | (with_reducible first | exact HB.out | apply below_alloc | apply pw_below_drewN | apply below_drew1 | refine below_set ?_ GE201.out | refine below_set ?_ GE202.out) | exact HB.out)⟩⟩
    · replace c8 := Bool.eq_false_iff.mpr c8
      subst c8
      have H1 : (cutroomref01_Position.j0 k a0 true a1_0 a1_1 a2_0 a2_1) = some (r1, r2) := by rw [if_neg (show ¬ (false = true) by decide)] at H; exact H
      clear H
      have H := H1
      clear H1
      have H' := Aside0.mk H
      clear H
      have hnb15 := NB201_202.out
      have hnc15 := NB202_201.out
      have hcz16_0 : w6.cell? ⟨gb201, 0, none⟩ = some (.int .i64 a1_0) := (blk_cell BK201.out 0).trans rfl
      have hcz16_1 : w6.cell? ⟨gb201, 1, none⟩ = some (.int .i64 a1_1) := (blk_cell BK201.out 1).trans rfl
      have hfz16_0 := blk_frozen BK201.out 0
      have hfz16_1 := blk_frozen BK201.out 1
      go_wp2_with (first | ((with_reducible refine gate_callee (f := 42) rfl ?_); refine goesL_ (some 16) rfl rfl Try.func42 (by kernel_rfl) rfl #[.agg #[.int .i64 a1_0, .int .i64 a1_1]] rfl (by (try simp only [List.map_toArray, List.map_cons, List.map_nil]); first | done | rfl | (simp only [List.length_drop, List.length_take]; rfl)) ?_; (with_reducible refine (cutroomref01_scale.calls k a1_0 a1_1 false _ A7.out).mono ?_); rintro e w17 ⟨rfl, hb⟩; refine ⟨_, rfl, ?_⟩; have n0_ := Aside0.mk (blk_below (g := gb201) (o := .cells #[.int .i64 a1_0, .int .i64 a1_1] 55 (0, 0)) (by (with_reducible repeat (first | refine blk_drewN ?_ _ | refine blk_drew ?_ | refine blk_alloc ?_ _)); exact BK201.out) hb); have n1_ := Aside0.mk (blk_below (g := gb202) (o := .cells #[.int .i64 a2_0, .int .i64 a2_1] 55 (0, 0)) (by (with_reducible repeat (first | refine blk_drewN ?_ _ | refine blk_drew ?_ | refine blk_alloc ?_ _)); exact BK202.out) hb); have n2_ := Aside0.mk (below_step (by repeat (first | (with_reducible first | exact HB.out | apply below_alloc | apply pw_below_drewN | apply below_drew1 | refine below_set ?_ GE201.out | refine below_set ?_ GE202.out) | exact HB.out)) hb); clear BK201; clear BK202; clear HB; have BK201 := n0_; have BK202 := n1_; have HB := n2_; clear n0_ n1_ n2_; (try clear hb); (try clear hb2); (try clear hk); (try clear hi)))
      go_meet
      case rel => exact ⟨_, (true), (by first | rfl | (simp; done) | (simp [*]; done)), H', ⟨by first | omega | exact Nat.le_refl _⟩, ⟨by (with_reducible repeat (first | refine blk_drewN ?_ _ | refine blk_drew ?_ | refine blk_alloc ?_ _)); exact BK201.out⟩, ⟨by (with_reducible repeat (first | refine blk_drewN ?_ _ | refine blk_drew ?_ | refine blk_alloc ?_ _)); exact BK202.out⟩, ⟨by repeat (first | (with_reducible first | exact HB.out | apply below_alloc | apply pw_below_drewN | apply below_drew1 | refine below_set ?_ GE201.out | refine below_set ?_ GE202.out) | exact HB.out)⟩⟩
  case rest =>
    clear HC4
    try clear c1
    try clear c2
    try clear p2
    try clear c4
    try clear c8
    try clear c10
    try clear c15
    try clear hcz11_0
    try clear hcz11_1
    try clear hcz13_0
    try clear hcz13_1
    try clear hcz16_0
    try clear hcz16_1
    try clear hfz11_0
    try clear hfz11_1
    try clear hfz13_0
    try clear hfz13_1
    try clear hfz16_0
    try clear hfz16_1
    obtain ⟨kq, x22_3, rfl, HA, HJ3, BK201, BK202, HB⟩ := hcut
    cases kq with
    | zero => exact absurd HA.out (by simp [cutroomref01_Position.j0])
    | succ kj3 =>
      have H := HA.out
      clear HA
      simp only [cutroomref01_Position.j0] at H
      by_cases c18 : x22_3 = true
      · subst c18
        have H1 : (some (0, 1)) = some (r1, r2) := by rw [if_pos rfl] at H; exact H
        clear H
        have H := H1
        clear H1
        simp only [Option.some.injEq, Prod.mk.injEq] at H
        obtain ⟨rfl, rfl⟩ := H
        go_wp2
        go_ret2
        exact ⟨by first | rfl | (simp [errW_none, errW_some] <;> rfl) | (simp [*, errW_none, errW_some] <;> rfl), by repeat (first | (with_reducible first | exact HB.out | apply below_alloc | apply pw_below_drewN | apply below_drew1 | refine below_set ?_ GE201.out | refine below_set ?_ GE202.out) | exact HB.out)⟩
      · replace c18 := Bool.eq_false_iff.mpr c18
        subst c18
        have H1 : ((cutroomref01_mag.f a0).bind fun t205 => ((cutroomref01_times.f t205 (IntKind.u64.wrap ((IntKind.u64.wrap (a2_0)) * (IntKind.u64.wrap (a1_1))))).bind fun bt206 => ((cutroomref01_plus.f bt206.1 bt206.2 bt206.1 bt206.2).bind fun bt209 => (if a0 < 0 then ((cutroomref01_less.f 0 (IntKind.u64.wrap ((IntKind.u64.wrap (a2_1)) * (IntKind.u64.wrap (a1_0)))) bt209.1 bt209.2).bind fun t211 => (cutroomref01_Position.j1 kj3 a0 (IntKind.u64.wrap ((IntKind.u64.wrap (a2_1)) * (IntKind.u64.wrap (a1_0)))) (!t211) bt209.1 bt209.2)) else (cutroomref01_Position.j1 kj3 a0 (IntKind.u64.wrap ((IntKind.u64.wrap (a2_1)) * (IntKind.u64.wrap (a1_0)))) false bt209.1 bt209.2))))) = some (r1, r2) := by rw [if_neg (show ¬ (false = true) by decide)] at H; exact H
        clear H
        have H := H1
        clear H1
        replace H := Option.bind_eq_some_iff.mp H
        obtain ⟨t205, A190, H⟩ := H
        replace H : ((cutroomref01_times.f t205 (IntKind.u64.wrap ((IntKind.u64.wrap (a2_0)) * (IntKind.u64.wrap (a1_1))))).bind fun bt206 => ((cutroomref01_plus.f bt206.1 bt206.2 bt206.1 bt206.2).bind fun bt209 => (if a0 < 0 then ((cutroomref01_less.f 0 (IntKind.u64.wrap ((IntKind.u64.wrap (a2_1)) * (IntKind.u64.wrap (a1_0)))) bt209.1 bt209.2).bind fun t211 => (cutroomref01_Position.j1 kj3 a0 (IntKind.u64.wrap ((IntKind.u64.wrap (a2_1)) * (IntKind.u64.wrap (a1_0)))) (!t211) bt209.1 bt209.2)) else (cutroomref01_Position.j1 kj3 a0 (IntKind.u64.wrap ((IntKind.u64.wrap (a2_1)) * (IntKind.u64.wrap (a1_0)))) false bt209.1 bt209.2)))) = some (r1, r2) := H
        have A19 := Aside0.mk A190
        clear A190
        replace H := Option.bind_eq_some_iff.mp H
        obtain ⟨⟨t206, t207⟩, A200, H⟩ := H
        replace H : ((cutroomref01_plus.f t206 t207 t206 t207).bind fun bt209 => (if a0 < 0 then ((cutroomref01_less.f 0 (IntKind.u64.wrap ((IntKind.u64.wrap (a2_1)) * (IntKind.u64.wrap (a1_0)))) bt209.1 bt209.2).bind fun t211 => (cutroomref01_Position.j1 kj3 a0 (IntKind.u64.wrap ((IntKind.u64.wrap (a2_1)) * (IntKind.u64.wrap (a1_0)))) (!t211) bt209.1 bt209.2)) else (cutroomref01_Position.j1 kj3 a0 (IntKind.u64.wrap ((IntKind.u64.wrap (a2_1)) * (IntKind.u64.wrap (a1_0)))) false bt209.1 bt209.2))) = some (r1, r2) := H
        have A20 := Aside0.mk A200
        clear A200
        replace H := Option.bind_eq_some_iff.mp H
        obtain ⟨⟨t209, t210⟩, A210, H⟩ := H
        replace H : (if a0 < 0 then ((cutroomref01_less.f 0 (IntKind.u64.wrap ((IntKind.u64.wrap (a2_1)) * (IntKind.u64.wrap (a1_0)))) t209 t210).bind fun t211 => (cutroomref01_Position.j1 kj3 a0 (IntKind.u64.wrap ((IntKind.u64.wrap (a2_1)) * (IntKind.u64.wrap (a1_0)))) (!t211) t209 t210)) else (cutroomref01_Position.j1 kj3 a0 (IntKind.u64.wrap ((IntKind.u64.wrap (a2_1)) * (IntKind.u64.wrap (a1_0)))) false t209 t210)) = some (r1, r2) := H
        have A21 := Aside0.mk A210
        clear A210
        have HC22 := Aside0.mk H
        clear H
        have hnb23 := NB202_201.out
        have hnc23 := NB201_202.out
        have hcz24_0 : wc.cell? ⟨gb202, 0, none⟩ = some (.int .i64 a2_0) := (blk_cell BK202.out 0).trans rfl
        have hcz24_1 : wc.cell? ⟨gb202, 1, none⟩ = some (.int .i64 a2_1) := (blk_cell BK202.out 1).trans rfl
        have hfz24_0 := blk_frozen BK202.out 0
        have hfz24_1 := blk_frozen BK202.out 1
        have hcz25_0 : wc.cell? ⟨gb201, 0, none⟩ = some (.int .i64 a1_0) := (blk_cell BK201.out 0).trans rfl
        have hcz25_1 : wc.cell? ⟨gb201, 1, none⟩ = some (.int .i64 a1_1) := (blk_cell BK201.out 1).trans rfl
        have hfz25_0 := blk_frozen BK201.out 0
        have hfz25_1 := blk_frozen BK201.out 1
        try go_wp2
        have n0_ := Aside0.mk (blk_drew BK201.out)
        have n1_ := Aside0.mk (blk_drew BK202.out)
        have n2_ := Aside0.mk (below_drew1 HB.out)
        clear BK201
        clear BK202
        clear HB
        have BK201 := n0_
        have BK202 := n1_
        have HB := n2_
        clear n0_ n1_ n2_
        refine start_ (n := 12) (S := fun w' => w'.cell? ⟨gb202, 0, none⟩ = some (.int .i64 a2_0) ∧ w'.cell? ⟨gb202, 1, none⟩ = some (.int .i64 a2_1) ∧ w'.cell? ⟨gb201, 0, none⟩ = some (.int .i64 a1_0) ∧ w'.cell? ⟨gb201, 1, none⟩ = some (.int .i64 a1_1)) (ds := []) #[false, false, false, false, false, false, false, false, false, false, false, false] (by kernel_rfl) rfl rfl ⟨(blk_cell BK202.out 0).trans rfl, (blk_cell BK202.out 1).trans rfl, (blk_cell BK201.out 0).trans rfl, (blk_cell BK201.out 1).trans rfl⟩ (fun hHeld => ?_); refine with_tabW cutroomref01_Position.tab4 cutroomref01_Position.bits4 (fun HT_ HW_ => ?_)
        generalize wc.drew = w26 at BK201 BK202 HB hHeld ⊢
        refine pure_ (i := 0) (N := some 30) (v := ?_) (a' := ?_) #[true, false, false, false, false, false, false, false, false, false, false, false] rfl rfl (any_of HT_.out (by kernel_rfl)) (fun _ _ _ h => h) (Or.inl ⟨by rfl, ?_⟩) ?_ ?_
        rotate_left
        · intro w'
          go_simp
          with_reducible rfl
        rotate_left
        · simp only [Act.put, List.setIfInBounds_toArray, List.set_cons_zero, List.set_cons_succ, i64_w, i32_w]
          rfl
        refine pure_ (i := 2) (N := some 32) (v := ?_) (a' := ?_) #[true, false, true, false, false, false, false, false, false, false, false, false] rfl rfl (any_of HT_.out (by kernel_rfl)) (fun _ _ _ h => h) (Or.inl ⟨by rfl, ?_⟩) ?_ ?_
        rotate_left
        · intro w'
          go_simp
          with_reducible rfl
        rotate_left
        · simp only [Act.put, List.setIfInBounds_toArray, List.set_cons_zero, List.set_cons_succ, i64_w, i32_w]
          rfl
        refine pure_ (i := 5) (N := some 35) (v := ?_) (a' := ?_) #[true, false, true, false, false, true, false, false, false, false, false, false] rfl rfl (any_of HT_.out (by kernel_rfl)) (fun _ _ _ h => h) (Or.inl ⟨by rfl, ?_⟩) ?_ ?_
        rotate_left
        · intro w'
          go_simp
          with_reducible rfl
        rotate_left
        · simp only [Act.put, List.setIfInBounds_toArray, List.set_cons_zero, List.set_cons_succ, i64_w, i32_w]
          rfl
        refine take_ (i := 3) (N := some 33) (v := ?_) (a' := ?_) #[true, false, true, true, false, true, false, false, false, false, false, false] rfl rfl (take_ofW HT_.out HW_.out (by kernel_rfl)) (fun _ _ _ h => h) (Or.inl ⟨by rfl, ?_⟩) hHeld ?_ ?_
        rotate_left
        · rintro w' ⟨s0, s1, s2, s3⟩
          go_simp
          with_reducible rfl
        rotate_left
        · simp only [Act.put, List.setIfInBounds_toArray, List.set_cons_zero, List.set_cons_succ, i64_w, i32_w]
          rfl
        refine pure_ (i := 4) (N := some 34) (v := ?_) (a' := ?_) #[true, false, true, true, true, true, false, false, false, false, false, false] rfl rfl (any_of HT_.out (by kernel_rfl)) (fun _ _ _ h => h) (Or.inl ⟨by rfl, ?_⟩) ?_ ?_
        rotate_left
        · intro w'
          go_simp
          with_reducible rfl
        rotate_left
        · simp only [Act.put, List.setIfInBounds_toArray, List.set_cons_zero, List.set_cons_succ, i64_w, i32_w]
          rfl
        refine take_ (i := 6) (N := some 36) (v := ?_) (a' := ?_) #[true, false, true, true, true, true, true, false, false, false, false, false] rfl rfl (take_ofW HT_.out HW_.out (by kernel_rfl)) (fun _ _ _ h => h) (Or.inl ⟨by rfl, ?_⟩) hHeld ?_ ?_
        rotate_left
        · rintro w' ⟨s0, s1, s2, s3⟩
          go_simp
          with_reducible rfl
        rotate_left
        · simp only [Act.put, List.setIfInBounds_toArray, List.set_cons_zero, List.set_cons_succ, i64_w, i32_w]
          rfl
        refine pure_ (i := 7) (N := some 37) (v := ?_) (a' := ?_) #[true, false, true, true, true, true, true, true, false, false, false, false] rfl rfl (any_of HT_.out (by kernel_rfl)) (fun _ _ _ h => h) (Or.inl ⟨by rfl, ?_⟩) ?_ ?_
        rotate_left
        · intro w'
          go_simp
          with_reducible rfl
        rotate_left
        · simp only [Act.put, List.setIfInBounds_toArray, List.set_cons_zero, List.set_cons_succ, i64_w, i32_w]
          rfl
        refine pure_ (i := 8) (N := some 38) (v := ?_) (a' := ?_) #[true, false, true, true, true, true, true, true, true, false, false, false] rfl rfl (any_of HT_.out (by kernel_rfl)) (fun _ _ _ h => h) (Or.inl ⟨by rfl, ?_⟩) ?_ ?_
        rotate_left
        · intro w'
          go_simp
          with_reducible rfl
        rotate_left
        · simp only [Act.put, List.setIfInBounds_toArray, List.set_cons_zero, List.set_cons_succ, i64_w, i32_w]
          rfl
        refine join_ (σ := Nat) 1 #[true, true, true, true, true, true, true, true, true, true, true, false] (fun s_ => [(31, .int .u64 t205), (39, .agg #[.int .u64 t206, .int .u64 t207]), (9, .pointer (some ⟨s_, 0, none⟩))]) (fun s_ w' => (w'.cell? ⟨gb202, 0, none⟩ = some (.int .i64 a2_0) ∧ w'.cell? ⟨gb202, 1, none⟩ = some (.int .i64 a2_1) ∧ w'.cell? ⟨gb201, 0, none⟩ = some (.int .i64 a1_0) ∧ w'.cell? ⟨gb201, 1, none⟩ = some (.int .i64 a1_1)) ∧ (w'.heap[gb201]? = some (.cells #[.int .i64 a1_0, .int .i64 a1_1] 55 (0, 0))) ∧ (w'.heap[gb202]? = some (.cells #[.int .i64 a2_0, .int .i64 a2_1] 55 (0, 0))) ∧ (w'.heap[s_]? = some (.cells #[.int .u64 0, .int .u64 0] 83 (0, 0))) ∧ (w.heap.size ≤ s_) ∧ (w.heap.size ≤ s_) ∧ (gb201 ≠ s_) ∧ (s_ ≠ gb201) ∧ (gb202 ≠ s_) ∧ (s_ ≠ gb202) ∧ (Below w.heap.size w w')) ?_ ?_
        rotate_left
        · intro hCont
          refine two_ (i := 1) (j := 10) (Ni := some 31) (Nj := some 9) #[true, true, true, true, true, true, true, true, true, false, false, false] #[true, false, true, true, true, true, true, true, true, false, true, false] rfl rfl rfl rfl (two_of HT_.out (by kernel_rfl)) (by decide) (by decide) (fun K hK => ?_) (fun K hK => ?_)
          · skip
            refine goes_ Try.func41 (by kernel_rfl) rfl #[.int .i64 a0] (by rfl) rfl rfl (by (try simp only [List.map_toArray, List.map_cons, List.map_nil]); first | done | rfl | (simp only [List.length_drop, List.length_take]; rfl)) ?_
            with_reducible refine (cutroomref01_mag.calls a0 t205 _ A19.out).mono ?_
            rintro e w' ⟨rfl, ⟨nd, rfl⟩⟩
            refine ⟨_, rfl, ?_⟩
            refine hK.out _ _ ⟨(blk_cell BK202.out 0).trans rfl, (blk_cell BK202.out 1).trans rfl, (blk_cell BK201.out 0).trans rfl, (blk_cell BK201.out 1).trans rfl⟩ (fun hHeld => ?_)
            clear hK K
            refine norm_ (a' := ?_) ?_ ?_
            rotate_left
            · show Act.put _ (some 31) _ = _
              simp only [Act.put, List.setIfInBounds_toArray, List.set_cons_zero, List.set_cons_succ, i64_w, i32_w]
              rfl
            refine two_ (i := 9) (j := 10) (Ni := some 39) (Nj := some 9) #[true, true, true, true, true, true, true, true, true, true, false, false] #[true, true, true, true, true, true, true, true, true, false, true, false] rfl rfl rfl rfl (two_of HT_.out (by kernel_rfl)) (by decide) (by decide) (fun K hK => ?_) (fun K hK => ?_)
            · skip
              refine goes_ Try.func43 (by kernel_rfl) rfl #[.int .u64 t205, .int .u64 (IntKind.u64.wrap ((IntKind.u64.wrap (a2_0)) * (IntKind.u64.wrap (a1_1))))] (by rfl) rfl rfl (by (try simp only [List.map_toArray, List.map_cons, List.map_nil]); first | done | rfl | (simp only [List.length_drop, List.length_take]; rfl)) ?_
              with_reducible refine (cutroomref01_times.calls t205 (IntKind.u64.wrap ((IntKind.u64.wrap (a2_0)) * (IntKind.u64.wrap (a1_1)))) t206 t207 _ A20.out).mono ?_
              rintro e w27 ⟨rfl, hb⟩
              refine ⟨_, rfl, ?_⟩
              have n0_ := Aside0.mk (blk_below (g := gb201) (o := .cells #[.int .i64 a1_0, .int .i64 a1_1] 55 (0, 0)) (by (with_reducible repeat (first | refine blk_drewN ?_ _ | refine blk_drew ?_ | refine blk_alloc ?_ _)); exact BK201.out) hb)
              have n1_ := Aside0.mk (blk_below (g := gb202) (o := .cells #[.int .i64 a2_0, .int .i64 a2_1] 55 (0, 0)) (by (with_reducible repeat (first | refine blk_drewN ?_ _ | refine blk_drew ?_ | refine blk_alloc ?_ _)); exact BK202.out) hb)
              have n2_ := Aside0.mk (below_step (by repeat (first | (with_reducible first | exact HB.out | apply below_alloc | apply pw_below_drewN | apply below_drew1 | refine below_set ?_ GE201.out | refine below_set ?_ GE202.out) | exact HB.out)) hb)
              clear BK201
              clear BK202
              clear HB
              have BK201 := n0_
              have BK202 := n1_
              have HB := n2_
              clear n0_ n1_ n2_
              (try clear hb)
              (try clear hb2)
              (try clear hk)
              (try clear hi)
              refine hK.out _ _ ⟨(blk_cell BK202.out 0).trans rfl, (blk_cell BK202.out 1).trans rfl, (blk_cell BK201.out 0).trans rfl, (blk_cell BK201.out 1).trans rfl⟩ (fun hHeld => ?_)
              clear hK K
              refine norm_ (a' := ?_) ?_ ?_
              rotate_left
              · show Act.put _ (some 39) _ = _
                simp only [Act.put, List.setIfInBounds_toArray, List.set_cons_zero, List.set_cons_succ, i64_w, i32_w]
                rfl
              refine one_ (i := 10) (N := some 9) #[true, true, true, true, true, true, true, true, true, true, true, false] rfl rfl (one_of HT_.out (by kernel_rfl)) (by decide) (fun K hK => ?_)
              refine box_step ?hg (N := 9) ?hd (cs := #[.int .u64 0, .int .u64 0]) (t := 83) ?hr ?_; (case hd => rfl); (case hg => rfl); (case hr => first | (go_simp; done) | (go_simp; rfl))
              intro gb208 hg w28 hbox hb
              have n0_ := Aside0.mk (blk_below (g := gb201) (o := .cells #[.int .i64 a1_0, .int .i64 a1_1] 55 (0, 0)) (by (with_reducible repeat (first | refine blk_drewN ?_ _ | refine blk_drew ?_ | refine blk_alloc ?_ _)); exact BK201.out) hb)
              have n1_ := Aside0.mk (blk_below (g := gb202) (o := .cells #[.int .i64 a2_0, .int .i64 a2_1] 55 (0, 0)) (by (with_reducible repeat (first | refine blk_drewN ?_ _ | refine blk_drew ?_ | refine blk_alloc ?_ _)); exact BK202.out) hb)
              have n2_ := Aside0.mk (below_step (by repeat (first | (with_reducible first | exact HB.out | apply below_alloc | apply pw_below_drewN | apply below_drew1 | refine below_set ?_ GE201.out | refine below_set ?_ GE202.out) | exact HB.out)) hb)
              have n3_ := Aside0.mk (hbox)
              have n4_ := Aside0.mk ((by rw [hg]; exact (below_size (by repeat (first | (with_reducible first | exact HB.out | apply below_alloc | apply pw_below_drewN | apply below_drew1 | refine below_set ?_ GE201.out | refine below_set ?_ GE202.out) | exact HB.out))) : w.heap.size ≤ gb208))
              have n5_ := Aside0.mk ((by rw [hg]; exact (below_size (by repeat (first | (with_reducible first | exact HB.out | apply below_alloc | apply pw_below_drewN | apply below_drew1 | refine below_set ?_ GE201.out | refine below_set ?_ GE202.out) | exact HB.out))) : w.heap.size ≤ gb208))
              have n6_ := Aside0.mk ((by rw [hg]; exact Nat.ne_of_lt (blk_lt (g := gb201) (o := .cells #[.int .i64 a1_0, .int .i64 a1_1] 55 (0, 0)) (by (with_reducible repeat (first | refine blk_drewN ?_ _ | refine blk_drew ?_ | refine blk_alloc ?_ _)); exact BK201.out)) : gb201 ≠ gb208))
              have n7_ := Aside0.mk ((by rw [hg]; exact Nat.ne_of_gt (blk_lt (g := gb201) (o := .cells #[.int .i64 a1_0, .int .i64 a1_1] 55 (0, 0)) (by (with_reducible repeat (first | refine blk_drewN ?_ _ | refine blk_drew ?_ | refine blk_alloc ?_ _)); exact BK201.out)) : gb208 ≠ gb201))
              have n8_ := Aside0.mk ((by rw [hg]; exact Nat.ne_of_lt (blk_lt (g := gb202) (o := .cells #[.int .i64 a2_0, .int .i64 a2_1] 55 (0, 0)) (by (with_reducible repeat (first | refine blk_drewN ?_ _ | refine blk_drew ?_ | refine blk_alloc ?_ _)); exact BK202.out)) : gb202 ≠ gb208))
              have n9_ := Aside0.mk ((by rw [hg]; exact Nat.ne_of_gt (blk_lt (g := gb202) (o := .cells #[.int .i64 a2_0, .int .i64 a2_1] 55 (0, 0)) (by (with_reducible repeat (first | refine blk_drewN ?_ _ | refine blk_drew ?_ | refine blk_alloc ?_ _)); exact BK202.out)) : gb208 ≠ gb202))
              clear BK201
              clear BK202
              clear HB
              have BK201 := n0_
              have BK202 := n1_
              have HB := n2_
              have BK208 := n3_
              have GW208 := n4_
              have GE208 := n5_
              have NB201_208 := n6_
              have NB208_201 := n7_
              have NB202_208 := n8_
              have NB208_202 := n9_
              clear n0_ n1_ n2_ n3_ n4_ n5_ n6_ n7_ n8_ n9_
              clear hb hbox hg
              refine hK.out _ _ ⟨(blk_cell BK202.out 0).trans rfl, (blk_cell BK202.out 1).trans rfl, (blk_cell BK201.out 0).trans rfl, (blk_cell BK201.out 1).trans rfl⟩ (fun hHeld => ?_)
              clear hK K
              refine norm_ (a' := ?_) ?_ ?_
              rotate_left
              · show Act.put _ (some 9) _ = _
                simp only [Act.put, List.setIfInBounds_toArray, List.set_cons_zero, List.set_cons_succ, i64_w, i32_w]
                rfl
              exact norm_ (by simp only [putAll, Act.put, List.setIfInBounds_toArray, List.set_cons_zero, List.set_cons_succ]) (hCont (gb208) _ ⟨hHeld, (by (with_reducible repeat (first | refine blk_drewN ?_ _ | refine blk_drew ?_ | refine blk_alloc ?_ _)); exact BK201.out), (by (with_reducible repeat (first | refine blk_drewN ?_ _ | refine blk_drew ?_ | refine blk_alloc ?_ _)); exact BK202.out), (by (with_reducible repeat (first | refine blk_drewN ?_ _ | refine blk_drew ?_ | refine blk_alloc ?_ _)); exact BK208.out), GW208.out, GE208.out, NB201_208.out, NB208_201.out, NB202_208.out, NB208_202.out, (by repeat (first | (with_reducible first | exact HB.out | apply below_alloc | apply pw_below_drewN | apply below_drew1 | refine below_set ?_ GE201.out | refine below_set ?_ GE202.out | refine below_set ?_ GE208.out) | exact HB.out))⟩)
            · skip
              refine box_step ?hg (N := 9) ?hd (cs := #[.int .u64 0, .int .u64 0]) (t := 83) ?hr ?_; (case hd => rfl); (case hg => rfl); (case hr => first | (go_simp; done) | (go_simp; rfl))
              intro gb208 hg w27 hbox hb
              have n0_ := Aside0.mk (blk_below (g := gb201) (o := .cells #[.int .i64 a1_0, .int .i64 a1_1] 55 (0, 0)) (by (with_reducible repeat (first | refine blk_drewN ?_ _ | refine blk_drew ?_ | refine blk_alloc ?_ _)); exact BK201.out) hb)
              have n1_ := Aside0.mk (blk_below (g := gb202) (o := .cells #[.int .i64 a2_0, .int .i64 a2_1] 55 (0, 0)) (by (with_reducible repeat (first | refine blk_drewN ?_ _ | refine blk_drew ?_ | refine blk_alloc ?_ _)); exact BK202.out) hb)
              have n2_ := Aside0.mk (below_step (by repeat (first | (with_reducible first | exact HB.out | apply below_alloc | apply pw_below_drewN | apply below_drew1 | refine below_set ?_ GE201.out | refine below_set ?_ GE202.out) | exact HB.out)) hb)
              have n3_ := Aside0.mk (hbox)
              have n4_ := Aside0.mk ((by rw [hg]; exact (below_size (by repeat (first | (with_reducible first | exact HB.out | apply below_alloc | apply pw_below_drewN | apply below_drew1 | refine below_set ?_ GE201.out | refine below_set ?_ GE202.out) | exact HB.out))) : w.heap.size ≤ gb208))
              have n5_ := Aside0.mk ((by rw [hg]; exact (below_size (by repeat (first | (with_reducible first | exact HB.out | apply below_alloc | apply pw_below_drewN | apply below_drew1 | refine below_set ?_ GE201.out | refine below_set ?_ GE202.out) | exact HB.out))) : w.heap.size ≤ gb208))
              have n6_ := Aside0.mk ((by rw [hg]; exact Nat.ne_of_lt (blk_lt (g := gb201) (o := .cells #[.int .i64 a1_0, .int .i64 a1_1] 55 (0, 0)) (by (with_reducible repeat (first | refine blk_drewN ?_ _ | refine blk_drew ?_ | refine blk_alloc ?_ _)); exact BK201.out)) : gb201 ≠ gb208))
              have n7_ := Aside0.mk ((by rw [hg]; exact Nat.ne_of_gt (blk_lt (g := gb201) (o := .cells #[.int .i64 a1_0, .int .i64 a1_1] 55 (0, 0)) (by (with_reducible repeat (first | refine blk_drewN ?_ _ | refine blk_drew ?_ | refine blk_alloc ?_ _)); exact BK201.out)) : gb208 ≠ gb201))
              have n8_ := Aside0.mk ((by rw [hg]; exact Nat.ne_of_lt (blk_lt (g := gb202) (o := .cells #[.int .i64 a2_0, .int .i64 a2_1] 55 (0, 0)) (by (with_reducible repeat (first | refine blk_drewN ?_ _ | refine blk_drew ?_ | refine blk_alloc ?_ _)); exact BK202.out)) : gb202 ≠ gb208))
              have n9_ := Aside0.mk ((by rw [hg]; exact Nat.ne_of_gt (blk_lt (g := gb202) (o := .cells #[.int .i64 a2_0, .int .i64 a2_1] 55 (0, 0)) (by (with_reducible repeat (first | refine blk_drewN ?_ _ | refine blk_drew ?_ | refine blk_alloc ?_ _)); exact BK202.out)) : gb208 ≠ gb202))
              clear BK201
              clear BK202
              clear HB
              have BK201 := n0_
              have BK202 := n1_
              have HB := n2_
              have BK208 := n3_
              have GW208 := n4_
              have GE208 := n5_
              have NB201_208 := n6_
              have NB208_201 := n7_
              have NB202_208 := n8_
              have NB208_202 := n9_
              clear n0_ n1_ n2_ n3_ n4_ n5_ n6_ n7_ n8_ n9_
              clear hb hbox hg
              refine hK.out _ _ ⟨(blk_cell BK202.out 0).trans rfl, (blk_cell BK202.out 1).trans rfl, (blk_cell BK201.out 0).trans rfl, (blk_cell BK201.out 1).trans rfl⟩ (fun hHeld => ?_)
              clear hK K
              refine norm_ (a' := ?_) ?_ ?_
              rotate_left
              · show Act.put _ (some 9) _ = _
                simp only [Act.put, List.setIfInBounds_toArray, List.set_cons_zero, List.set_cons_succ, i64_w, i32_w]
                rfl
              refine one_ (i := 9) (N := some 39) #[true, true, true, true, true, true, true, true, true, true, true, false] rfl rfl (one_of HT_.out (by kernel_rfl)) (by decide) (fun K hK => ?_)
              refine goes_ Try.func43 (by kernel_rfl) rfl #[.int .u64 t205, .int .u64 (IntKind.u64.wrap ((IntKind.u64.wrap (a2_0)) * (IntKind.u64.wrap (a1_1))))] (by rfl) rfl rfl (by (try simp only [List.map_toArray, List.map_cons, List.map_nil]); first | done | rfl | (simp only [List.length_drop, List.length_take]; rfl)) ?_
              with_reducible refine (cutroomref01_times.calls t205 (IntKind.u64.wrap ((IntKind.u64.wrap (a2_0)) * (IntKind.u64.wrap (a1_1)))) t206 t207 _ A20.out).mono ?_
              rintro e w28 ⟨rfl, hb⟩
              refine ⟨_, rfl, ?_⟩
              have n0_ := Aside0.mk (blk_below (g := gb201) (o := .cells #[.int .i64 a1_0, .int .i64 a1_1] 55 (0, 0)) (by (with_reducible repeat (first | refine blk_drewN ?_ _ | refine blk_drew ?_ | refine blk_alloc ?_ _)); exact BK201.out) hb)
              have n1_ := Aside0.mk (blk_below (g := gb202) (o := .cells #[.int .i64 a2_0, .int .i64 a2_1] 55 (0, 0)) (by (with_reducible repeat (first | refine blk_drewN ?_ _ | refine blk_drew ?_ | refine blk_alloc ?_ _)); exact BK202.out) hb)
              have n2_ := Aside0.mk (blk_below (g := gb208) (o := .cells #[.int .u64 0, .int .u64 0] 83 (0, 0)) (by (with_reducible repeat (first | refine blk_drewN ?_ _ | refine blk_drew ?_ | refine blk_alloc ?_ _)); exact BK208.out) hb)
              have n3_ := Aside0.mk (below_step (by repeat (first | (with_reducible first | exact HB.out | apply below_alloc | apply pw_below_drewN | apply below_drew1 | refine below_set ?_ GE201.out | refine below_set ?_ GE202.out | refine below_set ?_ GE208.out) | exact HB.out)) hb)
              clear BK201
              clear BK202
              clear BK208
              clear HB
              have BK201 := n0_
              have BK202 := n1_
              have BK208 := n2_
              have HB := n3_
              clear n0_ n1_ n2_ n3_
              (try clear hb)
              (try clear hb2)
              (try clear hk)
              (try clear hi)
              refine hK.out _ _ ⟨(blk_cell BK202.out 0).trans rfl, (blk_cell BK202.out 1).trans rfl, (blk_cell BK201.out 0).trans rfl, (blk_cell BK201.out 1).trans rfl⟩ (fun hHeld => ?_)
              clear hK K
              refine norm_ (a' := ?_) ?_ ?_
              rotate_left
              · show Act.put _ (some 39) _ = _
                simp only [Act.put, List.setIfInBounds_toArray, List.set_cons_zero, List.set_cons_succ, i64_w, i32_w]
                rfl
              exact norm_ (by simp only [putAll, Act.put, List.setIfInBounds_toArray, List.set_cons_zero, List.set_cons_succ]) (hCont (gb208) _ ⟨hHeld, (by (with_reducible repeat (first | refine blk_drewN ?_ _ | refine blk_drew ?_ | refine blk_alloc ?_ _)); exact BK201.out), (by (with_reducible repeat (first | refine blk_drewN ?_ _ | refine blk_drew ?_ | refine blk_alloc ?_ _)); exact BK202.out), (by (with_reducible repeat (first | refine blk_drewN ?_ _ | refine blk_drew ?_ | refine blk_alloc ?_ _)); exact BK208.out), GW208.out, GE208.out, NB201_208.out, NB208_201.out, NB202_208.out, NB208_202.out, (by repeat (first | (with_reducible first | exact HB.out | apply below_alloc | apply pw_below_drewN | apply below_drew1 | refine below_set ?_ GE201.out | refine below_set ?_ GE202.out | refine below_set ?_ GE208.out) | exact HB.out))⟩)
          · skip
            refine box_step ?hg (N := 9) ?hd (cs := #[.int .u64 0, .int .u64 0]) (t := 83) ?hr ?_; (case hd => rfl); (case hg => rfl); (case hr => first | (go_simp; done) | (go_simp; rfl))
            intro gb208 hg w27 hbox hb
            have n0_ := Aside0.mk (blk_below (g := gb201) (o := .cells #[.int .i64 a1_0, .int .i64 a1_1] 55 (0, 0)) (by (with_reducible repeat (first | refine blk_drewN ?_ _ | refine blk_drew ?_ | refine blk_alloc ?_ _)); exact BK201.out) hb)
            have n1_ := Aside0.mk (blk_below (g := gb202) (o := .cells #[.int .i64 a2_0, .int .i64 a2_1] 55 (0, 0)) (by (with_reducible repeat (first | refine blk_drewN ?_ _ | refine blk_drew ?_ | refine blk_alloc ?_ _)); exact BK202.out) hb)
            have n2_ := Aside0.mk (below_step (by repeat (first | (with_reducible first | exact HB.out | apply below_alloc | apply pw_below_drewN | apply below_drew1 | refine below_set ?_ GE201.out | refine below_set ?_ GE202.out) | exact HB.out)) hb)
            have n3_ := Aside0.mk (hbox)
            have n4_ := Aside0.mk ((by rw [hg]; exact (below_size (by repeat (first | (with_reducible first | exact HB.out | apply below_alloc | apply pw_below_drewN | apply below_drew1 | refine below_set ?_ GE201.out | refine below_set ?_ GE202.out) | exact HB.out))) : w.heap.size ≤ gb208))
            have n5_ := Aside0.mk ((by rw [hg]; exact (below_size (by repeat (first | (with_reducible first | exact HB.out | apply below_alloc | apply pw_below_drewN | apply below_drew1 | refine below_set ?_ GE201.out | refine below_set ?_ GE202.out) | exact HB.out))) : w.heap.size ≤ gb208))
            have n6_ := Aside0.mk ((by rw [hg]; exact Nat.ne_of_lt (blk_lt (g := gb201) (o := .cells #[.int .i64 a1_0, .int .i64 a1_1] 55 (0, 0)) (by (with_reducible repeat (first | refine blk_drewN ?_ _ | refine blk_drew ?_ | refine blk_alloc ?_ _)); exact BK201.out)) : gb201 ≠ gb208))
            have n7_ := Aside0.mk ((by rw [hg]; exact Nat.ne_of_gt (blk_lt (g := gb201) (o := .cells #[.int .i64 a1_0, .int .i64 a1_1] 55 (0, 0)) (by (with_reducible repeat (first | refine blk_drewN ?_ _ | refine blk_drew ?_ | refine blk_alloc ?_ _)); exact BK201.out)) : gb208 ≠ gb201))
            have n8_ := Aside0.mk ((by rw [hg]; exact Nat.ne_of_lt (blk_lt (g := gb202) (o := .cells #[.int .i64 a2_0, .int .i64 a2_1] 55 (0, 0)) (by (with_reducible repeat (first | refine blk_drewN ?_ _ | refine blk_drew ?_ | refine blk_alloc ?_ _)); exact BK202.out)) : gb202 ≠ gb208))
            have n9_ := Aside0.mk ((by rw [hg]; exact Nat.ne_of_gt (blk_lt (g := gb202) (o := .cells #[.int .i64 a2_0, .int .i64 a2_1] 55 (0, 0)) (by (with_reducible repeat (first | refine blk_drewN ?_ _ | refine blk_drew ?_ | refine blk_alloc ?_ _)); exact BK202.out)) : gb208 ≠ gb202))
            clear BK201
            clear BK202
            clear HB
            have BK201 := n0_
            have BK202 := n1_
            have HB := n2_
            have BK208 := n3_
            have GW208 := n4_
            have GE208 := n5_
            have NB201_208 := n6_
            have NB208_201 := n7_
            have NB202_208 := n8_
            have NB208_202 := n9_
            clear n0_ n1_ n2_ n3_ n4_ n5_ n6_ n7_ n8_ n9_
            clear hb hbox hg
            refine hK.out _ _ ⟨(blk_cell BK202.out 0).trans rfl, (blk_cell BK202.out 1).trans rfl, (blk_cell BK201.out 0).trans rfl, (blk_cell BK201.out 1).trans rfl⟩ (fun hHeld => ?_)
            clear hK K
            refine norm_ (a' := ?_) ?_ ?_
            rotate_left
            · show Act.put _ (some 9) _ = _
              simp only [Act.put, List.setIfInBounds_toArray, List.set_cons_zero, List.set_cons_succ, i64_w, i32_w]
              rfl
            refine one_ (i := 1) (N := some 31) #[true, true, true, true, true, true, true, true, true, false, true, false] rfl rfl (one_of HT_.out (by kernel_rfl)) (by decide) (fun K hK => ?_)
            refine goes_ Try.func41 (by kernel_rfl) rfl #[.int .i64 a0] (by rfl) rfl rfl (by (try simp only [List.map_toArray, List.map_cons, List.map_nil]); first | done | rfl | (simp only [List.length_drop, List.length_take]; rfl)) ?_
            with_reducible refine (cutroomref01_mag.calls a0 t205 _ A19.out).mono ?_
            rintro e w' ⟨rfl, ⟨nd, rfl⟩⟩
            refine ⟨_, rfl, ?_⟩
            refine hK.out _ _ ⟨(blk_cell BK202.out 0).trans rfl, (blk_cell BK202.out 1).trans rfl, (blk_cell BK201.out 0).trans rfl, (blk_cell BK201.out 1).trans rfl⟩ (fun hHeld => ?_)
            clear hK K
            refine norm_ (a' := ?_) ?_ ?_
            rotate_left
            · show Act.put _ (some 31) _ = _
              simp only [Act.put, List.setIfInBounds_toArray, List.set_cons_zero, List.set_cons_succ, i64_w, i32_w]
              rfl
            refine one_ (i := 9) (N := some 39) #[true, true, true, true, true, true, true, true, true, true, true, false] rfl rfl (one_of HT_.out (by kernel_rfl)) (by decide) (fun K hK => ?_)
            refine goes_ Try.func43 (by kernel_rfl) rfl #[.int .u64 t205, .int .u64 (IntKind.u64.wrap ((IntKind.u64.wrap (a2_0)) * (IntKind.u64.wrap (a1_1))))] (by rfl) rfl rfl (by (try simp only [List.map_toArray, List.map_cons, List.map_nil]); first | done | rfl | (simp only [List.length_drop, List.length_take]; rfl)) ?_
            with_reducible refine (cutroomref01_times.calls t205 (IntKind.u64.wrap ((IntKind.u64.wrap (a2_0)) * (IntKind.u64.wrap (a1_1)))) t206 t207 _ A20.out).mono ?_
            rintro e w28 ⟨rfl, hb⟩
            refine ⟨_, rfl, ?_⟩
            have n0_ := Aside0.mk (blk_below (g := gb201) (o := .cells #[.int .i64 a1_0, .int .i64 a1_1] 55 (0, 0)) (by (with_reducible repeat (first | refine blk_drewN ?_ _ | refine blk_drew ?_ | refine blk_alloc ?_ _)); exact BK201.out) hb)
            have n1_ := Aside0.mk (blk_below (g := gb202) (o := .cells #[.int .i64 a2_0, .int .i64 a2_1] 55 (0, 0)) (by (with_reducible repeat (first | refine blk_drewN ?_ _ | refine blk_drew ?_ | refine blk_alloc ?_ _)); exact BK202.out) hb)
            have n2_ := Aside0.mk (blk_below (g := gb208) (o := .cells #[.int .u64 0, .int .u64 0] 83 (0, 0)) (by (with_reducible repeat (first | refine blk_drewN ?_ _ | refine blk_drew ?_ | refine blk_alloc ?_ _)); exact BK208.out) hb)
            have n3_ := Aside0.mk (below_step (by repeat (first | (with_reducible first | exact HB.out | apply below_alloc | apply pw_below_drewN | apply below_drew1 | refine below_set ?_ GE201.out | refine below_set ?_ GE202.out | refine below_set ?_ GE208.out) | exact HB.out)) hb)
            clear BK201
            clear BK202
            clear BK208
            clear HB
            have BK201 := n0_
            have BK202 := n1_
            have BK208 := n2_
            have HB := n3_
            clear n0_ n1_ n2_ n3_
            (try clear hb)
            (try clear hb2)
            (try clear hk)
            (try clear hi)
            refine hK.out _ _ ⟨(blk_cell BK202.out 0).trans rfl, (blk_cell BK202.out 1).trans rfl, (blk_cell BK201.out 0).trans rfl, (blk_cell BK201.out 1).trans rfl⟩ (fun hHeld => ?_)
            clear hK K
            refine norm_ (a' := ?_) ?_ ?_
            rotate_left
            · show Act.put _ (some 39) _ = _
              simp only [Act.put, List.setIfInBounds_toArray, List.set_cons_zero, List.set_cons_succ, i64_w, i32_w]
              rfl
            exact norm_ (by simp only [putAll, Act.put, List.setIfInBounds_toArray, List.set_cons_zero, List.set_cons_succ]) (hCont (gb208) _ ⟨hHeld, (by (with_reducible repeat (first | refine blk_drewN ?_ _ | refine blk_drew ?_ | refine blk_alloc ?_ _)); exact BK201.out), (by (with_reducible repeat (first | refine blk_drewN ?_ _ | refine blk_drew ?_ | refine blk_alloc ?_ _)); exact BK202.out), (by (with_reducible repeat (first | refine blk_drewN ?_ _ | refine blk_drew ?_ | refine blk_alloc ?_ _)); exact BK208.out), GW208.out, GE208.out, NB201_208.out, NB208_201.out, NB202_208.out, NB208_202.out, (by repeat (first | (with_reducible first | exact HB.out | apply below_alloc | apply pw_below_drewN | apply below_drew1 | refine below_set ?_ GE201.out | refine below_set ?_ GE202.out | refine below_set ?_ GE208.out) | exact HB.out))⟩)
        rintro gb208 w29 ⟨hS_, h0_, h1_, h2_, h3_, h4_, h5_, h6_, h7_, h8_, h9_⟩
        have n0_ : Aside0 (w29.heap[gb201]? = some (.cells #[.int .i64 a1_0, .int .i64 a1_1] 55 (0, 0))) := ⟨h0_⟩
        have n1_ : Aside0 (w29.heap[gb202]? = some (.cells #[.int .i64 a2_0, .int .i64 a2_1] 55 (0, 0))) := ⟨h1_⟩
        have n2_ : Aside0 (w29.heap[gb208]? = some (.cells #[.int .u64 0, .int .u64 0] 83 (0, 0))) := ⟨h2_⟩
        have n3_ : Aside0 (w.heap.size ≤ gb208) := ⟨h3_⟩
        have n4_ : Aside0 (w.heap.size ≤ gb208) := ⟨h4_⟩
        have n5_ : Aside0 (gb201 ≠ gb208) := ⟨h5_⟩
        have n6_ : Aside0 (gb208 ≠ gb201) := ⟨h6_⟩
        have n7_ : Aside0 (gb202 ≠ gb208) := ⟨h7_⟩
        have n8_ : Aside0 (gb208 ≠ gb202) := ⟨h8_⟩
        have n9_ : Aside0 (Below w.heap.size w w29) := ⟨h9_⟩
        clear BK201
        clear BK202
        clear HB
        clear h0_ h1_ h2_ h3_ h4_ h5_ h6_ h7_ h8_ h9_
        have BK201 := n0_
        have BK202 := n1_
        have BK208 := n2_
        have GW208 := n3_
        have GE208 := n4_
        have NB201_208 := n5_
        have NB208_201 := n6_
        have NB202_208 := n7_
        have NB208_202 := n8_
        have HB := n9_
        clear n0_ n1_ n2_ n3_ n4_ n5_ n6_ n7_ n8_ n9_
        have hHeld : w29.cell? ⟨gb202, 0, none⟩ = some (.int .i64 a2_0) ∧ w29.cell? ⟨gb202, 1, none⟩ = some (.int .i64 a2_1) ∧ w29.cell? ⟨gb201, 0, none⟩ = some (.int .i64 a1_0) ∧ w29.cell? ⟨gb201, 1, none⟩ = some (.int .i64 a1_1) := hS_
        refine norm_ (a' := ?_) ?_ ?_
        rotate_left
        · simp only [putAll, Act.put, List.setIfInBounds_toArray, List.set_cons_zero, List.set_cons_succ]
          rfl
        refine one_ (i := 11) (N := none) #[true, true, true, true, true, true, true, true, true, true, true, true] rfl rfl (one_of HT_.out (by kernel_rfl)) (by decide) (fun K hK => ?_)
        have hs30 : w29.cell? ⟨gb208, 0, none⟩ = some (.int .u64 0) := (blk_cell BK208.out 0).trans rfl
        have hfs30 := blk_frozen BK208.out 0
        have hns30_0 := NB201_208.out
        have hns30_1 := NB202_208.out
        have hms30_0 := NB208_201.out
        have hms30_1 := NB208_202.out
        have hs31 : w29.cell? ⟨gb208, 1, none⟩ = some (.int .u64 0) := (blk_cell BK208.out 1).trans rfl
        have hfs31 := blk_frozen BK208.out 1
        have hns31_0 := NB201_208.out
        have hns31_1 := NB202_208.out
        have hms31_0 := NB208_201.out
        have hms31_1 := NB208_202.out
        refine skip_ (w1 := ?_) (by rfl) rfl ?_ ?_
        rotate_left
        · go_simp
          rfl
        refine hK.out _ _ ⟨((cell_far (p := ⟨gb208, _, none⟩) NB202_208.out _).trans (((cell_far (p := ⟨gb208, _, none⟩) NB202_208.out _).trans (hHeld.1)))), ((cell_far (p := ⟨gb208, _, none⟩) NB202_208.out _).trans (((cell_far (p := ⟨gb208, _, none⟩) NB202_208.out _).trans (hHeld.2.1)))), ((cell_far (p := ⟨gb208, _, none⟩) NB201_208.out _).trans (((cell_far (p := ⟨gb208, _, none⟩) NB201_208.out _).trans (hHeld.2.2.1)))), ((cell_far (p := ⟨gb208, _, none⟩) NB201_208.out _).trans (((cell_far (p := ⟨gb208, _, none⟩) NB201_208.out _).trans (hHeld.2.2.2))))⟩ (fun hHeld => ?_)
        clear hK K
        refine done_ (done_of HT_.out (by kernel_rfl)) ?_
        have hnb32 := NB208_201.out
        have hnc32 := NB201_208.out
        have hnb33 := NB208_202.out
        have hnc33 := NB202_208.out
        have hcz34_0 : w29.cell? ⟨gb208, 0, none⟩ = some (.int .u64 0) := (blk_cell BK208.out 0).trans rfl
        have hcz34_1 : w29.cell? ⟨gb208, 1, none⟩ = some (.int .u64 0) := (blk_cell BK208.out 1).trans rfl
        have hfz34_0 := blk_frozen BK208.out 0
        have hfz34_1 := blk_frozen BK208.out 1
        go_upto_region 6 with (first | ((with_reducible refine gate_callee (f := 44) rfl ?_); refine goesL_ (some 42) rfl rfl Try.func44 (by kernel_rfl) rfl #[.agg #[.int .u64 t206, .int .u64 t207], .agg #[.int .u64 t206, .int .u64 t207]] rfl (by (try simp only [List.map_toArray, List.map_cons, List.map_nil]); first | done | rfl | (simp only [List.length_drop, List.length_take]; rfl)) ?_; (with_reducible refine (cutroomref01_plus.calls t206 t207 t206 t207 t209 t210 _ A21.out).mono ?_); rintro e w35 ⟨rfl, hb⟩; refine ⟨_, rfl, ?_⟩; have n0_ := Aside0.mk (blk_below (g := gb201) (o := .cells #[.int .i64 a1_0, .int .i64 a1_1] 55 (0, 0)) (by (with_reducible repeat (first | refine blk_drewN ?_ _ | refine blk_drew ?_ | refine blk_alloc ?_ _)); refine blk_far ?_ NB201_208.out _; (with_reducible repeat (first | refine blk_drewN ?_ _ | refine blk_drew ?_ | refine blk_alloc ?_ _)); refine blk_far ?_ NB201_208.out _; (with_reducible repeat (first | refine blk_drewN ?_ _ | refine blk_drew ?_ | refine blk_alloc ?_ _)); exact BK201.out) hb); have n1_ := Aside0.mk (blk_below (g := gb202) (o := .cells #[.int .i64 a2_0, .int .i64 a2_1] 55 (0, 0)) (by (with_reducible repeat (first | refine blk_drewN ?_ _ | refine blk_drew ?_ | refine blk_alloc ?_ _)); refine blk_far ?_ NB202_208.out _; (with_reducible repeat (first | refine blk_drewN ?_ _ | refine blk_drew ?_ | refine blk_alloc ?_ _)); refine blk_far ?_ NB202_208.out _; (with_reducible repeat (first | refine blk_drewN ?_ _ | refine blk_drew ?_ | refine blk_alloc ?_ _)); exact BK202.out) hb); have n2_ := Aside0.mk (blk_below (g := gb208) (o := .cells #[.int .u64 t206, .int .u64 t207] 83 (0, 0)) (by (with_reducible repeat (first | refine blk_drewN ?_ _ | refine blk_drew ?_ | refine blk_alloc ?_ _)); refine blk_put (cs := #[.int .u64 t206, .int .u64 0]) ?_ 1 _ rfl; (with_reducible repeat (first | refine blk_drewN ?_ _ | refine blk_drew ?_ | refine blk_alloc ?_ _)); refine blk_put (cs := #[.int .u64 0, .int .u64 0]) ?_ 0 _ rfl; (with_reducible repeat (first | refine blk_drewN ?_ _ | refine blk_drew ?_ | refine blk_alloc ?_ _)); exact BK208.out) hb); have n3_ := Aside0.mk (below_step (by repeat (first | (with_reducible first | exact HB.out | apply below_alloc | apply pw_below_drewN | apply below_drew1 | refine below_set ?_ GE201.out | refine below_set ?_ GE202.out | refine below_set ?_ GE208.out) | exact HB.out)) hb); clear BK201; clear BK202; clear BK208; clear HB; have BK201 := n0_; have BK202 := n1_; have BK208 := n2_; have HB := n3_; clear n0_ n1_ n2_ n3_; (try clear hb); (try clear hb2); (try clear hk); (try clear hi); have hcz36_0 : w35.cell? ⟨gb208, 0, none⟩ = some (.int .u64 t206) := (blk_cell BK208.out 0).trans rfl; have hcz36_1 : w35.cell? ⟨gb208, 1, none⟩ = some (.int .u64 t207) := (blk_cell BK208.out 1).trans rfl; have hfz36_0 := blk_frozen BK208.out 0; have hfz36_1 := blk_frozen BK208.out 1))
        (try simp only [Act.put, List.setIfInBounds_toArray, List.set_cons_zero, List.set_cons_succ])
        go_cut [51] (fun v51 wc => ∃ (kq : Nat) (x51_21 : Bool), v51 = .bool x51_21 ∧ Aside0 (cutroomref01_Position.j1 kq a0 (IntKind.u64.wrap ((IntKind.u64.wrap (a2_1)) * (IntKind.u64.wrap (a1_0)))) x51_21 t209 t210 = some (r1, r2)) ∧ Aside0 (kq ≤ kj3) ∧ Aside0 (wc.heap[gb201]? = some (.cells #[.int .i64 a1_0, .int .i64 a1_1] 55 (0, 0))) ∧ Aside0 (wc.heap[gb202]? = some (.cells #[.int .i64 a2_0, .int .i64 a2_1] 55 (0, 0))) ∧ Aside0 (wc.heap[gb208]? = some (.cells #[.int .u64 t209, .int .u64 t210] 83 (0, 0))) ∧ Aside0 (Below w.heap.size w wc))
        case first =>
          have H := HC22.out
          clear HC22
          by_cases c37 : a0 < 0
          · rw [if_pos c37] at H
            have c37b0 : decide (a0 < 0) = true := decide_eq_true c37
            clear c37
            (first | rw [c37b0] | (simp only [i64_w, i32_w]; rw [c37b0]) | skip)
            replace H := Option.bind_eq_some_iff.mp H
            obtain ⟨t211, A380, H⟩ := H
            replace H : (cutroomref01_Position.j1 kj3 a0 (IntKind.u64.wrap ((IntKind.u64.wrap (a2_1)) * (IntKind.u64.wrap (a1_0)))) (!t211) t209 t210) = some (r1, r2) := H
            have A38 := Aside0.mk A380
            clear A380
            have H' := Aside0.mk H
            clear H
            have hnb39 := NB208_201.out
            have hnc39 := NB201_208.out
            have hnb40 := NB208_202.out
            have hnc40 := NB202_208.out
            have hcz41_0 : w35.cell? ⟨gb208, 0, none⟩ = some (.int .u64 t206) := (blk_cell BK208.out 0).trans rfl
            have hcz41_1 : w35.cell? ⟨gb208, 1, none⟩ = some (.int .u64 t207) := (blk_cell BK208.out 1).trans rfl
            have hfz41_0 := blk_frozen BK208.out 0
            have hfz41_1 := blk_frozen BK208.out 1
            go_wp2_with (first | (go_at_call 45; (with_reducible refine (cutroomref01_less.calls 0 (IntKind.u64.wrap ((IntKind.u64.wrap (a2_1)) * (IntKind.u64.wrap (a1_0)))) t209 t210 t211 _ A38.out).mono ?_); rintro e w42 ⟨rfl, hb⟩; have n0_ := Aside0.mk (blk_below (g := gb201) (o := .cells #[.int .i64 a1_0, .int .i64 a1_1] 55 (0, 0)) (by (with_reducible repeat (first | refine blk_drewN ?_ _ | refine blk_drew ?_ | refine blk_alloc ?_ _)); refine blk_far ?_ NB201_208.out _; (with_reducible repeat (first | refine blk_drewN ?_ _ | refine blk_drew ?_ | refine blk_alloc ?_ _)); refine blk_far ?_ NB201_208.out _; (with_reducible repeat (first | refine blk_drewN ?_ _ | refine blk_drew ?_ | refine blk_alloc ?_ _)); exact BK201.out) hb); have n1_ := Aside0.mk (blk_below (g := gb202) (o := .cells #[.int .i64 a2_0, .int .i64 a2_1] 55 (0, 0)) (by (with_reducible repeat (first | refine blk_drewN ?_ _ | refine blk_drew ?_ | refine blk_alloc ?_ _)); refine blk_far ?_ NB202_208.out _; (with_reducible repeat (first | refine blk_drewN ?_ _ | refine blk_drew ?_ | refine blk_alloc ?_ _)); refine blk_far ?_ NB202_208.out _; (with_reducible repeat (first | refine blk_drewN ?_ _ | refine blk_drew ?_ | refine blk_alloc ?_ _)); exact BK202.out) hb); have n2_ := Aside0.mk (blk_below (g := gb208) (o := .cells #[.int .u64 t209, .int .u64 t210] 83 (0, 0)) (by (with_reducible repeat (first | refine blk_drewN ?_ _ | refine blk_drew ?_ | refine blk_alloc ?_ _)); refine blk_put (cs := #[.int .u64 t209, .int .u64 t207]) ?_ 1 _ rfl; (with_reducible repeat (first | refine blk_drewN ?_ _ | refine blk_drew ?_ | refine blk_alloc ?_ _)); refine blk_put (cs := #[.int .u64 t206, .int .u64 t207]) ?_ 0 _ rfl; (with_reducible repeat (first | refine blk_drewN ?_ _ | refine blk_drew ?_ | refine blk_alloc ?_ _)); exact BK208.out) hb); have n3_ := Aside0.mk (below_step (by repeat (first | (with_reducible first | exact HB.out | apply below_alloc | apply pw_below_drewN | apply below_drew1 | refine below_set ?_ GE201.out | refine below_set ?_ GE202.out | refine below_set ?_ GE208.out) | exact HB.out)) hb); clear BK201; clear BK202; clear BK208; clear HB; have BK201 := n0_; have BK202 := n1_; have BK208 := n2_; have HB := n3_; clear n0_ n1_ n2_ n3_; (try clear hb); (try clear hb2); (try clear hk); (try clear hi)))
            go_meet
            case rel => exact ⟨_, (!t211), (by first | rfl | (simp; done) | (simp [*]; done)), H', ⟨by have := HJ3.out; first | omega | exact Nat.le_refl _⟩, ⟨by (with_reducible repeat (first | refine blk_drewN ?_ _ | refine blk_drew ?_ | refine blk_alloc ?_ _)); exact BK201.out⟩, ⟨by (with_reducible repeat (first | refine blk_drewN ?_ _ | refine blk_drew ?_ | refine blk_alloc ?_ _)); exact BK202.out⟩, ⟨by (with_reducible repeat (first | refine blk_drewN ?_ _ | refine blk_drew ?_ | refine blk_alloc ?_ _)); exact BK208.out⟩, ⟨by repeat (first | (with_reducible first | exact HB.out | apply below_alloc | apply pw_below_drewN | apply below_drew1 | refine below_set ?_ GE201.out | refine below_set ?_ GE202.out | refine below_set ?_ GE208.out) | exact HB.out)⟩⟩
          · rw [if_neg c37] at H
            have c37b0 : decide (a0 < 0) = false := decide_eq_false c37
            clear c37
            (first | rw [c37b0] | (simp only [i64_w, i32_w]; rw [c37b0]) | skip)
            have H' := Aside0.mk H
            clear H
            go_wp2
            go_meet
            case rel => exact ⟨_, (false), (by first | rfl | (simp; done) | (simp [*]; done)), H', ⟨by have := HJ3.out; first | omega | exact Nat.le_refl _⟩, ⟨by (with_reducible repeat (first | refine blk_drewN ?_ _ | refine blk_drew ?_ | refine blk_alloc ?_ _)); refine blk_far ?_ NB201_208.out _; (with_reducible repeat (first | refine blk_drewN ?_ _ | refine blk_drew ?_ | refine blk_alloc ?_ _)); refine blk_far ?_ NB201_208.out _; (with_reducible repeat (first | refine blk_drewN ?_ _ | refine blk_drew ?_ | refine blk_alloc ?_ _)); exact BK201.out⟩, ⟨by (with_reducible repeat (first | refine blk_drewN ?_ _ | refine blk_drew ?_ | refine blk_alloc ?_ _)); refine blk_far ?_ NB202_208.out _; (with_reducible repeat (first | refine blk_drewN ?_ _ | refine blk_drew ?_ | refine blk_alloc ?_ _)); refine blk_far ?_ NB202_208.out _; (with_reducible repeat (first | refine blk_drewN ?_ _ | refine blk_drew ?_ | refine blk_alloc ?_ _)); exact BK202.out⟩, ⟨by (with_reducible repeat (first | refine blk_drewN ?_ _ | refine blk_drew ?_ | refine blk_alloc ?_ _)); refine blk_put (cs := #[.int .u64 t209, .int .u64 t207]) ?_ 1 _ rfl; (with_reducible repeat (first | refine blk_drewN ?_ _ | refine blk_drew ?_ | refine blk_alloc ?_ _)); refine blk_put (cs := #[.int .u64 t206, .int .u64 t207]) ?_ 0 _ rfl; (with_reducible repeat (first | refine blk_drewN ?_ _ | refine blk_drew ?_ | refine blk_alloc ?_ _)); exact BK208.out⟩, ⟨by repeat (first | (with_reducible first | exact HB.out | apply below_alloc | apply pw_below_drewN | apply below_drew1 | refine below_set ?_ GE201.out | refine below_set ?_ GE202.out | refine below_set ?_ GE208.out) | exact HB.out)⟩⟩
        case rest =>
          clear HC22
          try clear c1
          try clear c2
          try clear p2
          try clear c3
          try clear c4
          try clear c8
          try clear c10
          try clear c15
          try clear c18
          try clear c23
          try clear c27
          try clear c32
          try clear c33
          try clear c37
          try clear c37b0
          try clear c39
          try clear c40
          try clear c41
          try clear c42
          try clear hcz11_0
          try clear hcz11_1
          try clear hcz13_0
          try clear hcz13_1
          try clear hcz16_0
          try clear hcz16_1
          try clear hcz24_0
          try clear hcz24_1
          try clear hcz25_0
          try clear hcz25_1
          try clear hcz34_0
          try clear hcz34_1
          try clear hcz36_0
          try clear hcz36_1
          try clear hcz41_0
          try clear hcz41_1
          try clear hfz11_0
          try clear hfz11_1
          try clear hfz13_0
          try clear hfz13_1
          try clear hfz16_0
          try clear hfz16_1
          try clear hfz24_0
          try clear hfz24_1
          try clear hfz25_0
          try clear hfz25_1
          try clear hfz34_0
          try clear hfz34_1
          try clear hfz36_0
          try clear hfz36_1
          try clear hfz41_0
          try clear hfz41_1
          try clear p2
          obtain ⟨kq, x51_21, rfl, HA, HJ21, BK201, BK202, BK208, HB⟩ := hcut
          cases kq with
          | zero => exact absurd HA.out (by simp [cutroomref01_Position.j1])
          | succ kj21 =>
            have H := HA.out
            clear HA
            simp only [cutroomref01_Position.j1] at H
            by_cases c43 : x51_21 = true
            · subst c43
              have H1 : (some (0, 0)) = some (r1, r2) := by rw [if_pos rfl] at H; exact H
              clear H
              have H := H1
              clear H1
              simp only [Option.some.injEq, Prod.mk.injEq] at H
              obtain ⟨rfl, rfl⟩ := H
              go_wp2
              go_ret2
              exact ⟨by first | rfl | (simp [errW_none, errW_some] <;> rfl) | (simp [*, errW_none, errW_some] <;> rfl), by repeat (first | (with_reducible first | exact HB.out | apply below_alloc | apply pw_below_drewN | apply below_drew1 | refine below_set ?_ GE201.out | refine below_set ?_ GE202.out | refine below_set ?_ GE208.out) | exact HB.out)⟩
            · replace c43 := Bool.eq_false_iff.mpr c43
              subst c43
              have H1 : (if a0 < 0 then ((cutroomref01_minus.f t209 t210 0 (IntKind.u64.wrap ((IntKind.u64.wrap (a2_1)) * (IntKind.u64.wrap (a1_0))))).bind fun bt212 => (cutroomref01_Position.j2 kj21 (IntKind.u64.wrap ((IntKind.u64.wrap (a2_1)) * (IntKind.u64.wrap (a1_0)))) true bt212.1 bt212.2)) else ((cutroomref01_plus.f t209 t210 0 (IntKind.u64.wrap ((IntKind.u64.wrap (a2_1)) * (IntKind.u64.wrap (a1_0))))).bind fun bt214 => (cutroomref01_Position.j2 kj21 (IntKind.u64.wrap ((IntKind.u64.wrap (a2_1)) * (IntKind.u64.wrap (a1_0)))) false bt214.1 bt214.2))) = some (r1, r2) := by rw [if_neg (show ¬ (false = true) by decide)] at H; exact H
              clear H
              have H := H1
              clear H1
              have HC44 := Aside0.mk H
              clear H
              go_upto_if 54 with (fail)
              go_cut [10] (fun v10 wc => ∃ (kq : Nat) (x10_43 : Bool) (x209000_43 : Int) (x209001_43 : Int), v10 = .bool x10_43 ∧ Aside0 (cutroomref01_Position.j2 kq (IntKind.u64.wrap ((IntKind.u64.wrap (a2_1)) * (IntKind.u64.wrap (a1_0)))) x10_43 x209000_43 x209001_43 = some (r1, r2)) ∧ Aside0 (kq ≤ kj21) ∧ Aside0 (wc.heap[gb201]? = some (.cells #[.int .i64 a1_0, .int .i64 a1_1] 55 (0, 0))) ∧ Aside0 (wc.heap[gb202]? = some (.cells #[.int .i64 a2_0, .int .i64 a2_1] 55 (0, 0))) ∧ Aside0 (wc.heap[gb208]? = some (.cells #[.int .u64 x209000_43, .int .u64 x209001_43] 83 (0, 0))) ∧ Aside0 (Below w.heap.size w wc))
              case first =>
                have H := HC44.out
                clear HC44
                by_cases c45 : a0 < 0
                · rw [if_pos c45] at H
                  have c45b0 : decide (a0 < 0) = true := decide_eq_true c45
                  clear c45
                  (first | rw [c45b0] | (simp only [i64_w, i32_w]; rw [c45b0]) | skip)
                  replace H := Option.bind_eq_some_iff.mp H
                  obtain ⟨⟨t212, t213⟩, A460, H⟩ := H
                  replace H : (cutroomref01_Position.j2 kj21 (IntKind.u64.wrap ((IntKind.u64.wrap (a2_1)) * (IntKind.u64.wrap (a1_0)))) true t212 t213) = some (r1, r2) := H
                  have A46 := Aside0.mk A460
                  clear A460
                  have H' := Aside0.mk H
                  clear H
                  have hnb47 := NB208_201.out
                  have hnc47 := NB201_208.out
                  have hnb48 := NB208_202.out
                  have hnc48 := NB202_208.out
                  have hcz49_0 : wc.cell? ⟨gb208, 0, none⟩ = some (.int .u64 t209) := (blk_cell BK208.out 0).trans rfl
                  have hcz49_1 : wc.cell? ⟨gb208, 1, none⟩ = some (.int .u64 t210) := (blk_cell BK208.out 1).trans rfl
                  have hfz49_0 := blk_frozen BK208.out 0
                  have hfz49_1 := blk_frozen BK208.out 1
                  go_wp2_with (first | ((with_reducible refine gate_callee (f := 46) rfl ?_); refine goesL_ (some 58) rfl rfl Try.func46 (by kernel_rfl) rfl #[.agg #[.int .u64 t209, .int .u64 t210], .agg #[.int .u64 0, .int .u64 (IntKind.u64.wrap ((IntKind.u64.wrap (a2_1)) * (IntKind.u64.wrap (a1_0))))]] rfl (by (try simp only [List.map_toArray, List.map_cons, List.map_nil]); first | done | rfl | (simp only [List.length_drop, List.length_take]; rfl)) ?_; (with_reducible refine (cutroomref01_minus.calls t209 t210 0 (IntKind.u64.wrap ((IntKind.u64.wrap (a2_1)) * (IntKind.u64.wrap (a1_0)))) t212 t213 _ A46.out).mono ?_); rintro e w50 ⟨rfl, hb⟩; refine ⟨_, rfl, ?_⟩; have n0_ := Aside0.mk (blk_below (g := gb201) (o := .cells #[.int .i64 a1_0, .int .i64 a1_1] 55 (0, 0)) (by (with_reducible repeat (first | refine blk_drewN ?_ _ | refine blk_drew ?_ | refine blk_alloc ?_ _)); exact BK201.out) hb); have n1_ := Aside0.mk (blk_below (g := gb202) (o := .cells #[.int .i64 a2_0, .int .i64 a2_1] 55 (0, 0)) (by (with_reducible repeat (first | refine blk_drewN ?_ _ | refine blk_drew ?_ | refine blk_alloc ?_ _)); exact BK202.out) hb); have n2_ := Aside0.mk (blk_below (g := gb208) (o := .cells #[.int .u64 t209, .int .u64 t210] 83 (0, 0)) (by (with_reducible repeat (first | refine blk_drewN ?_ _ | refine blk_drew ?_ | refine blk_alloc ?_ _)); exact BK208.out) hb); have n3_ := Aside0.mk (below_step (by repeat (first | (with_reducible first | exact HB.out | apply below_alloc | apply pw_below_drewN | apply below_drew1 | refine below_set ?_ GE201.out | refine below_set ?_ GE202.out | refine below_set ?_ GE208.out) | exact HB.out)) hb); clear BK201; clear BK202; clear BK208; clear HB; have BK201 := n0_; have BK202 := n1_; have BK208 := n2_; have HB := n3_; clear n0_ n1_ n2_ n3_; (try clear hb); (try clear hb2); (try clear hk); (try clear hi); have hcz51_0 : w50.cell? ⟨gb208, 0, none⟩ = some (.int .u64 t209) := (blk_cell BK208.out 0).trans rfl; have hcz51_1 : w50.cell? ⟨gb208, 1, none⟩ = some (.int .u64 t210) := (blk_cell BK208.out 1).trans rfl; have hfz51_0 := blk_frozen BK208.out 0; have hfz51_1 := blk_frozen BK208.out 1))
                  go_meet
                  case rel => exact ⟨_, (true), (t212), (t213), (by first | rfl | (simp; done) | (simp [*]; done)), H', ⟨by have := HJ3.out; have := HJ21.out; first | omega | exact Nat.le_refl _⟩, ⟨by (with_reducible repeat (first | refine blk_drewN ?_ _ | refine blk_drew ?_ | refine blk_alloc ?_ _)); refine blk_far ?_ NB201_208.out _; (with_reducible repeat (first | refine blk_drewN ?_ _ | refine blk_drew ?_ | refine blk_alloc ?_ _)); refine blk_far ?_ NB201_208.out _; (with_reducible repeat (first | refine blk_drewN ?_ _ | refine blk_drew ?_ | refine blk_alloc ?_ _)); exact BK201.out⟩, ⟨by (with_reducible repeat (first | refine blk_drewN ?_ _ | refine blk_drew ?_ | refine blk_alloc ?_ _)); refine blk_far ?_ NB202_208.out _; (with_reducible repeat (first | refine blk_drewN ?_ _ | refine blk_drew ?_ | refine blk_alloc ?_ _)); refine blk_far ?_ NB202_208.out _; (with_reducible repeat (first | refine blk_drewN ?_ _ | refine blk_drew ?_ | refine blk_alloc ?_ _)); exact BK202.out⟩, ⟨by (with_reducible repeat (first | refine blk_drewN ?_ _ | refine blk_drew ?_ | refine blk_alloc ?_ _)); refine blk_put (cs := #[.int .u64 t212, .int .u64 t210]) ?_ 1 _ rfl; (with_reducible repeat (first | refine blk_drewN ?_ _ | refine blk_drew ?_ | refine blk_alloc ?_ _)); refine blk_put (cs := #[.int .u64 t209, .int .u64 t210]) ?_ 0 _ rfl; (with_reducible repeat (first | refine blk_drewN ?_ _ | refine blk_drew ?_ | refine blk_alloc ?_ _)); exact BK208.out⟩, ⟨by repeat (first | (with_reducible first | exact HB.out | apply below_alloc | apply pw_below_drewN | apply below_drew1 | refine below_set ?_ GE201.out | refine below_set ?_ GE202.out | refine below_set ?_ GE208.out) | exact HB.out)⟩⟩
                · rw [if_neg c45] at H
                  have c45b0 : decide (a0 < 0) = false := decide_eq_false c45
                  clear c45
                  (first | rw [c45b0] | (simp only [i64_w, i32_w]; rw [c45b0]) | skip)
                  replace H := Option.bind_eq_some_iff.mp H
                  obtain ⟨⟨t214, t215⟩, A520, H⟩ := H
                  replace H : (cutroomref01_Position.j2 kj21 (IntKind.u64.wrap ((IntKind.u64.wrap (a2_1)) * (IntKind.u64.wrap (a1_0)))) false t214 t215) = some (r1, r2) := H
                  have A52 := Aside0.mk A520
                  clear A520
                  have H' := Aside0.mk H
                  clear H
                  have hnb53 := NB208_201.out
                  have hnc53 := NB201_208.out
                  have hnb54 := NB208_202.out
                  have hnc54 := NB202_208.out
                  have hcz55_0 : wc.cell? ⟨gb208, 0, none⟩ = some (.int .u64 t209) := (blk_cell BK208.out 0).trans rfl
                  have hcz55_1 : wc.cell? ⟨gb208, 1, none⟩ = some (.int .u64 t210) := (blk_cell BK208.out 1).trans rfl
                  have hfz55_0 := blk_frozen BK208.out 0
                  have hfz55_1 := blk_frozen BK208.out 1
                  go_wp2_with (first | ((with_reducible refine gate_callee (f := 44) rfl ?_); refine goesL_ (some 62) rfl rfl Try.func44 (by kernel_rfl) rfl #[.agg #[.int .u64 t209, .int .u64 t210], .agg #[.int .u64 0, .int .u64 (IntKind.u64.wrap ((IntKind.u64.wrap (a2_1)) * (IntKind.u64.wrap (a1_0))))]] rfl (by (try simp only [List.map_toArray, List.map_cons, List.map_nil]); first | done | rfl | (simp only [List.length_drop, List.length_take]; rfl)) ?_; (with_reducible refine (cutroomref01_plus.calls t209 t210 0 (IntKind.u64.wrap ((IntKind.u64.wrap (a2_1)) * (IntKind.u64.wrap (a1_0)))) t214 t215 _ A52.out).mono ?_); rintro e w56 ⟨rfl, hb⟩; refine ⟨_, rfl, ?_⟩; have n0_ := Aside0.mk (blk_below (g := gb201) (o := .cells #[.int .i64 a1_0, .int .i64 a1_1] 55 (0, 0)) (by (with_reducible repeat (first | refine blk_drewN ?_ _ | refine blk_drew ?_ | refine blk_alloc ?_ _)); exact BK201.out) hb); have n1_ := Aside0.mk (blk_below (g := gb202) (o := .cells #[.int .i64 a2_0, .int .i64 a2_1] 55 (0, 0)) (by (with_reducible repeat (first | refine blk_drewN ?_ _ | refine blk_drew ?_ | refine blk_alloc ?_ _)); exact BK202.out) hb); have n2_ := Aside0.mk (blk_below (g := gb208) (o := .cells #[.int .u64 t209, .int .u64 t210] 83 (0, 0)) (by (with_reducible repeat (first | refine blk_drewN ?_ _ | refine blk_drew ?_ | refine blk_alloc ?_ _)); exact BK208.out) hb); have n3_ := Aside0.mk (below_step (by repeat (first | (with_reducible first | exact HB.out | apply below_alloc | apply pw_below_drewN | apply below_drew1 | refine below_set ?_ GE201.out | refine below_set ?_ GE202.out | refine below_set ?_ GE208.out) | exact HB.out)) hb); clear BK201; clear BK202; clear BK208; clear HB; have BK201 := n0_; have BK202 := n1_; have BK208 := n2_; have HB := n3_; clear n0_ n1_ n2_ n3_; (try clear hb); (try clear hb2); (try clear hk); (try clear hi); have hcz57_0 : w56.cell? ⟨gb208, 0, none⟩ = some (.int .u64 t209) := (blk_cell BK208.out 0).trans rfl; have hcz57_1 : w56.cell? ⟨gb208, 1, none⟩ = some (.int .u64 t210) := (blk_cell BK208.out 1).trans rfl; have hfz57_0 := blk_frozen BK208.out 0; have hfz57_1 := blk_frozen BK208.out 1))
                  go_meet
                  case rel => exact ⟨_, (false), (t214), (t215), (by first | rfl | (simp; done) | (simp [*]; done)), H', ⟨by have := HJ3.out; have := HJ21.out; first | omega | exact Nat.le_refl _⟩, ⟨by (with_reducible repeat (first | refine blk_drewN ?_ _ | refine blk_drew ?_ | refine blk_alloc ?_ _)); refine blk_far ?_ NB201_208.out _; (with_reducible repeat (first | refine blk_drewN ?_ _ | refine blk_drew ?_ | refine blk_alloc ?_ _)); refine blk_far ?_ NB201_208.out _; (with_reducible repeat (first | refine blk_drewN ?_ _ | refine blk_drew ?_ | refine blk_alloc ?_ _)); exact BK201.out⟩, ⟨by (with_reducible repeat (first | refine blk_drewN ?_ _ | refine blk_drew ?_ | refine blk_alloc ?_ _)); refine blk_far ?_ NB202_208.out _; (with_reducible repeat (first | refine blk_drewN ?_ _ | refine blk_drew ?_ | refine blk_alloc ?_ _)); refine blk_far ?_ NB202_208.out _; (with_reducible repeat (first | refine blk_drewN ?_ _ | refine blk_drew ?_ | refine blk_alloc ?_ _)); exact BK202.out⟩, ⟨by (with_reducible repeat (first | refine blk_drewN ?_ _ | refine blk_drew ?_ | refine blk_alloc ?_ _)); refine blk_put (cs := #[.int .u64 t214, .int .u64 t210]) ?_ 1 _ rfl; (with_reducible repeat (first | refine blk_drewN ?_ _ | refine blk_drew ?_ | refine blk_alloc ?_ _)); refine blk_put (cs := #[.int .u64 t209, .int .u64 t210]) ?_ 0 _ rfl; (with_reducible repeat (first | refine blk_drewN ?_ _ | refine blk_drew ?_ | refine blk_alloc ?_ _)); exact BK208.out⟩, ⟨by repeat (first | (with_reducible first | exact HB.out | apply below_alloc | apply pw_below_drewN | apply below_drew1 | refine below_set ?_ GE201.out | refine below_set ?_ GE202.out | refine below_set ?_ GE208.out) | exact HB.out)⟩⟩
              case rest =>
                clear HC44
                try clear c1
                try clear c2
                try clear p2
                try clear c3
                try clear c4
                try clear c5
                try clear c8
                try clear c10
                try clear c15
                try clear c18
                try clear c23
                try clear c27
                try clear c32
                try clear c33
                try clear c37
                try clear c37b0
                try clear c39
                try clear c40
                try clear c41
                try clear c42
                try clear c43
                try clear c44
                try clear c45
                try clear c45b0
                try clear c46
                try clear c47
                try clear c48
                try clear c53
                try clear c54
                try clear hcz11_0
                try clear hcz11_1
                try clear hcz13_0
                try clear hcz13_1
                try clear hcz16_0
                try clear hcz16_1
                try clear hcz24_0
                try clear hcz24_1
                try clear hcz25_0
                try clear hcz25_1
                try clear hcz34_0
                try clear hcz34_1
                try clear hcz36_0
                try clear hcz36_1
                try clear hcz41_0
                try clear hcz41_1
                try clear hcz49_0
                try clear hcz49_1
                try clear hcz51_0
                try clear hcz51_1
                try clear hcz55_0
                try clear hcz55_1
                try clear hcz57_0
                try clear hcz57_1
                try clear hfz11_0
                try clear hfz11_1
                try clear hfz13_0
                try clear hfz13_1
                try clear hfz16_0
                try clear hfz16_1
                try clear hfz24_0
                try clear hfz24_1
                try clear hfz25_0
                try clear hfz25_1
                try clear hfz34_0
                try clear hfz34_1
                try clear hfz36_0
                try clear hfz36_1
                try clear hfz41_0
                try clear hfz41_1
                try clear hfz49_0
                try clear hfz49_1
                try clear hfz51_0
                try clear hfz51_1
                try clear hfz55_0
                try clear hfz55_1
                try clear hfz57_0
                try clear hfz57_1
                try clear p2
                obtain ⟨kq, x10_43, x209000_43, x209001_43, rfl, HA, HJ43, BK201, BK202, BK208, HB⟩ := hcut
                cases kq with
                | zero => exact absurd HA.out (by simp [cutroomref01_Position.j2])
                | succ kj43 =>
                  have H := HA.out
                  clear HA
                  simp only [cutroomref01_Position.j2] at H
                  replace H := Option.bind_eq_some_iff.mp H
                  obtain ⟨⟨t216, t217, t218⟩, A580, H⟩ := H
                  replace H : (if t218 = true then (cutroomref01_Position.j3 kj43 x10_43 t216 t217 (decide (t216 > 9223372036854775808))) else (cutroomref01_Position.j3 kj43 x10_43 t216 t217 true)) = some (r1, r2) := H
                  have A58 := Aside0.mk A580
                  clear A580
                  have HC59 := Aside0.mk H
                  clear H
                  have hnb60 := NB208_201.out
                  have hnc60 := NB201_208.out
                  have hnb61 := NB208_202.out
                  have hnc61 := NB202_208.out
                  have hcz62_0 : wc.cell? ⟨gb208, 0, none⟩ = some (.int .u64 x209000_43) := (blk_cell BK208.out 0).trans rfl
                  have hcz62_1 : wc.cell? ⟨gb208, 1, none⟩ = some (.int .u64 x209001_43) := (blk_cell BK208.out 1).trans rfl
                  have hfz62_0 := blk_frozen BK208.out 0
                  have hfz62_1 := blk_frozen BK208.out 1
                  go_upto_region 13 with (first | ((with_reducible refine gate_callee (f := 47) rfl ?_); refine goesL_ (some 67) rfl rfl Try.func47 (by kernel_rfl) rfl #[.agg #[.int .u64 x209000_43, .int .u64 x209001_43], .int .u64 (IntKind.u64.wrap (2 * (IntKind.u64.wrap ((IntKind.u64.wrap (a2_1)) * (IntKind.u64.wrap (a1_0))))))] rfl (by (try simp only [List.map_toArray, List.map_cons, List.map_nil]); first | done | rfl | (simp only [List.length_drop, List.length_take]; rfl)) ?_; (with_reducible refine (cutroomref01_over.calls kj43 x209000_43 x209001_43 (IntKind.u64.wrap (2 * (IntKind.u64.wrap ((IntKind.u64.wrap (a2_1)) * (IntKind.u64.wrap (a1_0)))))) t216 t217 t218 _ A58.out).mono ?_); rintro e w63 ⟨rfl, hb⟩; refine ⟨_, rfl, ?_⟩; have n0_ := Aside0.mk (blk_below (g := gb201) (o := .cells #[.int .i64 a1_0, .int .i64 a1_1] 55 (0, 0)) (by (with_reducible repeat (first | refine blk_drewN ?_ _ | refine blk_drew ?_ | refine blk_alloc ?_ _)); exact BK201.out) hb); have n1_ := Aside0.mk (blk_below (g := gb202) (o := .cells #[.int .i64 a2_0, .int .i64 a2_1] 55 (0, 0)) (by (with_reducible repeat (first | refine blk_drewN ?_ _ | refine blk_drew ?_ | refine blk_alloc ?_ _)); exact BK202.out) hb); have n2_ := Aside0.mk (blk_below (g := gb208) (o := .cells #[.int .u64 x209000_43, .int .u64 x209001_43] 83 (0, 0)) (by (with_reducible repeat (first | refine blk_drewN ?_ _ | refine blk_drew ?_ | refine blk_alloc ?_ _)); exact BK208.out) hb); have n3_ := Aside0.mk (below_step (by repeat (first | (with_reducible first | exact HB.out | apply below_alloc | apply pw_below_drewN | apply below_drew1 | refine below_set ?_ GE201.out | refine below_set ?_ GE202.out | refine below_set ?_ GE208.out) | exact HB.out)) hb); clear BK201; clear BK202; clear BK208; clear HB; have BK201 := n0_; have BK202 := n1_; have BK208 := n2_; have HB := n3_; clear n0_ n1_ n2_ n3_; (try clear hb); (try clear hb2); (try clear hk); (try clear hi)))
                  (try simp only [Act.put, List.setIfInBounds_toArray, List.set_cons_zero, List.set_cons_succ])
                  go_cut [76] (fun v76 wc => ∃ (kq : Nat) (x76_58 : Bool), v76 = .bool x76_58 ∧ Aside0 (cutroomref01_Position.j3 kq x10_43 t216 t217 x76_58 = some (r1, r2)) ∧ Aside0 (kq ≤ kj43) ∧ Aside0 (wc.heap[gb201]? = some (.cells #[.int .i64 a1_0, .int .i64 a1_1] 55 (0, 0))) ∧ Aside0 (wc.heap[gb202]? = some (.cells #[.int .i64 a2_0, .int .i64 a2_1] 55 (0, 0))) ∧ Aside0 (wc.heap[gb208]? = some (.cells #[.int .u64 x209000_43, .int .u64 x209001_43] 83 (0, 0))) ∧ Aside0 (Below w.heap.size w wc))
                  case first =>
                    have H := HC59.out
                    clear HC59
                    by_cases c64 : t218 = true
                    · subst c64
                      have H1 : (cutroomref01_Position.j3 kj43 x10_43 t216 t217 (decide (t216 > 9223372036854775808))) = some (r1, r2) := by rw [if_pos rfl] at H; exact H
                      clear H
                      have H := H1
                      clear H1
                      have H' := Aside0.mk H
                      clear H
                      go_wp2
                      go_meet
                      case rel => exact ⟨_, (decide (t216 > 9223372036854775808)), (by first | rfl | (simp; done) | (simp [*]; done)), H', ⟨by have := HJ3.out; have := HJ21.out; have := HJ43.out; first | omega | exact Nat.le_refl _⟩, ⟨by (with_reducible repeat (first | refine blk_drewN ?_ _ | refine blk_drew ?_ | refine blk_alloc ?_ _)); exact BK201.out⟩, ⟨by (with_reducible repeat (first | refine blk_drewN ?_ _ | refine blk_drew ?_ | refine blk_alloc ?_ _)); exact BK202.out⟩, ⟨by (with_reducible repeat (first | refine blk_drewN ?_ _ | refine blk_drew ?_ | refine blk_alloc ?_ _)); exact BK208.out⟩, ⟨by repeat (first | (with_reducible first | exact HB.out | apply below_alloc | apply pw_below_drewN | apply below_drew1 | refine below_set ?_ GE201.out | refine below_set ?_ GE202.out | refine below_set ?_ GE208.out) | exact HB.out)⟩⟩
                    · replace c64 := Bool.eq_false_iff.mpr c64
                      subst c64
                      have H1 : (cutroomref01_Position.j3 kj43 x10_43 t216 t217 true) = some (r1, r2) := by rw [if_neg (show ¬ (false = true) by decide)] at H; exact H
                      clear H
                      have H := H1
                      clear H1
                      have H' := Aside0.mk H
                      clear H
                      go_wp2
                      go_meet
                      case rel => exact ⟨_, (true), (by first | rfl | (simp; done) | (simp [*]; done)), H', ⟨by have := HJ3.out; have := HJ21.out; have := HJ43.out; first | omega | exact Nat.le_refl _⟩, ⟨by (with_reducible repeat (first | refine blk_drewN ?_ _ | refine blk_drew ?_ | refine blk_alloc ?_ _)); exact BK201.out⟩, ⟨by (with_reducible repeat (first | refine blk_drewN ?_ _ | refine blk_drew ?_ | refine blk_alloc ?_ _)); exact BK202.out⟩, ⟨by (with_reducible repeat (first | refine blk_drewN ?_ _ | refine blk_drew ?_ | refine blk_alloc ?_ _)); exact BK208.out⟩, ⟨by repeat (first | (with_reducible first | exact HB.out | apply below_alloc | apply pw_below_drewN | apply below_drew1 | refine below_set ?_ GE201.out | refine below_set ?_ GE202.out | refine below_set ?_ GE208.out) | exact HB.out)⟩⟩
                  case rest =>
                    clear HC59
                    try clear c1
                    try clear c2
                    try clear p2
                    try clear c3
                    try clear c4
                    try clear c5
                    try clear c6
                    try clear c8
                    try clear c10
                    try clear c15
                    try clear c18
                    try clear c23
                    try clear c27
                    try clear c32
                    try clear c33
                    try clear c37
                    try clear c37b0
                    try clear c39
                    try clear c40
                    try clear c41
                    try clear c42
                    try clear c43
                    try clear c44
                    try clear c45
                    try clear c45b0
                    try clear c46
                    try clear c47
                    try clear c48
                    try clear c53
                    try clear c54
                    try clear c60
                    try clear c61
                    try clear c64
                    try clear hcz11_0
                    try clear hcz11_1
                    try clear hcz13_0
                    try clear hcz13_1
                    try clear hcz16_0
                    try clear hcz16_1
                    try clear hcz24_0
                    try clear hcz24_1
                    try clear hcz25_0
                    try clear hcz25_1
                    try clear hcz34_0
                    try clear hcz34_1
                    try clear hcz36_0
                    try clear hcz36_1
                    try clear hcz41_0
                    try clear hcz41_1
                    try clear hcz49_0
                    try clear hcz49_1
                    try clear hcz51_0
                    try clear hcz51_1
                    try clear hcz55_0
                    try clear hcz55_1
                    try clear hcz57_0
                    try clear hcz57_1
                    try clear hcz62_0
                    try clear hcz62_1
                    try clear hfz11_0
                    try clear hfz11_1
                    try clear hfz13_0
                    try clear hfz13_1
                    try clear hfz16_0
                    try clear hfz16_1
                    try clear hfz24_0
                    try clear hfz24_1
                    try clear hfz25_0
                    try clear hfz25_1
                    try clear hfz34_0
                    try clear hfz34_1
                    try clear hfz36_0
                    try clear hfz36_1
                    try clear hfz41_0
                    try clear hfz41_1
                    try clear hfz49_0
                    try clear hfz49_1
                    try clear hfz51_0
                    try clear hfz51_1
                    try clear hfz55_0
                    try clear hfz55_1
                    try clear hfz57_0
                    try clear hfz57_1
                    try clear hfz62_0
                    try clear hfz62_1
                    try clear p2
                    obtain ⟨kq, x76_58, rfl, HA, HJ58, BK201, BK202, BK208, HB⟩ := hcut
                    cases kq with
                    | zero => exact absurd HA.out (by simp [cutroomref01_Position.j3])
                    | succ kj58 =>
                      have H := HA.out
                      clear HA
                      simp only [cutroomref01_Position.j3] at H
                      by_cases c65 : x76_58 = true
                      · subst c65
                        have H1 : (some (0, 2)) = some (r1, r2) := by rw [if_pos rfl] at H; exact H
                        clear H
                        have H := H1
                        clear H1
                        simp only [Option.some.injEq, Prod.mk.injEq] at H
                        obtain ⟨rfl, rfl⟩ := H
                        go_wp2
                        go_ret2
                        exact ⟨by first | rfl | (simp [errW_none, errW_some] <;> rfl) | (simp [*, errW_none, errW_some] <;> rfl), by repeat (first | (with_reducible first | exact HB.out | apply below_alloc | apply pw_below_drewN | apply below_drew1 | refine below_set ?_ GE201.out | refine below_set ?_ GE202.out | refine below_set ?_ GE208.out) | exact HB.out)⟩
                      · replace c65 := Bool.eq_false_iff.mpr c65
                        subst c65
                        have H1 : (if x10_43 = true then (cutroomref01_Position.j4 kj58 x10_43 t216 (decide (t217 > 0))) else (cutroomref01_Position.j4 kj58 x10_43 t216 false)) = some (r1, r2) := by rw [if_neg (show ¬ (false = true) by decide)] at H; exact H
                        clear H
                        have H := H1
                        clear H1
                        have HC66 := Aside0.mk H
                        clear H
                        go_upto_region 15 with (fail)
                        go_cut [81] (fun v81 wc => ∃ (kq : Nat) (x81_65 : Bool), v81 = .bool x81_65 ∧ Aside0 (cutroomref01_Position.j4 kq x10_43 t216 x81_65 = some (r1, r2)) ∧ Aside0 (kq ≤ kj58) ∧ Aside0 (wc.heap[gb201]? = some (.cells #[.int .i64 a1_0, .int .i64 a1_1] 55 (0, 0))) ∧ Aside0 (wc.heap[gb202]? = some (.cells #[.int .i64 a2_0, .int .i64 a2_1] 55 (0, 0))) ∧ Aside0 (wc.heap[gb208]? = some (.cells #[.int .u64 x209000_43, .int .u64 x209001_43] 83 (0, 0))) ∧ Aside0 (Below w.heap.size w wc))
                        case first =>
                          have H := HC66.out
                          clear HC66
                          by_cases c67 : x10_43 = true
                          · subst c67
                            have H1 : (cutroomref01_Position.j4 kj58 true t216 (decide (t217 > 0))) = some (r1, r2) := by rw [if_pos rfl] at H; exact H
                            clear H
                            have H := H1
                            clear H1
                            have H' := Aside0.mk H
                            clear H
                            go_wp2
                            go_meet
                            case rel => exact ⟨_, (decide (t217 > 0)), (by first | rfl | (simp; done) | (simp [*]; done)), H', ⟨by have := HJ3.out; have := HJ21.out; have := HJ43.out; have := HJ58.out; first | omega | exact Nat.le_refl _⟩, ⟨by (with_reducible repeat (first | refine blk_drewN ?_ _ | refine blk_drew ?_ | refine blk_alloc ?_ _)); exact BK201.out⟩, ⟨by (with_reducible repeat (first | refine blk_drewN ?_ _ | refine blk_drew ?_ | refine blk_alloc ?_ _)); exact BK202.out⟩, ⟨by (with_reducible repeat (first | refine blk_drewN ?_ _ | refine blk_drew ?_ | refine blk_alloc ?_ _)); exact BK208.out⟩, ⟨by repeat (first | (with_reducible first | exact HB.out | apply below_alloc | apply pw_below_drewN | apply below_drew1 | refine below_set ?_ GE201.out | refine below_set ?_ GE202.out | refine below_set ?_ GE208.out) | exact HB.out)⟩⟩
                          · replace c67 := Bool.eq_false_iff.mpr c67
                            subst c67
                            have H1 : (cutroomref01_Position.j4 kj58 false t216 false) = some (r1, r2) := by rw [if_neg (show ¬ (false = true) by decide)] at H; exact H
                            clear H
                            have H := H1
                            clear H1
                            have H' := Aside0.mk H
                            clear H
                            go_wp2
                            go_meet
                            case rel => exact ⟨_, (false), (by first | rfl | (simp; done) | (simp [*]; done)), H', ⟨by have := HJ3.out; have := HJ21.out; have := HJ43.out; have := HJ58.out; first | omega | exact Nat.le_refl _⟩, ⟨by (with_reducible repeat (first | refine blk_drewN ?_ _ | refine blk_drew ?_ | refine blk_alloc ?_ _)); exact BK201.out⟩, ⟨by (with_reducible repeat (first | refine blk_drewN ?_ _ | refine blk_drew ?_ | refine blk_alloc ?_ _)); exact BK202.out⟩, ⟨by (with_reducible repeat (first | refine blk_drewN ?_ _ | refine blk_drew ?_ | refine blk_alloc ?_ _)); exact BK208.out⟩, ⟨by repeat (first | (with_reducible first | exact HB.out | apply below_alloc | apply pw_below_drewN | apply below_drew1 | refine below_set ?_ GE201.out | refine below_set ?_ GE202.out | refine below_set ?_ GE208.out) | exact HB.out)⟩⟩
                        case rest =>
                          clear HC66
                          try clear c1
                          try clear c2
                          try clear p2
                          try clear c3
                          try clear c4
                          try clear c5
                          try clear c6
                          try clear c8
                          try clear c10
                          try clear c15
                          try clear c18
                          try clear c23
                          try clear c27
                          try clear c32
                          try clear c33
                          try clear c37
                          try clear c37b0
                          try clear c39
                          try clear c40
                          try clear c41
                          try clear c42
                          try clear c43
                          try clear c44
                          try clear c45
                          try clear c45b0
                          try clear c46
                          try clear c47
                          try clear c48
                          try clear c53
                          try clear c54
                          try clear c60
                          try clear c61
                          try clear c64
                          try clear c65
                          try clear c67
                          try clear hcz11_0
                          try clear hcz11_1
                          try clear hcz13_0
                          try clear hcz13_1
                          try clear hcz16_0
                          try clear hcz16_1
                          try clear hcz24_0
                          try clear hcz24_1
                          try clear hcz25_0
                          try clear hcz25_1
                          try clear hcz34_0
                          try clear hcz34_1
                          try clear hcz36_0
                          try clear hcz36_1
                          try clear hcz41_0
                          try clear hcz41_1
                          try clear hcz49_0
                          try clear hcz49_1
                          try clear hcz51_0
                          try clear hcz51_1
                          try clear hcz55_0
                          try clear hcz55_1
                          try clear hcz57_0
                          try clear hcz57_1
                          try clear hcz62_0
                          try clear hcz62_1
                          try clear hfz11_0
                          try clear hfz11_1
                          try clear hfz13_0
                          try clear hfz13_1
                          try clear hfz16_0
                          try clear hfz16_1
                          try clear hfz24_0
                          try clear hfz24_1
                          try clear hfz25_0
                          try clear hfz25_1
                          try clear hfz34_0
                          try clear hfz34_1
                          try clear hfz36_0
                          try clear hfz36_1
                          try clear hfz41_0
                          try clear hfz41_1
                          try clear hfz49_0
                          try clear hfz49_1
                          try clear hfz51_0
                          try clear hfz51_1
                          try clear hfz55_0
                          try clear hfz55_1
                          try clear hfz57_0
                          try clear hfz57_1
                          try clear hfz62_0
                          try clear hfz62_1
                          try clear p2
                          obtain ⟨kq, x81_65, rfl, HA, HJ65, BK201, BK202, BK208, HB⟩ := hcut
                          cases kq with
                          | zero => exact absurd HA.out (by simp [cutroomref01_Position.j4])
                          | succ kj65 =>
                            have H := HA.out
                            clear HA
                            simp only [cutroomref01_Position.j4] at H
                            have HC68 := Aside0.mk H
                            clear H
                            go_upto_if 81 with (fail)
                            go_cut [11] (fun v11 wc => ∃ (kq : Nat) (x11_67 : Int), v11 = .int .u64 x11_67 ∧ Aside0 (cutroomref01_Position.j5 kq x10_43 x11_67 = some (r1, r2)) ∧ Aside0 (kq ≤ kj65) ∧ Aside0 (wc.heap[gb201]? = some (.cells #[.int .i64 a1_0, .int .i64 a1_1] 55 (0, 0))) ∧ Aside0 (wc.heap[gb202]? = some (.cells #[.int .i64 a2_0, .int .i64 a2_1] 55 (0, 0))) ∧ Aside0 (wc.heap[gb208]? = some (.cells #[.int .u64 x209000_43, .int .u64 x209001_43] 83 (0, 0))) ∧ Aside0 (Below w.heap.size w wc))
                            case first =>
                              have H := HC68.out
                              clear HC68
                              by_cases c69 : x81_65 = true
                              · subst c69
                                have H1 : (cutroomref01_Position.j5 kj65 x10_43 (IntKind.u64.wrap (t216 + 1))) = some (r1, r2) := by rw [if_pos rfl] at H; exact H
                                clear H
                                have H := H1
                                clear H1
                                have H' := Aside0.mk H
                                clear H
                                go_wp2
                                go_meet
                                case rel => exact ⟨_, (IntKind.u64.wrap (t216 + 1)), (by first | rfl | (simp; done) | (simp [*]; done)), H', ⟨by have := HJ3.out; have := HJ21.out; have := HJ43.out; have := HJ58.out; have := HJ65.out; first | omega | exact Nat.le_refl _⟩, ⟨by (with_reducible repeat (first | refine blk_drewN ?_ _ | refine blk_drew ?_ | refine blk_alloc ?_ _)); exact BK201.out⟩, ⟨by (with_reducible repeat (first | refine blk_drewN ?_ _ | refine blk_drew ?_ | refine blk_alloc ?_ _)); exact BK202.out⟩, ⟨by (with_reducible repeat (first | refine blk_drewN ?_ _ | refine blk_drew ?_ | refine blk_alloc ?_ _)); exact BK208.out⟩, ⟨by repeat (first | (with_reducible first | exact HB.out | apply below_alloc | apply pw_below_drewN | apply below_drew1 | refine below_set ?_ GE201.out | refine below_set ?_ GE202.out | refine below_set ?_ GE208.out) | exact HB.out)⟩⟩
                              · replace c69 := Bool.eq_false_iff.mpr c69
                                subst c69
                                have H1 : (cutroomref01_Position.j5 kj65 x10_43 t216) = some (r1, r2) := by rw [if_neg (show ¬ (false = true) by decide)] at H; exact H
                                clear H
                                have H := H1
                                clear H1
                                have H' := Aside0.mk H
                                clear H
                                go_wp2
                                go_meet
                                case rel => exact ⟨_, (t216), (by first | rfl | (simp; done) | (simp [*]; done)), H', ⟨by have := HJ3.out; have := HJ21.out; have := HJ43.out; have := HJ58.out; have := HJ65.out; first | omega | exact Nat.le_refl _⟩, ⟨by (with_reducible repeat (first | refine blk_drewN ?_ _ | refine blk_drew ?_ | refine blk_alloc ?_ _)); exact BK201.out⟩, ⟨by (with_reducible repeat (first | refine blk_drewN ?_ _ | refine blk_drew ?_ | refine blk_alloc ?_ _)); exact BK202.out⟩, ⟨by (with_reducible repeat (first | refine blk_drewN ?_ _ | refine blk_drew ?_ | refine blk_alloc ?_ _)); exact BK208.out⟩, ⟨by repeat (first | (with_reducible first | exact HB.out | apply below_alloc | apply pw_below_drewN | apply below_drew1 | refine below_set ?_ GE201.out | refine below_set ?_ GE202.out | refine below_set ?_ GE208.out) | exact HB.out)⟩⟩
                            case rest =>
                              clear HC68
                              try clear c1
                              try clear c2
                              try clear p2
                              try clear c3
                              try clear c4
                              try clear c5
                              try clear c6
                              try clear c8
                              try clear c10
                              try clear c15
                              try clear c18
                              try clear c23
                              try clear c27
                              try clear c32
                              try clear c33
                              try clear c37
                              try clear c37b0
                              try clear c39
                              try clear c40
                              try clear c41
                              try clear c42
                              try clear c43
                              try clear c44
                              try clear c45
                              try clear c45b0
                              try clear c46
                              try clear c47
                              try clear c48
                              try clear c53
                              try clear c54
                              try clear c60
                              try clear c61
                              try clear c64
                              try clear c65
                              try clear c67
                              try clear c69
                              try clear hcz11_0
                              try clear hcz11_1
                              try clear hcz13_0
                              try clear hcz13_1
                              try clear hcz16_0
                              try clear hcz16_1
                              try clear hcz24_0
                              try clear hcz24_1
                              try clear hcz25_0
                              try clear hcz25_1
                              try clear hcz34_0
                              try clear hcz34_1
                              try clear hcz36_0
                              try clear hcz36_1
                              try clear hcz41_0
                              try clear hcz41_1
                              try clear hcz49_0
                              try clear hcz49_1
                              try clear hcz51_0
                              try clear hcz51_1
                              try clear hcz55_0
                              try clear hcz55_1
                              try clear hcz57_0
                              try clear hcz57_1
                              try clear hcz62_0
                              try clear hcz62_1
                              try clear hfz11_0
                              try clear hfz11_1
                              try clear hfz13_0
                              try clear hfz13_1
                              try clear hfz16_0
                              try clear hfz16_1
                              try clear hfz24_0
                              try clear hfz24_1
                              try clear hfz25_0
                              try clear hfz25_1
                              try clear hfz34_0
                              try clear hfz34_1
                              try clear hfz36_0
                              try clear hfz36_1
                              try clear hfz41_0
                              try clear hfz41_1
                              try clear hfz49_0
                              try clear hfz49_1
                              try clear hfz51_0
                              try clear hfz51_1
                              try clear hfz55_0
                              try clear hfz55_1
                              try clear hfz57_0
                              try clear hfz57_1
                              try clear hfz62_0
                              try clear hfz62_1
                              try clear p2
                              obtain ⟨kq, x11_67, rfl, HA, HJ67, BK201, BK202, BK208, HB⟩ := hcut
                              cases kq with
                              | zero => exact absurd HA.out (by simp [cutroomref01_Position.j5])
                              | succ kj67 =>
                                have H := HA.out
                                clear HA
                                simp only [cutroomref01_Position.j5] at H
                                replace H := Option.bind_eq_some_iff.mp H
                                obtain ⟨⟨t219, t220⟩, A700, H⟩ := H
                                replace H : (if t220 = true then (some (t219, 0)) else (some (0, 2))) = some (r1, r2) := H
                                have A70 := Aside0.mk A700
                                clear A700
                                by_cases c71 : t220 = true
                                · subst c71
                                  have H1 : (some (t219, 0)) = some (r1, r2) := by rw [if_pos rfl] at H; exact H
                                  clear H
                                  have H := H1
                                  clear H1
                                  simp only [Option.some.injEq, Prod.mk.injEq] at H
                                  obtain ⟨rfl, rfl⟩ := H
                                  go_wp2_with (first | ((with_reducible refine gate_callee (f := 48) rfl ?_); refine goesL_ (some 87) rfl rfl Try.func48 (by kernel_rfl) rfl #[.bool x10_43, .int .u64 x11_67] rfl (by (try simp only [List.map_toArray, List.map_cons, List.map_nil]); first | done | rfl | (simp only [List.length_drop, List.length_take]; rfl)) ?_; (with_reducible refine (cutroomref01_signed.calls x10_43 x11_67 t219 true _ A70.out).mono ?_); rintro e w' ⟨rfl, ⟨nd, rfl⟩⟩; refine ⟨_, rfl, ?_⟩))
                                  go_ret2
                                  exact ⟨by first | rfl | (simp [errW_none, errW_some] <;> rfl) | (simp [*, errW_none, errW_some] <;> rfl), by repeat (first | (with_reducible first | exact HB.out | apply below_alloc | apply pw_below_drewN | apply below_drew1 | refine below_set ?_ GE201.out | refine below_set ?_ GE202.out | refine below_set ?_ GE208.out) | exact HB.out)⟩
                                · replace c71 := Bool.eq_false_iff.mpr c71
                                  subst c71
                                  have H1 : (some (0, 2)) = some (r1, r2) := by rw [if_neg (show ¬ (false = true) by decide)] at H; exact H
                                  clear H
                                  have H := H1
                                  clear H1
                                  simp only [Option.some.injEq, Prod.mk.injEq] at H
                                  obtain ⟨rfl, rfl⟩ := H
                                  go_wp2_with (first | ((with_reducible refine gate_callee (f := 48) rfl ?_); refine goesL_ (some 87) rfl rfl Try.func48 (by kernel_rfl) rfl #[.bool x10_43, .int .u64 x11_67] rfl (by (try simp only [List.map_toArray, List.map_cons, List.map_nil]); first | done | rfl | (simp only [List.length_drop, List.length_take]; rfl)) ?_; (with_reducible refine (cutroomref01_signed.calls x10_43 x11_67 t219 false _ A70.out).mono ?_); rintro e w' ⟨rfl, ⟨nd, rfl⟩⟩; refine ⟨_, rfl, ?_⟩))
                                  go_ret2
                                  exact ⟨by first | rfl | (simp [errW_none, errW_some] <;> rfl) | (simp [*, errW_none, errW_some] <;> rfl), by repeat (first | (with_reducible first | exact HB.out | apply below_alloc | apply pw_below_drewN | apply below_drew1 | refine below_set ?_ GE201.out | refine below_set ?_ GE202.out | refine below_set ?_ GE208.out) | exact HB.out)⟩

end Go.Proofs.Ytdkibpdgnocgaaa.PPesLong
