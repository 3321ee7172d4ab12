-- Written for this claim by a turned copy of the kit's print (wip/printx/mk.py). By an AI agent.
import Derived.Test.YtdkibpdgnocgaaaPPesTakesx0
import Derived.Test.YtdkibpdgnocgaaaPPesTakesx1
import Derived.Test.YtdkibpdgnocgaaaPPesTakesx5
namespace Go.Proofs.Ytdkibpdgnocgaaa.PPesTakes
open Go.RowKit Go.Proofs.YtdkibpdgnocgaaaW.PrintWords Go.Proofs.YtdkibpdgnocgaaaW.PrintLast Go.Proofs.YtdkibpdgnocgaaaW.PrintMore
attribute [local go_sem] max2_int min2_int max_two min_two max_three min_three max_four min_four   -- for this text's walks alone
set_option linter.unusedVariables false
set_option linter.unusedSimpArgs false

/-! ### cutroomref16_Take: function 23 -/
mutual
def cutroomref16_Take.j0 : Nat → List Int → Int → Int → Bool → Option (Int × Int × Int × List Int × Int × Int)
  | 0, _, _, _, _ => none
  | k + 1, x0, x5, x6, x67 => if x67 = true then (some (0, 0, 0, ([] : List Int), 0, 3)) else (if 7 < (x0.length : Int) then (if (rd x0 7) = 0 then (if x5 = 0 then (cutroomref16_Take.j1 k x0 x5 x6 (!true)) else (if (rd x0 7) = 128 then (if x5 = 5 then (cutroomref16_Take.j1 k x0 x5 x6 (!true)) else (if (rd x0 7) = 192 then (cutroomref16_Take.j1 k x0 x5 x6 (!(x5 == 10))) else (cutroomref16_Take.j1 k x0 x5 x6 (!false)))) else (if (rd x0 7) = 192 then (cutroomref16_Take.j1 k x0 x5 x6 (!(x5 == 10))) else (cutroomref16_Take.j1 k x0 x5 x6 (!false))))) else (if (rd x0 7) = 128 then (if x5 = 5 then (cutroomref16_Take.j1 k x0 x5 x6 (!true)) else (if (rd x0 7) = 192 then (cutroomref16_Take.j1 k x0 x5 x6 (!(x5 == 10))) else (cutroomref16_Take.j1 k x0 x5 x6 (!false)))) else (if (rd x0 7) = 192 then (cutroomref16_Take.j1 k x0 x5 x6 (!(x5 == 10))) else (cutroomref16_Take.j1 k x0 x5 x6 (!false))))) else (none))
def cutroomref16_Take.j1 : Nat → List Int → Int → Int → Bool → Option (Int × Int × Int × List Int × Int × Int)
  | 0, _, _, _, _ => none
  | k + 1, x0, x5, x6, x97 => if x97 = true then (some (0, 0, 0, ([] : List Int), 0, 3)) else (if (x0.length : Int) < (wrap64 (6 + x6)) then (some (0, 0, 0, ([] : List Int), 0, 4)) else (if 3 < (x0.length : Int) then ((some (([] : List Int) : List Int)).bind fun y296 => (if 0 ≤ (wrap64 (9 + x5)) then (if (wrap64 (9 + x5)) ≤ (wrap64 (6 + x6)) then (if (wrap64 (6 + x6)) ≤ (x0.length : Int) then (if y296.length + ((x0.take ((wrap64 (6 + x6)) : Int).toNat).drop ((wrap64 (9 + x5)) : Int).toNat).length < 140737488355328 then ((some (y296 ++ ((x0.take ((wrap64 (6 + x6)) : Int).toNat).drop ((wrap64 (9 + x5)) : Int).toNat) : List Int)).bind fun y300 => (if x5 ≥ 5 then (if 9 ≤ 14 then (if 14 ≤ (x0.length : Int) then ((cutroomref16_taken.f ((x0.take 14).drop 9)).bind fun t305 => (cutroomref16_Take.j2 k x0 x5 x6 (wrap64 (rd x0 3)) t305 (-1) y300)) else (none)) else (none)) else (cutroomref16_Take.j2 k x0 x5 x6 (wrap64 (rd x0 3)) (-1) (-1) y300))) else (none)) else (none)) else (none)) else (none))) else (none)))
def cutroomref16_Take.j2 : Nat → List Int → Int → Int → Int → Int → Int → List Int → Option (Int × Int × Int × List Int × Int × Int)
  | 0, _, _, _, _, _, _, _ => none
  | k + 1, x0, x5, x6, x304000, x304001, x304002, x304003 => if x5 = 10 then (if 14 ≤ 19 then (if 19 ≤ (x0.length : Int) then ((cutroomref16_taken.f ((x0.take 19).drop 14)).bind fun t307 => (cutroomref16_Take.j3 k x0 x6 x304000 x304001 t307 x304003)) else (none)) else (none)) else (cutroomref16_Take.j3 k x0 x6 x304000 x304001 x304002 x304003)
def cutroomref16_Take.j3 : Nat → List Int → Int → Int → Int → Int → List Int → Option (Int × Int × Int × List Int × Int × Int)
  | 0, _, _, _, _, _, _ => none
  | k + 1, x0, x6, x304000, x304001, x304002, x304003 => (cutroomref16_Put.f k x304000 x304001 x304002 x304003).bind fun bt308 => (if bt308.2 = 0 then (if 0 ≤ (wrap64 (6 + x6)) then (if (wrap64 (6 + x6)) ≤ (x0.length : Int) then ((cutroomref02_SameBytes.f bt308.1 (x0.take ((wrap64 (6 + x6)) : Int).toNat)).bind fun t313 => (if t313 = true then (some (x304000, x304001, x304002, x304003, wrap64 (6 + x6), 0)) else (some (0, 0, 0, ([] : List Int), 0, 3)))) else (none)) else (none)) else (some (0, 0, 0, ([] : List Int), 0, 3)))
end
def cutroomref16_Take.f (k : Nat) (l0 : List Int) : Option (Int × Int × Int × List Int × Int × Int) := if (l0.length : Int) < 9 then (some (0, 0, 0, ([] : List Int), 0, 4)) else (if 8 < (l0.length : Int) then (if 4 < (l0.length : Int) then (if 5 < (l0.length : Int) then (if 0 < (l0.length : Int) then (if (rd l0 0) = 0 then (if 1 < (l0.length : Int) then (if (rd l0 1) = 0 then (if 2 < (l0.length : Int) then (if (rd l0 2) = 1 then (if 3 < (l0.length : Int) then (if (rd l0 3) < 192 then (cutroomref16_Take.j0 k l0 (wrap64 (rd l0 8)) (Go.bits .or .i64 (wrap64 ((wrap64 (rd l0 4)) * 256)) (wrap64 (rd l0 5))) true) else (if (rd l0 3) > 239 then (cutroomref16_Take.j0 k l0 (wrap64 (rd l0 8)) (Go.bits .or .i64 (wrap64 ((wrap64 (rd l0 4)) * 256)) (wrap64 (rd l0 5))) true) else (if 6 < (l0.length : Int) then (if (rd l0 6) = 128 then (cutroomref16_Take.j0 k l0 (wrap64 (rd l0 8)) (Go.bits .or .i64 (wrap64 ((wrap64 (rd l0 4)) * 256)) (wrap64 (rd l0 5))) (decide ((Go.bits .or .i64 (wrap64 ((wrap64 (rd l0 4)) * 256)) (wrap64 (rd l0 5))) < (wrap64 (3 + (wrap64 (rd l0 8))))))) else (cutroomref16_Take.j0 k l0 (wrap64 (rd l0 8)) (Go.bits .or .i64 (wrap64 ((wrap64 (rd l0 4)) * 256)) (wrap64 (rd l0 5))) true)) else (none)))) else (none)) else (cutroomref16_Take.j0 k l0 (wrap64 (rd l0 8)) (Go.bits .or .i64 (wrap64 ((wrap64 (rd l0 4)) * 256)) (wrap64 (rd l0 5))) true)) else (none)) else (cutroomref16_Take.j0 k l0 (wrap64 (rd l0 8)) (Go.bits .or .i64 (wrap64 ((wrap64 (rd l0 4)) * 256)) (wrap64 (rd l0 5))) true)) else (none)) else (cutroomref16_Take.j0 k l0 (wrap64 (rd l0 8)) (Go.bits .or .i64 (wrap64 ((wrap64 (rd l0 4)) * 256)) (wrap64 (rd l0 5))) true)) else (none)) else (none)) else (none)) else (none))
theorem cutroomref16_Take.mono_l : ∀ k, (∀ y0 y1 y2 y3, LeO (cutroomref16_Take.j0 k y0 y1 y2 y3) (cutroomref16_Take.j0 (k + 1) y0 y1 y2 y3)) ∧ (∀ y0 y1 y2 y3, LeO (cutroomref16_Take.j1 k y0 y1 y2 y3) (cutroomref16_Take.j1 (k + 1) y0 y1 y2 y3)) ∧ (∀ y0 y1 y2 y3 y4 y5 y6, LeO (cutroomref16_Take.j2 k y0 y1 y2 y3 y4 y5 y6) (cutroomref16_Take.j2 (k + 1) y0 y1 y2 y3 y4 y5 y6)) ∧ (∀ y0 y1 y2 y3 y4 y5, LeO (cutroomref16_Take.j3 k y0 y1 y2 y3 y4 y5) (cutroomref16_Take.j3 (k + 1) y0 y1 y2 y3 y4 y5))
  | 0 => ⟨fun _ _ _ _ r h => by simp [cutroomref16_Take.j0] at h, fun _ _ _ _ r h => by simp [cutroomref16_Take.j1] at h, fun _ _ _ _ _ _ _ r h => by simp [cutroomref16_Take.j2] at h, fun _ _ _ _ _ _ r h => by simp [cutroomref16_Take.j3] at h⟩
  | k + 1 => by
    obtain ⟨ih0, ih1, ih2, ih3⟩ := cutroomref16_Take.mono_l k
    refine ⟨?_, ?_, ?_, ?_⟩
    · intro y0 y1 y2 y3
      unfold cutroomref16_Take.j0
      repeat' first
      | (with_reducible exact ih0 _ _ _ _)
      | (with_reducible exact ih1 _ _ _ _)
      | (with_reducible exact ih2 _ _ _ _ _ _ _)
      | (with_reducible exact ih3 _ _ _ _ _ _)
      | (with_reducible exact cutroomref16_Put.mono _ _ _ _ _)
      | (with_reducible exact LeO.refl _)
      | (with_reducible exact LeO.none _)
      | (with_reducible refine LeO.ite ?_ ?_)
      | (with_reducible refine LeO.bind ?_ (fun _ => ?_))
      | exact ih0 _ _ _ _
      | exact ih1 _ _ _ _
      | exact ih2 _ _ _ _ _ _ _
      | exact ih3 _ _ _ _ _ _
      | exact cutroomref16_Put.mono _ _ _ _ _
      | exact LeO.none _
      | refine LeO.ite ?_ ?_
      | refine LeO.bind ?_ (fun _ => ?_)
    · intro y0 y1 y2 y3
      unfold cutroomref16_Take.j1
      repeat' first
      | (with_reducible exact ih0 _ _ _ _)
      | (with_reducible exact ih1 _ _ _ _)
      | (with_reducible exact ih2 _ _ _ _ _ _ _)
      | (with_reducible exact ih3 _ _ _ _ _ _)
      | (with_reducible exact cutroomref16_Put.mono _ _ _ _ _)
      | (with_reducible exact LeO.refl _)
      | (with_reducible exact LeO.none _)
      | (with_reducible refine LeO.ite ?_ ?_)
      | (with_reducible refine LeO.bind ?_ (fun _ => ?_))
      | exact ih0 _ _ _ _
      | exact ih1 _ _ _ _
      | exact ih2 _ _ _ _ _ _ _
      | exact ih3 _ _ _ _ _ _
      | exact cutroomref16_Put.mono _ _ _ _ _
      | exact LeO.none _
      | refine LeO.ite ?_ ?_
      | refine LeO.bind ?_ (fun _ => ?_)
    · intro y0 y1 y2 y3 y4 y5 y6
      unfold cutroomref16_Take.j2
      repeat' first
      | (with_reducible exact ih0 _ _ _ _)
      | (with_reducible exact ih1 _ _ _ _)
      | (with_reducible exact ih2 _ _ _ _ _ _ _)
      | (with_reducible exact ih3 _ _ _ _ _ _)
      | (with_reducible exact cutroomref16_Put.mono _ _ _ _ _)
      | (with_reducible exact LeO.refl _)
      | (with_reducible exact LeO.none _)
      | (with_reducible refine LeO.ite ?_ ?_)
      | (with_reducible refine LeO.bind ?_ (fun _ => ?_))
      | exact ih0 _ _ _ _
      | exact ih1 _ _ _ _
      | exact ih2 _ _ _ _ _ _ _
      | exact ih3 _ _ _ _ _ _
      | exact cutroomref16_Put.mono _ _ _ _ _
      | exact LeO.none _
      | refine LeO.ite ?_ ?_
      | refine LeO.bind ?_ (fun _ => ?_)
    · intro y0 y1 y2 y3 y4 y5
      unfold cutroomref16_Take.j3
      repeat' first
      | (with_reducible exact ih0 _ _ _ _)
      | (with_reducible exact ih1 _ _ _ _)
      | (with_reducible exact ih2 _ _ _ _ _ _ _)
      | (with_reducible exact ih3 _ _ _ _ _ _)
      | (with_reducible exact cutroomref16_Put.mono _ _ _ _ _)
      | (with_reducible exact LeO.refl _)
      | (with_reducible exact LeO.none _)
      | (with_reducible refine LeO.ite ?_ ?_)
      | (with_reducible refine LeO.bind ?_ (fun _ => ?_))
      | exact ih0 _ _ _ _
      | exact ih1 _ _ _ _
      | exact ih2 _ _ _ _ _ _ _
      | exact ih3 _ _ _ _ _ _
      | exact cutroomref16_Put.mono _ _ _ _ _
      | exact LeO.none _
      | refine LeO.ite ?_ ?_
      | refine LeO.bind ?_ (fun _ => ?_)
theorem cutroomref16_Take.mono : ∀ a0 k, LeO (cutroomref16_Take.f k a0) (cutroomref16_Take.f (k + 1) a0) := by
  intro a0 k
  obtain ⟨ih0, ih1, ih2, ih3⟩ := cutroomref16_Take.mono_l k
  unfold cutroomref16_Take.f
  repeat' first
      | (with_reducible exact ih0 _ _ _ _)
      | (with_reducible exact ih1 _ _ _ _)
      | (with_reducible exact ih2 _ _ _ _ _ _ _)
      | (with_reducible exact ih3 _ _ _ _ _ _)
      | (with_reducible exact cutroomref16_Put.mono _ _ _ _ _)
      | (with_reducible exact LeO.refl _)
      | (with_reducible exact LeO.none _)
      | (with_reducible refine LeO.ite ?_ ?_)
      | (with_reducible refine LeO.bind ?_ (fun _ => ?_))
      | exact ih0 _ _ _ _
      | exact ih1 _ _ _ _
      | exact ih2 _ _ _ _ _ _ _
      | exact ih3 _ _ _ _ _ _
      | exact cutroomref16_Put.mono _ _ _ _ _
      | exact LeO.none _
      | refine LeO.ite ?_ ?_
      | refine LeO.bind ?_ (fun _ => ?_)
def cutroomref16_Take.T3 : Bool × List (List Nat × List Nat) := (true, [([], []), ([0], [0]), ([1], [1]), ([2], [2]), ([], []), ([4], [4]), ([5], [5]), ([6], [6]), ([7], [7]), ([], []), ([9], [9]), ([10], [10]), ([11], [11]), ([8, 12], [8, 12]), ([3, 0, 1, 2, 3], [3]), ([13, 14, 0, 1, 2, 3, 4, 5, 6, 7, 8, 9, 10, 11, 12, 13, 14], [13])])
def cutroomref16_Take.B3 : List Nat := [0, 1, 3, 7, 0, 16, 48, 112, 240, 0, 512, 1536, 3584, 8176, 15, 32767]
theorem cutroomref16_Take.tab3 : rtab .any (opsOf Try.f23 3) = cutroomref16_Take.T3 := by kernel_rfl
theorem cutroomref16_Take.bits3 : waitsOk cutroomref16_Take.T3.2 cutroomref16_Take.B3 = true := by kernel_rfl
def cutroomref16_Take.T10 : Bool × List (List Nat × List Nat) := (true, [([], []), ([0], [0]), ([1], [1]), ([2], [2]), ([], []), ([], []), ([], []), ([6], [6]), ([], []), ([8], [8]), ([5, 7, 9], [5, 7, 9]), ([4, 10], [4, 10]), ([3, 11], [3, 11]), ([], []), ([13, 12, 11, 0, 1, 2, 3, 4, 5, 6, 7, 8, 9, 10, 11, 12, 13], [12, 13])])
def cutroomref16_Take.B10 : List Nat := [0, 1, 3, 7, 0, 0, 0, 64, 0, 256, 992, 2032, 4095, 0, 16383]
theorem cutroomref16_Take.tab10 : rtab .any (opsOf Try.f23 10) = cutroomref16_Take.T10 := by kernel_rfl
theorem cutroomref16_Take.bits10 : waitsOk cutroomref16_Take.T10.2 cutroomref16_Take.B10 = true := by kernel_rfl
set_option maxHeartbeats 8000000 in
set_option maxRecDepth 100000 in
theorem cutroomref16_Take.calls (k : Nat) (A0 : Option Addr) (c0 : Nat) (l0 : List Int) (r1 : Int) (r2 : Int) (r3 : Int) (r4 : List Int) (r5 : Int) (r6 : Int) (w : World) (hr0 : Kd.C (Kd.int .u8) w A0 l0.length l0) (hc0 : l0.length ≤ c0) (h : cutroomref16_Take.f k l0 = some (r1, r2, r3, r4, r5, r6)) :
    Calls Try.prog 23 #[.slice A0 l0.length c0] w fun e w' => ∃ v3_ : Value, e = .returned (.tuple #[.agg #[.int .i64 r1, .int .i64 r2, .int .i64 r3, v3_], .int .i64 r5, .int .i64 r6]) ∧ Kd.R (Kd.int .u8) 5 w' w.heap.size (fun _ => True) v3_ r4 ∧ Below w.heap.size w w' := by
  have hu29 := Try.underlying29
  have HR0 := Aside0.mk hr0
  have HC0 := Aside0.mk hc0
  clear hr0 hc0
  have HB := Aside0.mk (Below.refl w.heap.size w)
  have H : (if (l0.length : Int) < 9 then (some (0, 0, 0, ([] : List Int), 0, 4)) else (if 8 < (l0.length : Int) then (if 4 < (l0.length : Int) then (if 5 < (l0.length : Int) then (if 0 < (l0.length : Int) then (if (rd l0 0) = 0 then (if 1 < (l0.length : Int) then (if (rd l0 1) = 0 then (if 2 < (l0.length : Int) then (if (rd l0 2) = 1 then (if 3 < (l0.length : Int) then (if (rd l0 3) < 192 then (cutroomref16_Take.j0 k l0 (wrap64 (rd l0 8)) (Go.bits .or .i64 (wrap64 ((wrap64 (rd l0 4)) * 256)) (wrap64 (rd l0 5))) true) else (if (rd l0 3) > 239 then (cutroomref16_Take.j0 k l0 (wrap64 (rd l0 8)) (Go.bits .or .i64 (wrap64 ((wrap64 (rd l0 4)) * 256)) (wrap64 (rd l0 5))) true) else (if 6 < (l0.length : Int) then (if (rd l0 6) = 128 then (cutroomref16_Take.j0 k l0 (wrap64 (rd l0 8)) (Go.bits .or .i64 (wrap64 ((wrap64 (rd l0 4)) * 256)) (wrap64 (rd l0 5))) (decide ((Go.bits .or .i64 (wrap64 ((wrap64 (rd l0 4)) * 256)) (wrap64 (rd l0 5))) < (wrap64 (3 + (wrap64 (rd l0 8))))))) else (cutroomref16_Take.j0 k l0 (wrap64 (rd l0 8)) (Go.bits .or .i64 (wrap64 ((wrap64 (rd l0 4)) * 256)) (wrap64 (rd l0 5))) true)) else (none)))) else (none)) else (cutroomref16_Take.j0 k l0 (wrap64 (rd l0 8)) (Go.bits .or .i64 (wrap64 ((wrap64 (rd l0 4)) * 256)) (wrap64 (rd l0 5))) true)) else (none)) else (cutroomref16_Take.j0 k l0 (wrap64 (rd l0 8)) (Go.bits .or .i64 (wrap64 ((wrap64 (rd l0 4)) * 256)) (wrap64 (rd l0 5))) true)) else (none)) else (cutroomref16_Take.j0 k l0 (wrap64 (rd l0 8)) (Go.bits .or .i64 (wrap64 ((wrap64 (rd l0 4)) * 256)) (wrap64 (rd l0 5))) true)) else (none)) else (none)) else (none)) else (none))) = some (r1, r2, r3, r4, r5, r6) := h
  clear h
  by_cases c2 : (l0.length : Int) < 9
  · rw [if_pos c2] at H
    have c2b0 : decide ((l0.length : Int) < 9) = true := decide_eq_true c2
    have c2b1 : decide (l0.length < 9) = true := decide_eq_true (by omega)
    clear c2
    simp only [Option.some.injEq, Prod.mk.injEq] at H
    obtain ⟨rfl, rfl, rfl, rfl, rfl, rfl⟩ := H
    go_enter Try.func23, Try.ntmps23
    go_wp2_with (first | ((with_reducible refine gate_dst (N := 2) rfl ?_); refine box_event ?hg (N := 2) ?hd (cs := #[.int .i64 0, .int .i64 0, .int .i64 0, .slice none 0 0]) (t := 29) ?hr ?_; (case hd => rfl); (case hg => rfl); (case hr => first | (go_simp; done) | (go_simp; rfl)); intro gb278 hg w3 hbox hb; have n0_ := Aside0.mk (below_step (by repeat (first | (with_reducible first | exact HB.out | apply below_alloc | apply pw_below_drewN | apply below_drew1) | exact HB.out)) hb); have n1_ := Aside0.mk (hbox); have n2_ := Aside0.mk ((by rw [hg]; exact (below_size (by repeat (first | (with_reducible first | exact HB.out | apply below_alloc | apply pw_below_drewN | apply below_drew1) | exact HB.out))) : w.heap.size ≤ gb278)); have n3_ := Aside0.mk ((by rw [hg]; exact (below_size (by repeat (first | (with_reducible first | exact HB.out | apply below_alloc | apply pw_below_drewN | apply below_drew1) | exact HB.out))) : w.heap.size ≤ gb278)); clear HB; have HB := n0_; have BK278 := n1_; have GW278 := n2_; have GE278 := n3_; clear n0_ n1_ n2_ n3_; clear hb hbox hg; have hcz4_0 : w3.cell? ⟨gb278, 0, none⟩ = some (.int .i64 0) := (blk_cell BK278.out 0).trans rfl; have hcz4_1 : w3.cell? ⟨gb278, 1, none⟩ = some (.int .i64 0) := (blk_cell BK278.out 1).trans rfl; have hcz4_2 : w3.cell? ⟨gb278, 2, none⟩ = some (.int .i64 0) := (blk_cell BK278.out 2).trans rfl; have hcz4_3 : w3.cell? ⟨gb278, 3, none⟩ = some (.slice none 0 0) := (blk_cell BK278.out 3).trans rfl; have hfz4_0 := blk_frozen BK278.out 0; have hfz4_1 := blk_frozen BK278.out 1; have hfz4_2 := blk_frozen BK278.out 2; have hfz4_3 := blk_frozen BK278.out 3))
    refine bodyPost_ret (results_ctt rfl _ _ gb278 29 #[.int .i64 0, .int .i64 0, .int .i64 0, .slice none 0 0] (0, 0) _ rfl (by (with_reducible repeat (first | refine blk_drewN ?_ _ | refine blk_drew ?_ | refine blk_alloc ?_ _)); refine blk_put (cs := #[.int .i64 0, .int .i64 0, .int .i64 0, .slice none 0 0]) ?_ 3 _ rfl; (with_reducible repeat (first | refine blk_drewN ?_ _ | refine blk_drew ?_ | refine blk_alloc ?_ _)); refine blk_put (cs := #[.int .i64 0, .int .i64 0, .int .i64 0, .slice none 0 0]) ?_ 2 _ rfl; (with_reducible repeat (first | refine blk_drewN ?_ _ | refine blk_drew ?_ | refine blk_alloc ?_ _)); refine blk_put (cs := #[.int .i64 0, .int .i64 0, .int .i64 0, .slice none 0 0]) ?_ 1 _ rfl; (with_reducible repeat (first | refine blk_drewN ?_ _ | refine blk_drew ?_ | refine blk_alloc ?_ _)); refine blk_put (cs := #[.int .i64 0, .int .i64 0, .int .i64 0, .slice none 0 0]) ?_ 0 _ rfl; (with_reducible repeat (first | refine blk_drewN ?_ _ | refine blk_drew ?_ | refine blk_alloc ?_ _)); exact BK278.out) Try.underlying29 rfl (by kernel_rfl)) rfl ?_
    exact ⟨_, by first | rfl | (simp [errW_none, errW_some] <;> rfl) | (simp [*, errW_none, errW_some] <;> rfl), by first | exact Kd.R_nil _ _ _ _ _ | exact Kd.N_nil _ _ _ _ _ | exact Kd.V_nil _ _ _ _ _ | exact Kd.Q_nil _ _ _ _ _ | exact Kd.S_nil _ _ _ _ _, by repeat (first | (with_reducible first | exact HB.out | apply below_alloc | apply pw_below_drewN | apply below_drew1 | refine below_set ?_ GE278.out) | exact HB.out)⟩
  · rw [if_neg c2] at H
    have c2b0 : decide ((l0.length : Int) < 9) = false := decide_eq_false c2
    have c2b1 : decide (l0.length < 9) = false := decide_eq_false (by omega)
    clear c2
    by_cases c5 : 8 < (l0.length : Int)
    · rw [if_pos c5] at H
      have c5b0 : decide (8 < (l0.length : Int)) = true := decide_eq_true c5
      have c5b1 : decide (8 < l0.length) = true := decide_eq_true (by omega)
      clear c5
      by_cases c6 : 4 < (l0.length : Int)
      · rw [if_pos c6] at H
        have c6b0 : decide (4 < (l0.length : Int)) = true := decide_eq_true c6
        have c6b1 : decide (4 < l0.length) = true := decide_eq_true (by omega)
        clear c6
        by_cases c7 : 5 < (l0.length : Int)
        · rw [if_pos c7] at H
          have c7b0 : decide (5 < (l0.length : Int)) = true := decide_eq_true c7
          have c7b1 : decide (5 < l0.length) = true := decide_eq_true (by omega)
          clear c7
          have HC8 := Aside0.mk H
          clear H
          go_enter Try.func23, Try.ntmps23
          try go_wp2_with (first | ((with_reducible refine gate_dst (N := 2) rfl ?_); refine box_event ?hg (N := 2) ?hd (cs := #[.int .i64 0, .int .i64 0, .int .i64 0, .slice none 0 0]) (t := 29) ?hr ?_; (case hd => rfl); (case hg => rfl); (case hr => first | (go_simp; done) | (go_simp; rfl)); intro gb278 hg w9 hbox hb; have n0_ := Aside0.mk (below_step (by repeat (first | (with_reducible first | exact HB.out | apply below_alloc | apply pw_below_drewN | apply below_drew1) | exact HB.out)) hb); have n1_ := Aside0.mk (hbox); have n2_ := Aside0.mk ((by rw [hg]; exact (below_size (by repeat (first | (with_reducible first | exact HB.out | apply below_alloc | apply pw_below_drewN | apply below_drew1) | exact HB.out))) : w.heap.size ≤ gb278)); have n3_ := Aside0.mk ((by rw [hg]; exact (below_size (by repeat (first | (with_reducible first | exact HB.out | apply below_alloc | apply pw_below_drewN | apply below_drew1) | exact HB.out))) : w.heap.size ≤ gb278)); clear HB; have HB := n0_; have BK278 := n1_; have GW278 := n2_; have GE278 := n3_; clear n0_ n1_ n2_ n3_; clear hb hbox hg))
          have n0_ := Aside0.mk (blk_drew BK278.out)
          have n1_ := Aside0.mk (below_drew1 HB.out)
          clear BK278
          clear HB
          have BK278 := n0_
          have HB := n1_
          clear n0_ n1_
          have p279 : 0 ≤ (8 : Int) := (by omega)
          have q279 : 8 < (l0.length : Int) := of_decide_eq_true (by first | (with_reducible assumption) | assumption)
          obtain ⟨ad279, e279, hx279_0⟩ := Kd.at_int HR0.out 8 p279 q279
          have hw279_0 := hx279_0
          (try rw [show ((8 : Int)).toNat = 8 from rfl] at hw279_0)
          (try rw [show 8 * 1 = 8 from rfl] at hw279_0)
          (try simp only [Nat.reduceMul, Nat.reduceEqDiff, Go.Addr.add, ↓reduceIte] at hw279_0)
          cases e279
          (try simp only [show (8 : Int).toNat = 8 from rfl, Nat.reduceMul, Nat.reduceEqDiff, Go.Addr.add, ↓reduceIte] at hx279_0)
          have qi279 : (8 < l0.length) = True := eq_true (by omega)
          (try rw [show ((8 : Int)).toNat = 8 from rfl] at hx279_0)
          replace hx279_0 := (HB.out.cell (World.block_lt_of_cell? w _ hx279_0)).trans hx279_0
          replace p279 := eq_true p279
          replace q279 := eq_true q279
          have p280 : 0 ≤ (4 : Int) := (by omega)
          have q280 : 4 < (l0.length : Int) := of_decide_eq_true (by first | (with_reducible assumption) | assumption)
          obtain ⟨ad280, e280, hx280_0⟩ := Kd.at_int HR0.out 4 p280 q280
          have hw280_0 := hx280_0
          (try rw [show ((4 : Int)).toNat = 4 from rfl] at hw280_0)
          (try rw [show 4 * 1 = 4 from rfl] at hw280_0)
          (try simp only [Nat.reduceMul, Nat.reduceEqDiff, Go.Addr.add, ↓reduceIte] at hw280_0)
          obtain rfl : ad279 = ad280 := (by injection e280)
          (try simp only [show (4 : Int).toNat = 4 from rfl, Nat.reduceMul, Nat.reduceEqDiff, Go.Addr.add, ↓reduceIte] at hx280_0)
          have qi280 : (4 < l0.length) = True := eq_true (by omega)
          (try rw [show ((4 : Int)).toNat = 4 from rfl] at hx280_0)
          replace hx280_0 := (HB.out.cell (World.block_lt_of_cell? w _ hx280_0)).trans hx280_0
          replace p280 := eq_true p280
          replace q280 := eq_true q280
          have p281 : 0 ≤ (5 : Int) := (by omega)
          have q281 : 5 < (l0.length : Int) := of_decide_eq_true (by first | (with_reducible assumption) | assumption)
          obtain ⟨ad281, e281, hx281_0⟩ := Kd.at_int HR0.out 5 p281 q281
          have hw281_0 := hx281_0
          (try rw [show ((5 : Int)).toNat = 5 from rfl] at hw281_0)
          (try rw [show 5 * 1 = 5 from rfl] at hw281_0)
          (try simp only [Nat.reduceMul, Nat.reduceEqDiff, Go.Addr.add, ↓reduceIte] at hw281_0)
          obtain rfl : ad279 = ad281 := (by injection e281)
          (try simp only [show (5 : Int).toNat = 5 from rfl, Nat.reduceMul, Nat.reduceEqDiff, Go.Addr.add, ↓reduceIte] at hx281_0)
          have qi281 : (5 < l0.length) = True := eq_true (by omega)
          (try rw [show ((5 : Int)).toNat = 5 from rfl] at hx281_0)
          replace hx281_0 := (HB.out.cell (World.block_lt_of_cell? w _ hx281_0)).trans hx281_0
          replace p281 := eq_true p281
          replace q281 := eq_true q281
          refine start_ (n := 16) (S := fun w' => w'.cell? ⟨ad279.block, ad279.off + 8, none⟩ = some (.int .u8 (rd l0 8)) ∧ w'.cell? ⟨ad279.block, ad279.off + 4, none⟩ = some (.int .u8 (rd l0 4)) ∧ w'.cell? ⟨ad279.block, ad279.off + 5, none⟩ = some (.int .u8 (rd l0 5))) (ds := []) #[false, false, false, false, false, false, false, false, false, false, false, false, false, false, false, false] (by kernel_rfl) rfl rfl ⟨((HB.out.cell (World.block_lt_of_cell? w _ hw279_0)).trans hw279_0), ((HB.out.cell (World.block_lt_of_cell? w _ hw280_0)).trans hw280_0), ((HB.out.cell (World.block_lt_of_cell? w _ hw281_0)).trans hw281_0)⟩ (fun hHeld => ?_); refine with_tabW cutroomref16_Take.tab3 cutroomref16_Take.bits3 (fun HT_ HW_ => ?_)
          generalize w9.drew = w10 at BK278 HB hx279_0 hx280_0 hx281_0 hHeld ⊢
          refine pure_ (i := 0) (N := some 14) (v := ?_) (a' := ?_) #[true, false, false, false, false, false, false, false, false, false, false, false, false, false, false, false] rfl rfl (any_of HT_.out (by kernel_rfl)) (fun _ _ _ h => h) (Or.inl ⟨by rfl, ?_⟩) ?_ ?_
          rotate_left
          · intro w'
            go_simp
            with_reducible rfl
          rotate_left
          · simp only [Act.put, List.setIfInBounds_toArray, List.set_cons_zero, List.set_cons_succ, i64_w, i32_w]
            rfl
          refine pure_ (i := 1) (N := some 15) (v := ?_) (a' := ?_) #[true, true, false, false, false, false, false, false, false, false, false, false, false, false, false, false] rfl rfl (any_of HT_.out (by kernel_rfl)) (fun _ _ _ h => h) (Or.inl ⟨by rfl, ?_⟩) ?_ ?_
          rotate_left
          · intro w'
            go_simp
            with_reducible rfl
          rotate_left
          · simp only [Act.put, List.setIfInBounds_toArray, List.set_cons_zero, List.set_cons_succ, i64_w, i32_w]
            rfl
          refine pure_ (i := 4) (N := some 18) (v := ?_) (a' := ?_) #[true, true, false, false, true, false, false, false, false, false, false, false, false, false, false, false] rfl rfl (any_of HT_.out (by kernel_rfl)) (fun _ _ _ h => h) (Or.inl ⟨by rfl, ?_⟩) ?_ ?_
          rotate_left
          · intro w'
            go_simp
            with_reducible rfl
          rotate_left
          · simp only [Act.put, List.setIfInBounds_toArray, List.set_cons_zero, List.set_cons_succ, i64_w, i32_w]
            rfl
          refine pure_ (i := 5) (N := some 19) (v := ?_) (a' := ?_) #[true, true, false, false, true, true, false, false, false, false, false, false, false, false, false, false] rfl rfl (any_of HT_.out (by kernel_rfl)) (fun _ _ _ h => h) (Or.inl ⟨by rfl, ?_⟩) ?_ ?_
          rotate_left
          · intro w'
            go_simp
            with_reducible rfl
          rotate_left
          · simp only [Act.put, List.setIfInBounds_toArray, List.set_cons_zero, List.set_cons_succ, i64_w, i32_w]
            rfl
          refine pure_ (i := 9) (N := some 23) (v := ?_) (a' := ?_) #[true, true, false, false, true, true, false, false, false, true, false, false, false, false, false, false] rfl rfl (any_of HT_.out (by kernel_rfl)) (fun _ _ _ h => h) (Or.inl ⟨by rfl, ?_⟩) ?_ ?_
          rotate_left
          · intro w'
            go_simp
            with_reducible rfl
          rotate_left
          · simp only [Act.put, List.setIfInBounds_toArray, List.set_cons_zero, List.set_cons_succ, i64_w, i32_w]
            rfl
          refine pure_ (i := 10) (N := some 24) (v := ?_) (a' := ?_) #[true, true, false, false, true, true, false, false, false, true, true, false, false, false, false, false] rfl rfl (any_of HT_.out (by kernel_rfl)) (fun _ _ _ h => h) (Or.inl ⟨by rfl, ?_⟩) ?_ ?_
          rotate_left
          · intro w'
            go_simp
            with_reducible rfl
          rotate_left
          · simp only [Act.put, List.setIfInBounds_toArray, List.set_cons_zero, List.set_cons_succ, i64_w, i32_w]
            rfl
          refine take_ (i := 2) (N := some 16) (v := ?_) (a' := ?_) #[true, true, true, false, true, true, false, false, false, true, true, false, false, false, false, false] rfl rfl (take_ofW HT_.out HW_.out (by kernel_rfl)) (fun _ _ _ h => h) (Or.inl ⟨by rfl, ?_⟩) hHeld ?_ ?_
          rotate_left
          · rintro w' ⟨s0, s1, s2⟩
            go_simp
            with_reducible rfl
          rotate_left
          · simp only [Act.put, List.setIfInBounds_toArray, List.set_cons_zero, List.set_cons_succ, i64_w, i32_w]
            rfl
          refine pure_ (i := 3) (N := some 17) (v := ?_) (a' := ?_) #[true, true, true, true, true, true, false, false, false, true, true, false, false, false, false, false] rfl rfl (any_of HT_.out (by kernel_rfl)) (fun _ _ _ h => h) (Or.inl ⟨by rfl, ?_⟩) ?_ ?_
          rotate_left
          · intro w'
            go_simp
            with_reducible rfl
          rotate_left
          · simp only [Act.put, List.setIfInBounds_toArray, List.set_cons_zero, List.set_cons_succ, i64_w, i32_w]
            rfl
          refine pure_ (i := 14) (N := some 5) (v := ?_) (a' := ?_) #[true, true, true, true, true, true, false, false, false, true, true, false, false, false, true, false] rfl rfl (any_of HT_.out (by kernel_rfl)) (fun _ _ _ h => h) (Or.inl ⟨by rfl, ?_⟩) ?_ ?_
          rotate_left
          · intro w'
            go_simp
            with_reducible rfl
          rotate_left
          · simp only [Act.put, List.setIfInBounds_toArray, List.set_cons_zero, List.set_cons_succ, i64_w, i32_w]
            rfl
          refine take_ (i := 6) (N := some 20) (v := ?_) (a' := ?_) #[true, true, true, true, true, true, true, false, false, true, true, false, false, false, true, false] rfl rfl (take_ofW HT_.out HW_.out (by kernel_rfl)) (fun _ _ _ h => h) (Or.inl ⟨by rfl, ?_⟩) hHeld ?_ ?_
          rotate_left
          · rintro w' ⟨s0, s1, s2⟩
            go_simp
            with_reducible rfl
          rotate_left
          · simp only [Act.put, List.setIfInBounds_toArray, List.set_cons_zero, List.set_cons_succ, i64_w, i32_w]
            rfl
          refine pure_ (i := 7) (N := some 21) (v := ?_) (a' := ?_) #[true, true, true, true, true, true, true, true, false, true, true, false, false, false, true, false] rfl rfl (any_of HT_.out (by kernel_rfl)) (fun _ _ _ h => h) (Or.inl ⟨by rfl, ?_⟩) ?_ ?_
          rotate_left
          · intro w'
            go_simp
            with_reducible rfl
          rotate_left
          · simp only [Act.put, List.setIfInBounds_toArray, List.set_cons_zero, List.set_cons_succ, i64_w, i32_w]
            rfl
          refine pure_ (i := 8) (N := some 22) (v := ?_) (a' := ?_) #[true, true, true, true, true, true, true, true, true, true, true, false, false, false, true, false] rfl rfl (any_of HT_.out (by kernel_rfl)) (fun _ _ _ h => h) (Or.inl ⟨by rfl, ?_⟩) ?_ ?_
          rotate_left
          · intro w'
            go_simp
            with_reducible rfl
          rotate_left
          · simp only [Act.put, List.setIfInBounds_toArray, List.set_cons_zero, List.set_cons_succ, i64_w, i32_w]
            rfl
          refine take_ (i := 11) (N := some 25) (v := ?_) (a' := ?_) #[true, true, true, true, true, true, true, true, true, true, true, true, false, false, true, false] rfl rfl (take_ofW HT_.out HW_.out (by kernel_rfl)) (fun _ _ _ h => h) (Or.inl ⟨by rfl, ?_⟩) hHeld ?_ ?_
          rotate_left
          · rintro w' ⟨s0, s1, s2⟩
            go_simp
            with_reducible rfl
          rotate_left
          · simp only [Act.put, List.setIfInBounds_toArray, List.set_cons_zero, List.set_cons_succ, i64_w, i32_w]
            rfl
          refine pure_ (i := 12) (N := some 26) (v := ?_) (a' := ?_) #[true, true, true, true, true, true, true, true, true, true, true, true, true, false, true, false] rfl rfl (any_of HT_.out (by kernel_rfl)) (fun _ _ _ h => h) (Or.inl ⟨by rfl, ?_⟩) ?_ ?_
          rotate_left
          · intro w'
            go_simp
            with_reducible rfl
          rotate_left
          · simp only [Act.put, List.setIfInBounds_toArray, List.set_cons_zero, List.set_cons_succ, i64_w, i32_w]
            rfl
          refine pure_ (i := 13) (N := some 27) (v := ?_) (a' := ?_) #[true, true, true, true, true, true, true, true, true, true, true, true, true, true, true, false] rfl rfl (any_of HT_.out (by kernel_rfl)) (fun _ _ _ h => h) (Or.inl ⟨by rfl, ?_⟩) ?_ ?_
          rotate_left
          · intro w'
            go_simp
            with_reducible rfl
          rotate_left
          · simp only [Act.put, List.setIfInBounds_toArray, List.set_cons_zero, List.set_cons_succ, i64_w, i32_w]
            rfl
          refine pure_ (i := 15) (N := some 6) (v := ?_) (a' := ?_) #[true, true, true, true, true, true, true, true, true, true, true, true, true, true, true, true] rfl rfl (any_of HT_.out (by kernel_rfl)) (fun _ _ _ h => h) (Or.inl ⟨by rfl, ?_⟩) ?_ ?_
          rotate_left
          · intro w'
            go_simp
            with_reducible rfl
          rotate_left
          · simp only [Act.put, List.setIfInBounds_toArray, List.set_cons_zero, List.set_cons_succ, i64_w, i32_w]
            rfl
          refine done_ (done_of HT_.out (by kernel_rfl)) ?_
          go_upto_region 4 with (fail)
          go_cut [67] (fun v67 wc => ∃ (kq : Nat) (x67_7 : Bool), v67 = .bool x67_7 ∧ Aside0 (cutroomref16_Take.j0 kq l0 (wrap64 (rd l0 8)) (Go.bits .or .i64 (wrap64 ((wrap64 (rd l0 4)) * 256)) (wrap64 (rd l0 5))) x67_7 = some (r1, r2, r3, r4, r5, r6)) ∧ Aside0 (kq ≤ k) ∧ Aside0 (wc.heap[gb278]? = some (.cells #[.int .i64 0, .int .i64 0, .int .i64 0, (.slice none 0 0)] 29 (0, 0))) ∧ Aside0 (Below w.heap.size w wc))
          case first =>
            have H := HC8.out
            clear HC8
            by_cases c11 : 0 < (l0.length : Int)
            · rw [if_pos c11] at H
              have c11b0 : decide (0 < (l0.length : Int)) = true := decide_eq_true c11
              have c11b1 : decide (0 < l0.length) = true := decide_eq_true (by omega)
              clear c11
              (first | rw [c11b0] | (simp only [i64_w, i32_w]; rw [c11b0]) | skip)
              by_cases c12 : (rd l0 0) = 0
              · rw [if_pos c12] at H
                have c12b0 : ((rd l0 0) == 0) = true := beq_iff_eq.mpr c12
                have c12b1 : ((rd l0 0) != 0) = false := bne_eq_false_iff_eq.mpr c12
                clear c12
                by_cases c13 : 1 < (l0.length : Int)
                · rw [if_pos c13] at H
                  have c13b0 : decide (1 < (l0.length : Int)) = true := decide_eq_true c13
                  have c13b1 : decide (1 < l0.length) = true := decide_eq_true (by omega)
                  clear c13
                  by_cases c14 : (rd l0 1) = 0
                  · rw [if_pos c14] at H
                    have c14b0 : ((rd l0 1) == 0) = true := beq_iff_eq.mpr c14
                    have c14b1 : ((rd l0 1) != 0) = false := bne_eq_false_iff_eq.mpr c14
                    clear c14
                    by_cases c15 : 2 < (l0.length : Int)
                    · rw [if_pos c15] at H
                      have c15b0 : decide (2 < (l0.length : Int)) = true := decide_eq_true c15
                      have c15b1 : decide (2 < l0.length) = true := decide_eq_true (by omega)
                      clear c15
                      by_cases c16 : (rd l0 2) = 1
                      · rw [if_pos c16] at H
                        have c16b0 : ((rd l0 2) == 1) = true := beq_iff_eq.mpr c16
                        have c16b1 : ((rd l0 2) != 1) = false := bne_eq_false_iff_eq.mpr c16
                        clear c16
                        by_cases c17 : 3 < (l0.length : Int)
                        · rw [if_pos c17] at H
                          have c17b0 : decide (3 < (l0.length : Int)) = true := decide_eq_true c17
                          have c17b1 : decide (3 < l0.length) = true := decide_eq_true (by omega)
                          clear c17
                          by_cases c18 : (rd l0 3) < 192
                          · rw [if_pos c18] at H
                            have c18b0 : decide ((rd l0 3) < 192) = true := decide_eq_true c18
                            clear c18
                            have H' := Aside0.mk H
                            clear H
                            have p282 : 0 ≤ (0 : Int) := (by omega)
                            have q282 : 0 < (l0.length : Int) := of_decide_eq_true (by first | (with_reducible assumption) | assumption)
                            obtain ⟨ad282, e282, hx282_0⟩ := Kd.at_int HR0.out 0 p282 q282
                            obtain rfl : ad279 = ad282 := (by injection e282)
                            have qi282 : (0 < l0.length) = True := eq_true (by omega)
                            (try rw [show ((0 : Int)).toNat = 0 from rfl] at hx282_0)
                            (try rw [Addr.add_zero'] at hx282_0)
                            replace hx282_0 := (HB.out.cell (World.block_lt_of_cell? w _ hx282_0)).trans hx282_0
                            replace p282 := eq_true p282
                            replace q282 := eq_true q282
                            have p283 : 0 ≤ (1 : Int) := (by omega)
                            have q283 : 1 < (l0.length : Int) := of_decide_eq_true (by first | (with_reducible assumption) | assumption)
                            obtain ⟨ad283, e283, hx283_0⟩ := Kd.at_int HR0.out 1 p283 q283
                            obtain rfl : ad279 = ad283 := (by injection e283)
                            (try simp only [show (1 : Int).toNat = 1 from rfl, Nat.reduceMul, Nat.reduceEqDiff, Go.Addr.add, ↓reduceIte] at hx283_0)
                            have qi283 : (1 < l0.length) = True := eq_true (by omega)
                            (try rw [show ((1 : Int)).toNat = 1 from rfl] at hx283_0)
                            replace hx283_0 := (HB.out.cell (World.block_lt_of_cell? w _ hx283_0)).trans hx283_0
                            replace p283 := eq_true p283
                            replace q283 := eq_true q283
                            have p284 : 0 ≤ (2 : Int) := (by omega)
                            have q284 : 2 < (l0.length : Int) := of_decide_eq_true (by first | (with_reducible assumption) | assumption)
                            obtain ⟨ad284, e284, hx284_0⟩ := Kd.at_int HR0.out 2 p284 q284
                            obtain rfl : ad279 = ad284 := (by injection e284)
                            (try simp only [show (2 : Int).toNat = 2 from rfl, Nat.reduceMul, Nat.reduceEqDiff, Go.Addr.add, ↓reduceIte] at hx284_0)
                            have qi284 : (2 < l0.length) = True := eq_true (by omega)
                            (try rw [show ((2 : Int)).toNat = 2 from rfl] at hx284_0)
                            replace hx284_0 := (HB.out.cell (World.block_lt_of_cell? w _ hx284_0)).trans hx284_0
                            replace p284 := eq_true p284
                            replace q284 := eq_true q284
                            have p285 : 0 ≤ (3 : Int) := (by omega)
                            have q285 : 3 < (l0.length : Int) := of_decide_eq_true (by first | (with_reducible assumption) | assumption)
                            obtain ⟨ad285, e285, hx285_0⟩ := Kd.at_int HR0.out 3 p285 q285
                            obtain rfl : ad279 = ad285 := (by injection e285)
                            (try simp only [show (3 : Int).toNat = 3 from rfl, Nat.reduceMul, Nat.reduceEqDiff, Go.Addr.add, ↓reduceIte] at hx285_0)
                            have qi285 : (3 < l0.length) = True := eq_true (by omega)
                            (try rw [show ((3 : Int)).toNat = 3 from rfl] at hx285_0)
                            replace hx285_0 := (HB.out.cell (World.block_lt_of_cell? w _ hx285_0)).trans hx285_0
                            replace p285 := eq_true p285
                            replace q285 := eq_true q285
                            go_wp2
                            go_meet
                            case rel => exact ⟨_, (true), (by first | rfl | (simp; done) | (simp [*]; done)), H', ⟨by first | omega | exact Nat.le_refl _⟩, ⟨by (with_reducible repeat (first | refine blk_drewN ?_ _ | refine blk_drew ?_ | refine blk_alloc ?_ _)); exact BK278.out⟩, ⟨by repeat (first | (with_reducible first | exact HB.out | apply below_alloc | apply pw_below_drewN | apply below_drew1 | refine below_set ?_ GE278.out) | exact HB.out)⟩⟩
                          · rw [if_neg c18] at H
                            have c18b0 : decide ((rd l0 3) < 192) = false := decide_eq_false c18
                            clear c18
                            by_cases c19 : (rd l0 3) > 239
                            · rw [if_pos c19] at H
                              have c19b0 : decide (239 < (rd l0 3)) = true := decide_eq_true c19
                              clear c19
                              have H' := Aside0.mk H
                              clear H
                              have p282 : 0 ≤ (0 : Int) := (by omega)
                              have q282 : 0 < (l0.length : Int) := of_decide_eq_true (by first | (with_reducible assumption) | assumption)
                              obtain ⟨ad282, e282, hx282_0⟩ := Kd.at_int HR0.out 0 p282 q282
                              obtain rfl : ad279 = ad282 := (by injection e282)
                              have qi282 : (0 < l0.length) = True := eq_true (by omega)
                              (try rw [show ((0 : Int)).toNat = 0 from rfl] at hx282_0)
                              (try rw [Addr.add_zero'] at hx282_0)
                              replace hx282_0 := (HB.out.cell (World.block_lt_of_cell? w _ hx282_0)).trans hx282_0
                              replace p282 := eq_true p282
                              replace q282 := eq_true q282
                              have p283 : 0 ≤ (1 : Int) := (by omega)
                              have q283 : 1 < (l0.length : Int) := of_decide_eq_true (by first | (with_reducible assumption) | assumption)
                              obtain ⟨ad283, e283, hx283_0⟩ := Kd.at_int HR0.out 1 p283 q283
                              obtain rfl : ad279 = ad283 := (by injection e283)
                              (try simp only [show (1 : Int).toNat = 1 from rfl, Nat.reduceMul, Nat.reduceEqDiff, Go.Addr.add, ↓reduceIte] at hx283_0)
                              have qi283 : (1 < l0.length) = True := eq_true (by omega)
                              (try rw [show ((1 : Int)).toNat = 1 from rfl] at hx283_0)
                              replace hx283_0 := (HB.out.cell (World.block_lt_of_cell? w _ hx283_0)).trans hx283_0
                              replace p283 := eq_true p283
                              replace q283 := eq_true q283
                              have p284 : 0 ≤ (2 : Int) := (by omega)
                              have q284 : 2 < (l0.length : Int) := of_decide_eq_true (by first | (with_reducible assumption) | assumption)
                              obtain ⟨ad284, e284, hx284_0⟩ := Kd.at_int HR0.out 2 p284 q284
                              obtain rfl : ad279 = ad284 := (by injection e284)
                              (try simp only [show (2 : Int).toNat = 2 from rfl, Nat.reduceMul, Nat.reduceEqDiff, Go.Addr.add, ↓reduceIte] at hx284_0)
                              have qi284 : (2 < l0.length) = True := eq_true (by omega)
                              (try rw [show ((2 : Int)).toNat = 2 from rfl] at hx284_0)
                              replace hx284_0 := (HB.out.cell (World.block_lt_of_cell? w _ hx284_0)).trans hx284_0
                              replace p284 := eq_true p284
                              replace q284 := eq_true q284
                              have p285 : 0 ≤ (3 : Int) := (by omega)
                              have q285 : 3 < (l0.length : Int) := of_decide_eq_true (by first | (with_reducible assumption) | assumption)
                              obtain ⟨ad285, e285, hx285_0⟩ := Kd.at_int HR0.out 3 p285 q285
                              obtain rfl : ad279 = ad285 := (by injection e285)
                              (try simp only [show (3 : Int).toNat = 3 from rfl, Nat.reduceMul, Nat.reduceEqDiff, Go.Addr.add, ↓reduceIte] at hx285_0)
                              have qi285 : (3 < l0.length) = True := eq_true (by omega)
                              (try rw [show ((3 : Int)).toNat = 3 from rfl] at hx285_0)
                              replace hx285_0 := (HB.out.cell (World.block_lt_of_cell? w _ hx285_0)).trans hx285_0
                              replace p285 := eq_true p285
                              replace q285 := eq_true q285
                              have p286 : 0 ≤ (3 : Int) := (by omega)
                              have q286 : 3 < (l0.length : Int) := of_decide_eq_true (by first | (with_reducible assumption) | assumption)
                              obtain ⟨ad286, e286, hx286_0⟩ := Kd.at_int HR0.out 3 p286 q286
                              obtain rfl : ad279 = ad286 := (by injection e286)
                              (try simp only [show (3 : Int).toNat = 3 from rfl, Nat.reduceMul, Nat.reduceEqDiff, Go.Addr.add, ↓reduceIte] at hx286_0)
                              have qi286 : (3 < l0.length) = True := eq_true (by omega)
                              (try rw [show ((3 : Int)).toNat = 3 from rfl] at hx286_0)
                              replace hx286_0 := (HB.out.cell (World.block_lt_of_cell? w _ hx286_0)).trans hx286_0
                              replace p286 := eq_true p286
                              replace q286 := eq_true q286
                              go_wp2
                              go_meet
                              case rel => exact ⟨_, (true), (by first | rfl | (simp; done) | (simp [*]; done)), H', ⟨by first | omega | exact Nat.le_refl _⟩, ⟨by (with_reducible repeat (first | refine blk_drewN ?_ _ | refine blk_drew ?_ | refine blk_alloc ?_ _)); exact BK278.out⟩, ⟨by repeat (first | (with_reducible first | exact HB.out | apply below_alloc | apply pw_below_drewN | apply below_drew1 | refine below_set ?_ GE278.out) | exact HB.out)⟩⟩
                            · rw [if_neg c19] at H
                              have c19b0 : decide (239 < (rd l0 3)) = false := decide_eq_false c19
                              clear c19
                              by_cases c20 : 6 < (l0.length : Int)
                              · rw [if_pos c20] at H
                                have c20b0 : decide (6 < (l0.length : Int)) = true := decide_eq_true c20
                                have c20b1 : decide (6 < l0.length) = true := decide_eq_true (by omega)
                                clear c20
                                by_cases c21 : (rd l0 6) = 128
                                · rw [if_pos c21] at H
                                  have c21b0 : ((rd l0 6) == 128) = true := beq_iff_eq.mpr c21
                                  have c21b1 : ((rd l0 6) != 128) = false := bne_eq_false_iff_eq.mpr c21
                                  clear c21
                                  have H' := Aside0.mk H
                                  clear H
                                  have p282 : 0 ≤ (0 : Int) := (by omega)
                                  have q282 : 0 < (l0.length : Int) := of_decide_eq_true (by first | (with_reducible assumption) | assumption)
                                  obtain ⟨ad282, e282, hx282_0⟩ := Kd.at_int HR0.out 0 p282 q282
                                  obtain rfl : ad279 = ad282 := (by injection e282)
                                  have qi282 : (0 < l0.length) = True := eq_true (by omega)
                                  (try rw [show ((0 : Int)).toNat = 0 from rfl] at hx282_0)
                                  (try rw [Addr.add_zero'] at hx282_0)
                                  replace hx282_0 := (HB.out.cell (World.block_lt_of_cell? w _ hx282_0)).trans hx282_0
                                  replace p282 := eq_true p282
                                  replace q282 := eq_true q282
                                  have p283 : 0 ≤ (1 : Int) := (by omega)
                                  have q283 : 1 < (l0.length : Int) := of_decide_eq_true (by first | (with_reducible assumption) | assumption)
                                  obtain ⟨ad283, e283, hx283_0⟩ := Kd.at_int HR0.out 1 p283 q283
                                  obtain rfl : ad279 = ad283 := (by injection e283)
                                  (try simp only [show (1 : Int).toNat = 1 from rfl, Nat.reduceMul, Nat.reduceEqDiff, Go.Addr.add, ↓reduceIte] at hx283_0)
                                  have qi283 : (1 < l0.length) = True := eq_true (by omega)
                                  (try rw [show ((1 : Int)).toNat = 1 from rfl] at hx283_0)
                                  replace hx283_0 := (HB.out.cell (World.block_lt_of_cell? w _ hx283_0)).trans hx283_0
                                  replace p283 := eq_true p283
                                  replace q283 := eq_true q283
                                  have p284 : 0 ≤ (2 : Int) := (by omega)
                                  have q284 : 2 < (l0.length : Int) := of_decide_eq_true (by first | (with_reducible assumption) | assumption)
                                  obtain ⟨ad284, e284, hx284_0⟩ := Kd.at_int HR0.out 2 p284 q284
                                  obtain rfl : ad279 = ad284 := (by injection e284)
                                  (try simp only [show (2 : Int).toNat = 2 from rfl, Nat.reduceMul, Nat.reduceEqDiff, Go.Addr.add, ↓reduceIte] at hx284_0)
                                  have qi284 : (2 < l0.length) = True := eq_true (by omega)
                                  (try rw [show ((2 : Int)).toNat = 2 from rfl] at hx284_0)
                                  replace hx284_0 := (HB.out.cell (World.block_lt_of_cell? w _ hx284_0)).trans hx284_0
                                  replace p284 := eq_true p284
                                  replace q284 := eq_true q284
                                  have p285 : 0 ≤ (3 : Int) := (by omega)
                                  have q285 : 3 < (l0.length : Int) := of_decide_eq_true (by first | (with_reducible assumption) | assumption)
                                  obtain ⟨ad285, e285, hx285_0⟩ := Kd.at_int HR0.out 3 p285 q285
                                  obtain rfl : ad279 = ad285 := (by injection e285)
                                  (try simp only [show (3 : Int).toNat = 3 from rfl, Nat.reduceMul, Nat.reduceEqDiff, Go.Addr.add, ↓reduceIte] at hx285_0)
                                  have qi285 : (3 < l0.length) = True := eq_true (by omega)
                                  (try rw [show ((3 : Int)).toNat = 3 from rfl] at hx285_0)
                                  replace hx285_0 := (HB.out.cell (World.block_lt_of_cell? w _ hx285_0)).trans hx285_0
                                  replace p285 := eq_true p285
                                  replace q285 := eq_true q285
                                  have p286 : 0 ≤ (3 : Int) := (by omega)
                                  have q286 : 3 < (l0.length : Int) := of_decide_eq_true (by first | (with_reducible assumption) | assumption)
                                  obtain ⟨ad286, e286, hx286_0⟩ := Kd.at_int HR0.out 3 p286 q286
                                  obtain rfl : ad279 = ad286 := (by injection e286)
                                  (try simp only [show (3 : Int).toNat = 3 from rfl, Nat.reduceMul, Nat.reduceEqDiff, Go.Addr.add, ↓reduceIte] at hx286_0)
                                  have qi286 : (3 < l0.length) = True := eq_true (by omega)
                                  (try rw [show ((3 : Int)).toNat = 3 from rfl] at hx286_0)
                                  replace hx286_0 := (HB.out.cell (World.block_lt_of_cell? w _ hx286_0)).trans hx286_0
                                  replace p286 := eq_true p286
                                  replace q286 := eq_true q286
                                  have p287 : 0 ≤ (6 : Int) := (by omega)
                                  have q287 : 6 < (l0.length : Int) := of_decide_eq_true (by first | (with_reducible assumption) | assumption)
                                  obtain ⟨ad287, e287, hx287_0⟩ := Kd.at_int HR0.out 6 p287 q287
                                  obtain rfl : ad279 = ad287 := (by injection e287)
                                  (try simp only [show (6 : Int).toNat = 6 from rfl, Nat.reduceMul, Nat.reduceEqDiff, Go.Addr.add, ↓reduceIte] at hx287_0)
                                  have qi287 : (6 < l0.length) = True := eq_true (by omega)
                                  (try rw [show ((6 : Int)).toNat = 6 from rfl] at hx287_0)
                                  replace hx287_0 := (HB.out.cell (World.block_lt_of_cell? w _ hx287_0)).trans hx287_0
                                  replace p287 := eq_true p287
                                  replace q287 := eq_true q287
                                  go_wp2
                                  go_meet
                                  case rel => exact ⟨_, (decide ((Go.bits .or .i64 (wrap64 ((wrap64 (rd l0 4)) * 256)) (wrap64 (rd l0 5))) < (wrap64 (3 + (wrap64 (rd l0 8)))))), (by first | rfl | (simp; done) | (simp [*]; done)), H', ⟨by first | omega | exact Nat.le_refl _⟩, ⟨by (with_reducible repeat (first | refine blk_drewN ?_ _ | refine blk_drew ?_ | refine blk_alloc ?_ _)); exact BK278.out⟩, ⟨by repeat (first | (with_reducible first | exact HB.out | apply below_alloc | apply pw_below_drewN | apply below_drew1 | refine below_set ?_ GE278.out) | exact HB.out)⟩⟩
                                · rw [if_neg c21] at H
                                  have c21b0 : ((rd l0 6) == 128) = false := beq_eq_false_iff_ne.mpr c21
                                  have c21b1 : ((rd l0 6) != 128) = true := bne_iff_ne.mpr c21
                                  have H' := Aside0.mk H
                                  clear H
                                  have p282 : 0 ≤ (0 : Int) := (by omega)
                                  have q282 : 0 < (l0.length : Int) := of_decide_eq_true (by first | (with_reducible assumption) | assumption)
                                  obtain ⟨ad282, e282, hx282_0⟩ := Kd.at_int HR0.out 0 p282 q282
                                  obtain rfl : ad279 = ad282 := (by injection e282)
                                  have qi282 : (0 < l0.length) = True := eq_true (by omega)
                                  (try rw [show ((0 : Int)).toNat = 0 from rfl] at hx282_0)
                                  (try rw [Addr.add_zero'] at hx282_0)
                                  replace hx282_0 := (HB.out.cell (World.block_lt_of_cell? w _ hx282_0)).trans hx282_0
                                  replace p282 := eq_true p282
                                  replace q282 := eq_true q282
                                  have p283 : 0 ≤ (1 : Int) := (by omega)
                                  have q283 : 1 < (l0.length : Int) := of_decide_eq_true (by first | (with_reducible assumption) | assumption)
                                  obtain ⟨ad283, e283, hx283_0⟩ := Kd.at_int HR0.out 1 p283 q283
                                  obtain rfl : ad279 = ad283 := (by injection e283)
                                  (try simp only [show (1 : Int).toNat = 1 from rfl, Nat.reduceMul, Nat.reduceEqDiff, Go.Addr.add, ↓reduceIte] at hx283_0)
                                  have qi283 : (1 < l0.length) = True := eq_true (by omega)
                                  (try rw [show ((1 : Int)).toNat = 1 from rfl] at hx283_0)
                                  replace hx283_0 := (HB.out.cell (World.block_lt_of_cell? w _ hx283_0)).trans hx283_0
                                  replace p283 := eq_true p283
                                  replace q283 := eq_true q283
                                  have p284 : 0 ≤ (2 : Int) := (by omega)
                                  have q284 : 2 < (l0.length : Int) := of_decide_eq_true (by first | (with_reducible assumption) | assumption)
                                  obtain ⟨ad284, e284, hx284_0⟩ := Kd.at_int HR0.out 2 p284 q284
                                  obtain rfl : ad279 = ad284 := (by injection e284)
                                  (try simp only [show (2 : Int).toNat = 2 from rfl, Nat.reduceMul, Nat.reduceEqDiff, Go.Addr.add, ↓reduceIte] at hx284_0)
                                  have qi284 : (2 < l0.length) = True := eq_true (by omega)
                                  (try rw [show ((2 : Int)).toNat = 2 from rfl] at hx284_0)
                                  replace hx284_0 := (HB.out.cell (World.block_lt_of_cell? w _ hx284_0)).trans hx284_0
                                  replace p284 := eq_true p284
                                  replace q284 := eq_true q284
                                  have p285 : 0 ≤ (3 : Int) := (by omega)
                                  have q285 : 3 < (l0.length : Int) := of_decide_eq_true (by first | (with_reducible assumption) | assumption)
                                  obtain ⟨ad285, e285, hx285_0⟩ := Kd.at_int HR0.out 3 p285 q285
                                  obtain rfl : ad279 = ad285 := (by injection e285)
                                  (try simp only [show (3 : Int).toNat = 3 from rfl, Nat.reduceMul, Nat.reduceEqDiff, Go.Addr.add, ↓reduceIte] at hx285_0)
                                  have qi285 : (3 < l0.length) = True := eq_true (by omega)
                                  (try rw [show ((3 : Int)).toNat = 3 from rfl] at hx285_0)
                                  replace hx285_0 := (HB.out.cell (World.block_lt_of_cell? w _ hx285_0)).trans hx285_0
                                  replace p285 := eq_true p285
                                  replace q285 := eq_true q285
                                  have p286 : 0 ≤ (3 : Int) := (by omega)
                                  have q286 : 3 < (l0.length : Int) := of_decide_eq_true (by first | (with_reducible assumption) | assumption)
                                  obtain ⟨ad286, e286, hx286_0⟩ := Kd.at_int HR0.out 3 p286 q286
                                  obtain rfl : ad279 = ad286 := (by injection e286)
                                  (try simp only [show (3 : Int).toNat = 3 from rfl, Nat.reduceMul, Nat.reduceEqDiff, Go.Addr.add, ↓reduceIte] at hx286_0)
                                  have qi286 : (3 < l0.length) = True := eq_true (by omega)
                                  (try rw [show ((3 : Int)).toNat = 3 from rfl] at hx286_0)
                                  replace hx286_0 := (HB.out.cell (World.block_lt_of_cell? w _ hx286_0)).trans hx286_0
                                  replace p286 := eq_true p286
                                  replace q286 := eq_true q286
                                  have p287 : 0 ≤ (6 : Int) := (by omega)
                                  have q287 : 6 < (l0.length : Int) := of_decide_eq_true (by first | (with_reducible assumption) | assumption)
                                  obtain ⟨ad287, e287, hx287_0⟩ := Kd.at_int HR0.out 6 p287 q287
                                  obtain rfl : ad279 = ad287 := (by injection e287)
                                  (try simp only [show (6 : Int).toNat = 6 from rfl, Nat.reduceMul, Nat.reduceEqDiff, Go.Addr.add, ↓reduceIte] at hx287_0)
                                  have qi287 : (6 < l0.length) = True := eq_true (by omega)
                                  (try rw [show ((6 : Int)).toNat = 6 from rfl] at hx287_0)
                                  replace hx287_0 := (HB.out.cell (World.block_lt_of_cell? w _ hx287_0)).trans hx287_0
                                  replace p287 := eq_true p287
                                  replace q287 := eq_true q287
                                  go_wp2
                                  go_meet
                                  case rel => exact ⟨_, (true), (by first | rfl | (simp; done) | (simp [*]; done)), H', ⟨by first | omega | exact Nat.le_refl _⟩, ⟨by (with_reducible repeat (first | refine blk_drewN ?_ _ | refine blk_drew ?_ | refine blk_alloc ?_ _)); exact BK278.out⟩, ⟨by repeat (first | (with_reducible first | exact HB.out | apply below_alloc | apply pw_below_drewN | apply below_drew1 | refine below_set ?_ GE278.out) | exact HB.out)⟩⟩
                              · rw [if_neg c20] at H
                                exact absurd H (by simp)
                        · rw [if_neg c17] at H
                          exact absurd H (by simp)
                      · rw [if_neg c16] at H
                        have c16b0 : ((rd l0 2) == 1) = false := beq_eq_false_iff_ne.mpr c16
                        have c16b1 : ((rd l0 2) != 1) = true := bne_iff_ne.mpr c16
                        have H' := Aside0.mk H
                        clear H
                        have p282 : 0 ≤ (0 : Int) := (by omega)
                        have q282 : 0 < (l0.length : Int) := of_decide_eq_true (by first | (with_reducible assumption) | assumption)
                        obtain ⟨ad282, e282, hx282_0⟩ := Kd.at_int HR0.out 0 p282 q282
                        obtain rfl : ad279 = ad282 := (by injection e282)
                        have qi282 : (0 < l0.length) = True := eq_true (by omega)
                        (try rw [show ((0 : Int)).toNat = 0 from rfl] at hx282_0)
                        (try rw [Addr.add_zero'] at hx282_0)
                        replace hx282_0 := (HB.out.cell (World.block_lt_of_cell? w _ hx282_0)).trans hx282_0
                        replace p282 := eq_true p282
                        replace q282 := eq_true q282
                        have p283 : 0 ≤ (1 : Int) := (by omega)
                        have q283 : 1 < (l0.length : Int) := of_decide_eq_true (by first | (with_reducible assumption) | assumption)
                        obtain ⟨ad283, e283, hx283_0⟩ := Kd.at_int HR0.out 1 p283 q283
                        obtain rfl : ad279 = ad283 := (by injection e283)
                        (try simp only [show (1 : Int).toNat = 1 from rfl, Nat.reduceMul, Nat.reduceEqDiff, Go.Addr.add, ↓reduceIte] at hx283_0)
                        have qi283 : (1 < l0.length) = True := eq_true (by omega)
                        (try rw [show ((1 : Int)).toNat = 1 from rfl] at hx283_0)
                        replace hx283_0 := (HB.out.cell (World.block_lt_of_cell? w _ hx283_0)).trans hx283_0
                        replace p283 := eq_true p283
                        replace q283 := eq_true q283
                        have p284 : 0 ≤ (2 : Int) := (by omega)
                        have q284 : 2 < (l0.length : Int) := of_decide_eq_true (by first | (with_reducible assumption) | assumption)
                        obtain ⟨ad284, e284, hx284_0⟩ := Kd.at_int HR0.out 2 p284 q284
                        obtain rfl : ad279 = ad284 := (by injection e284)
                        (try simp only [show (2 : Int).toNat = 2 from rfl, Nat.reduceMul, Nat.reduceEqDiff, Go.Addr.add, ↓reduceIte] at hx284_0)
                        have qi284 : (2 < l0.length) = True := eq_true (by omega)
                        (try rw [show ((2 : Int)).toNat = 2 from rfl] at hx284_0)
                        replace hx284_0 := (HB.out.cell (World.block_lt_of_cell? w _ hx284_0)).trans hx284_0
                        replace p284 := eq_true p284
                        replace q284 := eq_true q284
                        go_wp2
                        go_meet
                        case rel => exact ⟨_, (true), (by first | rfl | (simp; done) | (simp [*]; done)), H', ⟨by first | omega | exact Nat.le_refl _⟩, ⟨by (with_reducible repeat (first | refine blk_drewN ?_ _ | refine blk_drew ?_ | refine blk_alloc ?_ _)); exact BK278.out⟩, ⟨by repeat (first | (with_reducible first | exact HB.out | apply below_alloc | apply pw_below_drewN | apply below_drew1 | refine below_set ?_ GE278.out) | exact HB.out)⟩⟩
                    · rw [if_neg c15] at H
                      exact absurd H (by simp)
                  · rw [if_neg c14] at H
                    have c14b0 : ((rd l0 1) == 0) = false := beq_eq_false_iff_ne.mpr c14
                    have c14b1 : ((rd l0 1) != 0) = true := bne_iff_ne.mpr c14
                    have H' := Aside0.mk H
                    clear H
                    have p282 : 0 ≤ (0 : Int) := (by omega)
                    have q282 : 0 < (l0.length : Int) := of_decide_eq_true (by first | (with_reducible assumption) | assumption)
                    obtain ⟨ad282, e282, hx282_0⟩ := Kd.at_int HR0.out 0 p282 q282
                    obtain rfl : ad279 = ad282 := (by injection e282)
                    have qi282 : (0 < l0.length) = True := eq_true (by omega)
                    (try rw [show ((0 : Int)).toNat = 0 from rfl] at hx282_0)
                    (try rw [Addr.add_zero'] at hx282_0)
                    replace hx282_0 := (HB.out.cell (World.block_lt_of_cell? w _ hx282_0)).trans hx282_0
                    replace p282 := eq_true p282
                    replace q282 := eq_true q282
                    have p283 : 0 ≤ (1 : Int) := (by omega)
                    have q283 : 1 < (l0.length : Int) := of_decide_eq_true (by first | (with_reducible assumption) | assumption)
                    obtain ⟨ad283, e283, hx283_0⟩ := Kd.at_int HR0.out 1 p283 q283
                    obtain rfl : ad279 = ad283 := (by injection e283)
                    (try simp only [show (1 : Int).toNat = 1 from rfl, Nat.reduceMul, Nat.reduceEqDiff, Go.Addr.add, ↓reduceIte] at hx283_0)
                    have qi283 : (1 < l0.length) = True := eq_true (by omega)
                    (try rw [show ((1 : Int)).toNat = 1 from rfl] at hx283_0)
                    replace hx283_0 := (HB.out.cell (World.block_lt_of_cell? w _ hx283_0)).trans hx283_0
                    replace p283 := eq_true p283
                    replace q283 := eq_true q283
                    go_wp2
                    go_meet
                    case rel => exact ⟨_, (true), (by first | rfl | (simp; done) | (simp [*]; done)), H', ⟨by first | omega | exact Nat.le_refl _⟩, ⟨by (with_reducible repeat (first | refine blk_drewN ?_ _ | refine blk_drew ?_ | refine blk_alloc ?_ _)); exact BK278.out⟩, ⟨by repeat (first | (with_reducible first | exact HB.out | apply below_alloc | apply pw_below_drewN | apply below_drew1 | refine below_set ?_ GE278.out) | exact HB.out)⟩⟩
                · rw [if_neg c13] at H
                  exact absurd H (by simp)
              · rw [if_neg c12] at H
                have c12b0 : ((rd l0 0) == 0) = false := beq_eq_false_iff_ne.mpr c12
                have c12b1 : ((rd l0 0) != 0) = true := bne_iff_ne.mpr c12
                have H' := Aside0.mk H
                clear H
                have p282 : 0 ≤ (0 : Int) := (by omega)
                have q282 : 0 < (l0.length : Int) := of_decide_eq_true (by first | (with_reducible assumption) | assumption)
                obtain ⟨ad282, e282, hx282_0⟩ := Kd.at_int HR0.out 0 p282 q282
                obtain rfl : ad279 = ad282 := (by injection e282)
                have qi282 : (0 < l0.length) = True := eq_true (by omega)
                (try rw [show ((0 : Int)).toNat = 0 from rfl] at hx282_0)
                (try rw [Addr.add_zero'] at hx282_0)
                replace hx282_0 := (HB.out.cell (World.block_lt_of_cell? w _ hx282_0)).trans hx282_0
                replace p282 := eq_true p282
                replace q282 := eq_true q282
                go_wp2
                go_meet
                case rel => exact ⟨_, (true), (by first | rfl | (simp; done) | (simp [*]; done)), H', ⟨by first | omega | exact Nat.le_refl _⟩, ⟨by (with_reducible repeat (first | refine blk_drewN ?_ _ | refine blk_drew ?_ | refine blk_alloc ?_ _)); exact BK278.out⟩, ⟨by repeat (first | (with_reducible first | exact HB.out | apply below_alloc | apply pw_below_drewN | apply below_drew1 | refine below_set ?_ GE278.out) | exact HB.out)⟩⟩
            · rw [if_neg c11] at H
              exact absurd H (by simp)
          case rest =>
            clear HC8
            try clear c1
            try clear c2
            try clear c2b0
            try clear c2b1
            try clear p2
            try clear q2
            try clear hx2
            try clear qi2
            try clear c5
            try clear c5b0
            try clear c5b1
            try clear c6
            try clear c6b0
            try clear c6b1
            try clear p6
            try clear c7
            try clear c7b0
            try clear c7b1
            try clear c11
            try clear c11b0
            try clear c11b1
            try clear c12
            try clear c12b0
            try clear c12b1
            try clear c13
            try clear c13b0
            try clear c13b1
            try clear c14
            try clear c14b0
            try clear c14b1
            try clear c15
            try clear c15b0
            try clear c15b1
            try clear c16
            try clear c16b0
            try clear c16b1
            try clear c17
            try clear c17b0
            try clear c17b1
            try clear c18
            try clear c18b0
            try clear c19
            try clear c19b0
            try clear c20
            try clear c20b0
            try clear c20b1
            try clear c21
            try clear c21b0
            try clear c21b1
            try clear hcz4_0
            try clear hcz4_1
            try clear hcz4_2
            try clear hcz4_3
            try clear hfz4_0
            try clear hfz4_1
            try clear hfz4_2
            try clear hfz4_3
            try clear hx279_0
            try clear hx280_0
            try clear hx281_0
            try clear hx282_0
            try clear hx283_0
            try clear hx284_0
            try clear hx285_0
            try clear hx286_0
            try clear hx287_0
            try clear p279
            try clear p280
            try clear p281
            try clear p282
            try clear p283
            try clear p284
            try clear p285
            try clear p286
            try clear p287
            try clear q279
            try clear q280
            try clear q281
            try clear q282
            try clear q283
            try clear q284
            try clear q285
            try clear q286
            try clear q287
            obtain ⟨kq, x67_7, rfl, HA, HJ7, BK278, HB⟩ := hcut
            cases kq with
            | zero => exact absurd HA.out (by simp [cutroomref16_Take.j0])
            | succ kj7 =>
              have H := HA.out
              clear HA
              simp only [cutroomref16_Take.j0] at H
              by_cases c22 : x67_7 = true
              · subst c22
                have H1 : (some (0, 0, 0, ([] : List Int), 0, 3)) = some (r1, r2, r3, r4, r5, r6) := by rw [if_pos rfl] at H; exact H
                clear H
                have H := H1
                clear H1
                simp only [Option.some.injEq, Prod.mk.injEq] at H
                obtain ⟨rfl, rfl, rfl, rfl, rfl, rfl⟩ := H
                have hcz23_0 : wc.cell? ⟨gb278, 0, none⟩ = some (.int .i64 0) := (blk_cell BK278.out 0).trans rfl
                have hcz23_1 : wc.cell? ⟨gb278, 1, none⟩ = some (.int .i64 0) := (blk_cell BK278.out 1).trans rfl
                have hcz23_2 : wc.cell? ⟨gb278, 2, none⟩ = some (.int .i64 0) := (blk_cell BK278.out 2).trans rfl
                have hcz23_3 : wc.cell? ⟨gb278, 3, none⟩ = some (.slice none 0 0) := (blk_cell BK278.out 3).trans rfl
                have hfz23_0 := blk_frozen BK278.out 0
                have hfz23_1 := blk_frozen BK278.out 1
                have hfz23_2 := blk_frozen BK278.out 2
                have hfz23_3 := blk_frozen BK278.out 3
                go_wp2
                refine bodyPost_ret (results_ctt rfl _ _ gb278 29 #[.int .i64 0, .int .i64 0, .int .i64 0, .slice none 0 0] (0, 0) _ rfl (by (with_reducible repeat (first | refine blk_drewN ?_ _ | refine blk_drew ?_ | refine blk_alloc ?_ _)); refine blk_put (cs := #[.int .i64 0, .int .i64 0, .int .i64 0, .slice none 0 0]) ?_ 3 _ rfl; (with_reducible repeat (first | refine blk_drewN ?_ _ | refine blk_drew ?_ | refine blk_alloc ?_ _)); refine blk_put (cs := #[.int .i64 0, .int .i64 0, .int .i64 0, .slice none 0 0]) ?_ 2 _ rfl; (with_reducible repeat (first | refine blk_drewN ?_ _ | refine blk_drew ?_ | refine blk_alloc ?_ _)); refine blk_put (cs := #[.int .i64 0, .int .i64 0, .int .i64 0, .slice none 0 0]) ?_ 1 _ rfl; (with_reducible repeat (first | refine blk_drewN ?_ _ | refine blk_drew ?_ | refine blk_alloc ?_ _)); refine blk_put (cs := #[.int .i64 0, .int .i64 0, .int .i64 0, .slice none 0 0]) ?_ 0 _ rfl; (with_reducible repeat (first | refine blk_drewN ?_ _ | refine blk_drew ?_ | refine blk_alloc ?_ _)); exact BK278.out) Try.underlying29 rfl (by kernel_rfl)) rfl ?_
                exact ⟨_, by first | rfl | (simp [errW_none, errW_some] <;> rfl) | (simp [*, errW_none, errW_some] <;> rfl), by first | exact Kd.R_nil _ _ _ _ _ | exact Kd.N_nil _ _ _ _ _ | exact Kd.V_nil _ _ _ _ _ | exact Kd.Q_nil _ _ _ _ _ | exact Kd.S_nil _ _ _ _ _, by repeat (first | (with_reducible first | exact HB.out | apply below_alloc | apply pw_below_drewN | apply below_drew1 | refine below_set ?_ GE278.out) | exact HB.out)⟩
              · replace c22 := Bool.eq_false_iff.mpr c22
                subst c22
                have H1 : (if 7 < (l0.length : Int) then (if (rd l0 7) = 0 then (if (wrap64 (rd l0 8)) = 0 then (cutroomref16_Take.j1 kj7 l0 (wrap64 (rd l0 8)) (Go.bits .or .i64 (wrap64 ((wrap64 (rd l0 4)) * 256)) (wrap64 (rd l0 5))) (!true)) else (if (rd l0 7) = 128 then (if (wrap64 (rd l0 8)) = 5 then (cutroomref16_Take.j1 kj7 l0 (wrap64 (rd l0 8)) (Go.bits .or .i64 (wrap64 ((wrap64 (rd l0 4)) * 256)) (wrap64 (rd l0 5))) (!true)) else (if (rd l0 7) = 192 then (cutroomref16_Take.j1 kj7 l0 (wrap64 (rd l0 8)) (Go.bits .or .i64 (wrap64 ((wrap64 (rd l0 4)) * 256)) (wrap64 (rd l0 5))) (!((wrap64 (rd l0 8)) == 10))) else (cutroomref16_Take.j1 kj7 l0 (wrap64 (rd l0 8)) (Go.bits .or .i64 (wrap64 ((wrap64 (rd l0 4)) * 256)) (wrap64 (rd l0 5))) (!false)))) else (if (rd l0 7) = 192 then (cutroomref16_Take.j1 kj7 l0 (wrap64 (rd l0 8)) (Go.bits .or .i64 (wrap64 ((wrap64 (rd l0 4)) * 256)) (wrap64 (rd l0 5))) (!((wrap64 (rd l0 8)) == 10))) else (cutroomref16_Take.j1 kj7 l0 (wrap64 (rd l0 8)) (Go.bits .or .i64 (wrap64 ((wrap64 (rd l0 4)) * 256)) (wrap64 (rd l0 5))) (!false))))) else (if (rd l0 7) = 128 then (if (wrap64 (rd l0 8)) = 5 then (cutroomref16_Take.j1 kj7 l0 (wrap64 (rd l0 8)) (Go.bits .or .i64 (wrap64 ((wrap64 (rd l0 4)) * 256)) (wrap64 (rd l0 5))) (!true)) else (if (rd l0 7) = 192 then (cutroomref16_Take.j1 kj7 l0 (wrap64 (rd l0 8)) (Go.bits .or .i64 (wrap64 ((wrap64 (rd l0 4)) * 256)) (wrap64 (rd l0 5))) (!((wrap64 (rd l0 8)) == 10))) else (cutroomref16_Take.j1 kj7 l0 (wrap64 (rd l0 8)) (Go.bits .or .i64 (wrap64 ((wrap64 (rd l0 4)) * 256)) (wrap64 (rd l0 5))) (!false)))) else (if (rd l0 7) = 192 then (cutroomref16_Take.j1 kj7 l0 (wrap64 (rd l0 8)) (Go.bits .or .i64 (wrap64 ((wrap64 (rd l0 4)) * 256)) (wrap64 (rd l0 5))) (!((wrap64 (rd l0 8)) == 10))) else (cutroomref16_Take.j1 kj7 l0 (wrap64 (rd l0 8)) (Go.bits .or .i64 (wrap64 ((wrap64 (rd l0 4)) * 256)) (wrap64 (rd l0 5))) (!false))))) else (none)) = some (r1, r2, r3, r4, r5, r6) := by rw [if_neg (show ¬ (false = true) by decide)] at H; exact H
                clear H
                have H := H1
                clear H1
                have HC24 := Aside0.mk H
                clear H
                go_upto_region 6 with (fail)
                go_cut [97] (fun v97 wc => ∃ (kq : Nat) (x97_23 : Bool), v97 = .bool x97_23 ∧ Aside0 (cutroomref16_Take.j1 kq l0 (wrap64 (rd l0 8)) (Go.bits .or .i64 (wrap64 ((wrap64 (rd l0 4)) * 256)) (wrap64 (rd l0 5))) x97_23 = some (r1, r2, r3, r4, r5, r6)) ∧ Aside0 (kq ≤ kj7) ∧ Aside0 (wc.heap[gb278]? = some (.cells #[.int .i64 0, .int .i64 0, .int .i64 0, (.slice none 0 0)] 29 (0, 0))) ∧ Aside0 (Below w.heap.size w wc))
                case first =>
                  have H := HC24.out
                  clear HC24
                  by_cases c25 : 7 < (l0.length : Int)
                  · rw [if_pos c25] at H
                    have c25b0 : decide (7 < (l0.length : Int)) = true := decide_eq_true c25
                    have c25b1 : decide (7 < l0.length) = true := decide_eq_true (by omega)
                    clear c25
                    (first | rw [c25b0] | (simp only [i64_w, i32_w]; rw [c25b0]) | skip)
                    by_cases c26 : (rd l0 7) = 0
                    · rw [if_pos c26] at H
                      have c26b0 : ((rd l0 7) == 0) = true := beq_iff_eq.mpr c26
                      have c26b1 : ((rd l0 7) != 0) = false := bne_eq_false_iff_eq.mpr c26
                      clear c26
                      by_cases c27 : (wrap64 (rd l0 8)) = 0
                      · rw [if_pos c27] at H
                        have c27b0 : ((wrap64 (rd l0 8)) == 0) = true := beq_iff_eq.mpr c27
                        have c27b1 : ((wrap64 (rd l0 8)) != 0) = false := bne_eq_false_iff_eq.mpr c27
                        clear c27
                        have H' := Aside0.mk H
                        clear H
                        have p288 : 0 ≤ (7 : Int) := (by omega)
                        have q288 : 7 < (l0.length : Int) := of_decide_eq_true (by first | (with_reducible assumption) | assumption)
                        obtain ⟨ad288, e288, hx288_0⟩ := Kd.at_int HR0.out 7 p288 q288
                        obtain rfl : ad279 = ad288 := (by injection e288)
                        (try simp only [show (7 : Int).toNat = 7 from rfl, Nat.reduceMul, Nat.reduceEqDiff, Go.Addr.add, ↓reduceIte] at hx288_0)
                        have qi288 : (7 < l0.length) = True := eq_true (by omega)
                        (try rw [show ((7 : Int)).toNat = 7 from rfl] at hx288_0)
                        replace hx288_0 := (HB.out.cell (World.block_lt_of_cell? w _ hx288_0)).trans hx288_0
                        replace p288 := eq_true p288
                        replace q288 := eq_true q288
                        go_wp2
                        go_meet
                        case rel => exact ⟨_, (!true), (by first | rfl | (simp; done) | (simp [*]; done)), H', ⟨by have := HJ7.out; first | omega | exact Nat.le_refl _⟩, ⟨by (with_reducible repeat (first | refine blk_drewN ?_ _ | refine blk_drew ?_ | refine blk_alloc ?_ _)); exact BK278.out⟩, ⟨by repeat (first | (with_reducible first | exact HB.out | apply below_alloc | apply pw_below_drewN | apply below_drew1 | refine below_set ?_ GE278.out) | exact HB.out)⟩⟩
                      · rw [if_neg c27] at H
                        have c27b0 : ((wrap64 (rd l0 8)) == 0) = false := beq_eq_false_iff_ne.mpr c27
                        have c27b1 : ((wrap64 (rd l0 8)) != 0) = true := bne_iff_ne.mpr c27
                        by_cases c28 : (rd l0 7) = 128
                        · rw [if_pos c28] at H
                          have c28b0 : ((rd l0 7) == 128) = true := beq_iff_eq.mpr c28
                          have c28b1 : ((rd l0 7) != 128) = false := bne_eq_false_iff_eq.mpr c28
                          clear c28
                          by_cases c29 : (wrap64 (rd l0 8)) = 5
                          · rw [if_pos c29] at H
                            have c29b0 : ((wrap64 (rd l0 8)) == 5) = true := beq_iff_eq.mpr c29
                            have c29b1 : ((wrap64 (rd l0 8)) != 5) = false := bne_eq_false_iff_eq.mpr c29
                            clear c29
                            have H' := Aside0.mk H
                            clear H
                            have p288 : 0 ≤ (7 : Int) := (by omega)
                            have q288 : 7 < (l0.length : Int) := of_decide_eq_true (by first | (with_reducible assumption) | assumption)
                            obtain ⟨ad288, e288, hx288_0⟩ := Kd.at_int HR0.out 7 p288 q288
                            obtain rfl : ad279 = ad288 := (by injection e288)
                            (try simp only [show (7 : Int).toNat = 7 from rfl, Nat.reduceMul, Nat.reduceEqDiff, Go.Addr.add, ↓reduceIte] at hx288_0)
                            have qi288 : (7 < l0.length) = True := eq_true (by omega)
                            (try rw [show ((7 : Int)).toNat = 7 from rfl] at hx288_0)
                            replace hx288_0 := (HB.out.cell (World.block_lt_of_cell? w _ hx288_0)).trans hx288_0
                            replace p288 := eq_true p288
                            replace q288 := eq_true q288
                            have p289 : 0 ≤ (7 : Int) := (by omega)
                            have q289 : 7 < (l0.length : Int) := of_decide_eq_true (by first | (with_reducible assumption) | assumption)
                            obtain ⟨ad289, e289, hx289_0⟩ := Kd.at_int HR0.out 7 p289 q289
                            obtain rfl : ad279 = ad289 := (by injection e289)
                            (try simp only [show (7 : Int).toNat = 7 from rfl, Nat.reduceMul, Nat.reduceEqDiff, Go.Addr.add, ↓reduceIte] at hx289_0)
                            have qi289 : (7 < l0.length) = True := eq_true (by omega)
                            (try rw [show ((7 : Int)).toNat = 7 from rfl] at hx289_0)
                            replace hx289_0 := (HB.out.cell (World.block_lt_of_cell? w _ hx289_0)).trans hx289_0
                            replace p289 := eq_true p289
                            replace q289 := eq_true q289
                            go_wp2
                            go_meet
                            case rel => exact ⟨_, (!true), (by first | rfl | (simp; done) | (simp [*]; done)), H', ⟨by have := HJ7.out; first | omega | exact Nat.le_refl _⟩, ⟨by (with_reducible repeat (first | refine blk_drewN ?_ _ | refine blk_drew ?_ | refine blk_alloc ?_ _)); exact BK278.out⟩, ⟨by repeat (first | (with_reducible first | exact HB.out | apply below_alloc | apply pw_below_drewN | apply below_drew1 | refine below_set ?_ GE278.out) | exact HB.out)⟩⟩
                          · rw [if_neg c29] at H
                            have c29b0 : ((wrap64 (rd l0 8)) == 5) = false := beq_eq_false_iff_ne.mpr c29
                            have c29b1 : ((wrap64 (rd l0 8)) != 5) = true := bne_iff_ne.mpr c29
                            by_cases c30 : (rd l0 7) = 192
                            · rw [if_pos c30] at H
                              have c30b0 : ((rd l0 7) == 192) = true := beq_iff_eq.mpr c30
                              have c30b1 : ((rd l0 7) != 192) = false := bne_eq_false_iff_eq.mpr c30
                              clear c30
                              have H' := Aside0.mk H
                              clear H
                              have p288 : 0 ≤ (7 : Int) := (by omega)
                              have q288 : 7 < (l0.length : Int) := of_decide_eq_true (by first | (with_reducible assumption) | assumption)
                              obtain ⟨ad288, e288, hx288_0⟩ := Kd.at_int HR0.out 7 p288 q288
                              obtain rfl : ad279 = ad288 := (by injection e288)
                              (try simp only [show (7 : Int).toNat = 7 from rfl, Nat.reduceMul, Nat.reduceEqDiff, Go.Addr.add, ↓reduceIte] at hx288_0)
                              have qi288 : (7 < l0.length) = True := eq_true (by omega)
                              (try rw [show ((7 : Int)).toNat = 7 from rfl] at hx288_0)
                              replace hx288_0 := (HB.out.cell (World.block_lt_of_cell? w _ hx288_0)).trans hx288_0
                              replace p288 := eq_true p288
                              replace q288 := eq_true q288
                              have p289 : 0 ≤ (7 : Int) := (by omega)
                              have q289 : 7 < (l0.length : Int) := of_decide_eq_true (by first | (with_reducible assumption) | assumption)
                              obtain ⟨ad289, e289, hx289_0⟩ := Kd.at_int HR0.out 7 p289 q289
                              obtain rfl : ad279 = ad289 := (by injection e289)
                              (try simp only [show (7 : Int).toNat = 7 from rfl, Nat.reduceMul, Nat.reduceEqDiff, Go.Addr.add, ↓reduceIte] at hx289_0)
                              have qi289 : (7 < l0.length) = True := eq_true (by omega)
                              (try rw [show ((7 : Int)).toNat = 7 from rfl] at hx289_0)
                              replace hx289_0 := (HB.out.cell (World.block_lt_of_cell? w _ hx289_0)).trans hx289_0
                              replace p289 := eq_true p289
                              replace q289 := eq_true q289
                              have p290 : 0 ≤ (7 : Int) := (by omega)
                              have q290 : 7 < (l0.length : Int) := of_decide_eq_true (by first | (with_reducible assumption) | assumption)
                              obtain ⟨ad290, e290, hx290_0⟩ := Kd.at_int HR0.out 7 p290 q290
                              obtain rfl : ad279 = ad290 := (by injection e290)
                              (try simp only [show (7 : Int).toNat = 7 from rfl, Nat.reduceMul, Nat.reduceEqDiff, Go.Addr.add, ↓reduceIte] at hx290_0)
                              have qi290 : (7 < l0.length) = True := eq_true (by omega)
                              (try rw [show ((7 : Int)).toNat = 7 from rfl] at hx290_0)
                              replace hx290_0 := (HB.out.cell (World.block_lt_of_cell? w _ hx290_0)).trans hx290_0
                              replace p290 := eq_true p290
                              replace q290 := eq_true q290
                              go_wp2
                              go_meet
                              case rel => exact ⟨_, (!((wrap64 (rd l0 8)) == 10)), (by first | rfl | (simp; done) | (simp [*]; done)), H', ⟨by have := HJ7.out; first | omega | exact Nat.le_refl _⟩, ⟨by (with_reducible repeat (first | refine blk_drewN ?_ _ | refine blk_drew ?_ | refine blk_alloc ?_ _)); exact BK278.out⟩, ⟨by repeat (first | (with_reducible first | exact HB.out | apply below_alloc | apply pw_below_drewN | apply below_drew1 | refine below_set ?_ GE278.out) | exact HB.out)⟩⟩
                            · rw [if_neg c30] at H
                              have c30b0 : ((rd l0 7) == 192) = false := beq_eq_false_iff_ne.mpr c30
                              have c30b1 : ((rd l0 7) != 192) = true := bne_iff_ne.mpr c30
                              have H' := Aside0.mk H
                              clear H
                              have p288 : 0 ≤ (7 : Int) := (by omega)
                              have q288 : 7 < (l0.length : Int) := of_decide_eq_true (by first | (with_reducible assumption) | assumption)
                              obtain ⟨ad288, e288, hx288_0⟩ := Kd.at_int HR0.out 7 p288 q288
                              obtain rfl : ad279 = ad288 := (by injection e288)
                              (try simp only [show (7 : Int).toNat = 7 from rfl, Nat.reduceMul, Nat.reduceEqDiff, Go.Addr.add, ↓reduceIte] at hx288_0)
                              have qi288 : (7 < l0.length) = True := eq_true (by omega)
                              (try rw [show ((7 : Int)).toNat = 7 from rfl] at hx288_0)
                              replace hx288_0 := (HB.out.cell (World.block_lt_of_cell? w _ hx288_0)).trans hx288_0
                              replace p288 := eq_true p288
                              replace q288 := eq_true q288
                              have p289 : 0 ≤ (7 : Int) := (by omega)
                              have q289 : 7 < (l0.length : Int) := of_decide_eq_true (by first | (with_reducible assumption) | assumption)
                              obtain ⟨ad289, e289, hx289_0⟩ := Kd.at_int HR0.out 7 p289 q289
                              obtain rfl : ad279 = ad289 := (by injection e289)
                              (try simp only [show (7 : Int).toNat = 7 from rfl, Nat.reduceMul, Nat.reduceEqDiff, Go.Addr.add, ↓reduceIte] at hx289_0)
                              have qi289 : (7 < l0.length) = True := eq_true (by omega)
                              (try rw [show ((7 : Int)).toNat = 7 from rfl] at hx289_0)
                              replace hx289_0 := (HB.out.cell (World.block_lt_of_cell? w _ hx289_0)).trans hx289_0
                              replace p289 := eq_true p289
                              replace q289 := eq_true q289
                              have p290 : 0 ≤ (7 : Int) := (by omega)
                              have q290 : 7 < (l0.length : Int) := of_decide_eq_true (by first | (with_reducible assumption) | assumption)
                              obtain ⟨ad290, e290, hx290_0⟩ := Kd.at_int HR0.out 7 p290 q290
                              obtain rfl : ad279 = ad290 := (by injection e290)
                              (try simp only [show (7 : Int).toNat = 7 from rfl, Nat.reduceMul, Nat.reduceEqDiff, Go.Addr.add, ↓reduceIte] at hx290_0)
                              have qi290 : (7 < l0.length) = True := eq_true (by omega)
                              (try rw [show ((7 : Int)).toNat = 7 from rfl] at hx290_0)
                              replace hx290_0 := (HB.out.cell (World.block_lt_of_cell? w _ hx290_0)).trans hx290_0
                              replace p290 := eq_true p290
                              replace q290 := eq_true q290
                              go_wp2
                              go_meet
                              case rel => exact ⟨_, (!false), (by first | rfl | (simp; done) | (simp [*]; done)), H', ⟨by have := HJ7.out; first | omega | exact Nat.le_refl _⟩, ⟨by (with_reducible repeat (first | refine blk_drewN ?_ _ | refine blk_drew ?_ | refine blk_alloc ?_ _)); exact BK278.out⟩, ⟨by repeat (first | (with_reducible first | exact HB.out | apply below_alloc | apply pw_below_drewN | apply below_drew1 | refine below_set ?_ GE278.out) | exact HB.out)⟩⟩
                        · rw [if_neg c28] at H
                          have c28b0 : ((rd l0 7) == 128) = false := beq_eq_false_iff_ne.mpr c28
                          have c28b1 : ((rd l0 7) != 128) = true := bne_iff_ne.mpr c28
                          by_cases c31 : (rd l0 7) = 192
                          · rw [if_pos c31] at H
                            have c31b0 : ((rd l0 7) == 192) = true := beq_iff_eq.mpr c31
                            have c31b1 : ((rd l0 7) != 192) = false := bne_eq_false_iff_eq.mpr c31
                            clear c31
                            have H' := Aside0.mk H
                            clear H
                            have p288 : 0 ≤ (7 : Int) := (by omega)
                            have q288 : 7 < (l0.length : Int) := of_decide_eq_true (by first | (with_reducible assumption) | assumption)
                            obtain ⟨ad288, e288, hx288_0⟩ := Kd.at_int HR0.out 7 p288 q288
                            obtain rfl : ad279 = ad288 := (by injection e288)
                            (try simp only [show (7 : Int).toNat = 7 from rfl, Nat.reduceMul, Nat.reduceEqDiff, Go.Addr.add, ↓reduceIte] at hx288_0)
                            have qi288 : (7 < l0.length) = True := eq_true (by omega)
                            (try rw [show ((7 : Int)).toNat = 7 from rfl] at hx288_0)
                            replace hx288_0 := (HB.out.cell (World.block_lt_of_cell? w _ hx288_0)).trans hx288_0
                            replace p288 := eq_true p288
                            replace q288 := eq_true q288
                            have p289 : 0 ≤ (7 : Int) := (by omega)
                            have q289 : 7 < (l0.length : Int) := of_decide_eq_true (by first | (with_reducible assumption) | assumption)
                            obtain ⟨ad289, e289, hx289_0⟩ := Kd.at_int HR0.out 7 p289 q289
                            obtain rfl : ad279 = ad289 := (by injection e289)
                            (try simp only [show (7 : Int).toNat = 7 from rfl, Nat.reduceMul, Nat.reduceEqDiff, Go.Addr.add, ↓reduceIte] at hx289_0)
                            have qi289 : (7 < l0.length) = True := eq_true (by omega)
                            (try rw [show ((7 : Int)).toNat = 7 from rfl] at hx289_0)
                            replace hx289_0 := (HB.out.cell (World.block_lt_of_cell? w _ hx289_0)).trans hx289_0
                            replace p289 := eq_true p289
                            replace q289 := eq_true q289
                            have p291 : 0 ≤ (7 : Int) := (by omega)
                            have q291 : 7 < (l0.length : Int) := of_decide_eq_true (by first | (with_reducible assumption) | assumption)
                            obtain ⟨ad291, e291, hx291_0⟩ := Kd.at_int HR0.out 7 p291 q291
                            obtain rfl : ad279 = ad291 := (by injection e291)
                            (try simp only [show (7 : Int).toNat = 7 from rfl, Nat.reduceMul, Nat.reduceEqDiff, Go.Addr.add, ↓reduceIte] at hx291_0)
                            have qi291 : (7 < l0.length) = True := eq_true (by omega)
                            (try rw [show ((7 : Int)).toNat = 7 from rfl] at hx291_0)
                            replace hx291_0 := (HB.out.cell (World.block_lt_of_cell? w _ hx291_0)).trans hx291_0
                            replace p291 := eq_true p291
                            replace q291 := eq_true q291
                            go_wp2
                            go_meet
                            case rel => exact ⟨_, (!((wrap64 (rd l0 8)) == 10)), (by first | rfl | (simp; done) | (simp [*]; done)), H', ⟨by have := HJ7.out; first | omega | exact Nat.le_refl _⟩, ⟨by (with_reducible repeat (first | refine blk_drewN ?_ _ | refine blk_drew ?_ | refine blk_alloc ?_ _)); exact BK278.out⟩, ⟨by repeat (first | (with_reducible first | exact HB.out | apply below_alloc | apply pw_below_drewN | apply below_drew1 | refine below_set ?_ GE278.out) | exact HB.out)⟩⟩
                          · rw [if_neg c31] at H
                            have c31b0 : ((rd l0 7) == 192) = false := beq_eq_false_iff_ne.mpr c31
                            have c31b1 : ((rd l0 7) != 192) = true := bne_iff_ne.mpr c31
                            have H' := Aside0.mk H
                            clear H
                            have p288 : 0 ≤ (7 : Int) := (by omega)
                            have q288 : 7 < (l0.length : Int) := of_decide_eq_true (by first | (with_reducible assumption) | assumption)
                            obtain ⟨ad288, e288, hx288_0⟩ := Kd.at_int HR0.out 7 p288 q288
                            obtain rfl : ad279 = ad288 := (by injection e288)
                            (try simp only [show (7 : Int).toNat = 7 from rfl, Nat.reduceMul, Nat.reduceEqDiff, Go.Addr.add, ↓reduceIte] at hx288_0)
                            have qi288 : (7 < l0.length) = True := eq_true (by omega)
                            (try rw [show ((7 : Int)).toNat = 7 from rfl] at hx288_0)
                            replace hx288_0 := (HB.out.cell (World.block_lt_of_cell? w _ hx288_0)).trans hx288_0
                            replace p288 := eq_true p288
                            replace q288 := eq_true q288
                            have p289 : 0 ≤ (7 : Int) := (by omega)
                            have q289 : 7 < (l0.length : Int) := of_decide_eq_true (by first | (with_reducible assumption) | assumption)
                            obtain ⟨ad289, e289, hx289_0⟩ := Kd.at_int HR0.out 7 p289 q289
                            obtain rfl : ad279 = ad289 := (by injection e289)
                            (try simp only [show (7 : Int).toNat = 7 from rfl, Nat.reduceMul, Nat.reduceEqDiff, Go.Addr.add, ↓reduceIte] at hx289_0)
                            have qi289 : (7 < l0.length) = True := eq_true (by omega)
                            (try rw [show ((7 : Int)).toNat = 7 from rfl] at hx289_0)
                            replace hx289_0 := (HB.out.cell (World.block_lt_of_cell? w _ hx289_0)).trans hx289_0
                            replace p289 := eq_true p289
                            replace q289 := eq_true q289
                            have p291 : 0 ≤ (7 : Int) := (by omega)
                            have q291 : 7 < (l0.length : Int) := of_decide_eq_true (by first | (with_reducible assumption) | assumption)
                            obtain ⟨ad291, e291, hx291_0⟩ := Kd.at_int HR0.out 7 p291 q291
                            obtain rfl : ad279 = ad291 := (by injection e291)
                            (try simp only [show (7 : Int).toNat = 7 from rfl, Nat.reduceMul, Nat.reduceEqDiff, Go.Addr.add, ↓reduceIte] at hx291_0)
                            have qi291 : (7 < l0.length) = True := eq_true (by omega)
                            (try rw [show ((7 : Int)).toNat = 7 from rfl] at hx291_0)
                            replace hx291_0 := (HB.out.cell (World.block_lt_of_cell? w _ hx291_0)).trans hx291_0
                            replace p291 := eq_true p291
                            replace q291 := eq_true q291
                            go_wp2
                            go_meet
                            case rel => exact ⟨_, (!false), (by first | rfl | (simp; done) | (simp [*]; done)), H', ⟨by have := HJ7.out; first | omega | exact Nat.le_refl _⟩, ⟨by (with_reducible repeat (first | refine blk_drewN ?_ _ | refine blk_drew ?_ | refine blk_alloc ?_ _)); exact BK278.out⟩, ⟨by repeat (first | (with_reducible first | exact HB.out | apply below_alloc | apply pw_below_drewN | apply below_drew1 | refine below_set ?_ GE278.out) | exact HB.out)⟩⟩
                    · rw [if_neg c26] at H
                      have c26b0 : ((rd l0 7) == 0) = false := beq_eq_false_iff_ne.mpr c26
                      have c26b1 : ((rd l0 7) != 0) = true := bne_iff_ne.mpr c26
                      by_cases c32 : (rd l0 7) = 128
                      · rw [if_pos c32] at H
                        have c32b0 : ((rd l0 7) == 128) = true := beq_iff_eq.mpr c32
                        have c32b1 : ((rd l0 7) != 128) = false := bne_eq_false_iff_eq.mpr c32
                        clear c32
                        by_cases c33 : (wrap64 (rd l0 8)) = 5
                        · rw [if_pos c33] at H
                          have c33b0 : ((wrap64 (rd l0 8)) == 5) = true := beq_iff_eq.mpr c33
                          have c33b1 : ((wrap64 (rd l0 8)) != 5) = false := bne_eq_false_iff_eq.mpr c33
                          clear c33
                          have H' := Aside0.mk H
                          clear H
                          have p288 : 0 ≤ (7 : Int) := (by omega)
                          have q288 : 7 < (l0.length : Int) := of_decide_eq_true (by first | (with_reducible assumption) | assumption)
                          obtain ⟨ad288, e288, hx288_0⟩ := Kd.at_int HR0.out 7 p288 q288
                          obtain rfl : ad279 = ad288 := (by injection e288)
                          (try simp only [show (7 : Int).toNat = 7 from rfl, Nat.reduceMul, Nat.reduceEqDiff, Go.Addr.add, ↓reduceIte] at hx288_0)
                          have qi288 : (7 < l0.length) = True := eq_true (by omega)
                          (try rw [show ((7 : Int)).toNat = 7 from rfl] at hx288_0)
                          replace hx288_0 := (HB.out.cell (World.block_lt_of_cell? w _ hx288_0)).trans hx288_0
                          replace p288 := eq_true p288
                          replace q288 := eq_true q288
                          have p292 : 0 ≤ (7 : Int) := (by omega)
                          have q292 : 7 < (l0.length : Int) := of_decide_eq_true (by first | (with_reducible assumption) | assumption)
                          obtain ⟨ad292, e292, hx292_0⟩ := Kd.at_int HR0.out 7 p292 q292
                          obtain rfl : ad279 = ad292 := (by injection e292)
                          (try simp only [show (7 : Int).toNat = 7 from rfl, Nat.reduceMul, Nat.reduceEqDiff, Go.Addr.add, ↓reduceIte] at hx292_0)
                          have qi292 : (7 < l0.length) = True := eq_true (by omega)
                          (try rw [show ((7 : Int)).toNat = 7 from rfl] at hx292_0)
                          replace hx292_0 := (HB.out.cell (World.block_lt_of_cell? w _ hx292_0)).trans hx292_0
                          replace p292 := eq_true p292
                          replace q292 := eq_true q292
                          go_wp2
                          go_meet
                          case rel => exact ⟨_, (!true), (by first | rfl | (simp; done) | (simp [*]; done)), H', ⟨by have := HJ7.out; first | omega | exact Nat.le_refl _⟩, ⟨by (with_reducible repeat (first | refine blk_drewN ?_ _ | refine blk_drew ?_ | refine blk_alloc ?_ _)); exact BK278.out⟩, ⟨by repeat (first | (with_reducible first | exact HB.out | apply below_alloc | apply pw_below_drewN | apply below_drew1 | refine below_set ?_ GE278.out) | exact HB.out)⟩⟩
                        · rw [if_neg c33] at H
                          have c33b0 : ((wrap64 (rd l0 8)) == 5) = false := beq_eq_false_iff_ne.mpr c33
                          have c33b1 : ((wrap64 (rd l0 8)) != 5) = true := bne_iff_ne.mpr c33
                          by_cases c34 : (rd l0 7) = 192
                          · rw [if_pos c34] at H
                            have c34b0 : ((rd l0 7) == 192) = true := beq_iff_eq.mpr c34
                            have c34b1 : ((rd l0 7) != 192) = false := bne_eq_false_iff_eq.mpr c34
                            clear c34
                            have H' := Aside0.mk H
                            clear H
                            have p288 : 0 ≤ (7 : Int) := (by omega)
                            have q288 : 7 < (l0.length : Int) := of_decide_eq_true (by first | (with_reducible assumption) | assumption)
                            obtain ⟨ad288, e288, hx288_0⟩ := Kd.at_int HR0.out 7 p288 q288
                            obtain rfl : ad279 = ad288 := (by injection e288)
                            (try simp only [show (7 : Int).toNat = 7 from rfl, Nat.reduceMul, Nat.reduceEqDiff, Go.Addr.add, ↓reduceIte] at hx288_0)
                            have qi288 : (7 < l0.length) = True := eq_true (by omega)
                            (try rw [show ((7 : Int)).toNat = 7 from rfl] at hx288_0)
                            replace hx288_0 := (HB.out.cell (World.block_lt_of_cell? w _ hx288_0)).trans hx288_0
                            replace p288 := eq_true p288
                            replace q288 := eq_true q288
                            have p292 : 0 ≤ (7 : Int) := (by omega)
                            have q292 : 7 < (l0.length : Int) := of_decide_eq_true (by first | (with_reducible assumption) | assumption)
                            obtain ⟨ad292, e292, hx292_0⟩ := Kd.at_int HR0.out 7 p292 q292
                            obtain rfl : ad279 = ad292 := (by injection e292)
                            (try simp only [show (7 : Int).toNat = 7 from rfl, Nat.reduceMul, Nat.reduceEqDiff, Go.Addr.add, ↓reduceIte] at hx292_0)
                            have qi292 : (7 < l0.length) = True := eq_true (by omega)
                            (try rw [show ((7 : Int)).toNat = 7 from rfl] at hx292_0)
                            replace hx292_0 := (HB.out.cell (World.block_lt_of_cell? w _ hx292_0)).trans hx292_0
                            replace p292 := eq_true p292
                            replace q292 := eq_true q292
                            have p293 : 0 ≤ (7 : Int) := (by omega)
                            have q293 : 7 < (l0.length : Int) := of_decide_eq_true (by first | (with_reducible assumption) | assumption)
                            obtain ⟨ad293, e293, hx293_0⟩ := Kd.at_int HR0.out 7 p293 q293
                            obtain rfl : ad279 = ad293 := (by injection e293)
                            (try simp only [show (7 : Int).toNat = 7 from rfl, Nat.reduceMul, Nat.reduceEqDiff, Go.Addr.add, ↓reduceIte] at hx293_0)
                            have qi293 : (7 < l0.length) = True := eq_true (by omega)
                            (try rw [show ((7 : Int)).toNat = 7 from rfl] at hx293_0)
                            replace hx293_0 := (HB.out.cell (World.block_lt_of_cell? w _ hx293_0)).trans hx293_0
                            replace p293 := eq_true p293
                            replace q293 := eq_true q293
                            go_wp2
                            go_meet
                            case rel => exact ⟨_, (!((wrap64 (rd l0 8)) == 10)), (by first | rfl | (simp; done) | (simp [*]; done)), H', ⟨by have := HJ7.out; first | omega | exact Nat.le_refl _⟩, ⟨by (with_reducible repeat (first | refine blk_drewN ?_ _ | refine blk_drew ?_ | refine blk_alloc ?_ _)); exact BK278.out⟩, ⟨by repeat (first | (with_reducible first | exact HB.out | apply below_alloc | apply pw_below_drewN | apply below_drew1 | refine below_set ?_ GE278.out) | exact HB.out)⟩⟩
                          · rw [if_neg c34] at H
                            have c34b0 : ((rd l0 7) == 192) = false := beq_eq_false_iff_ne.mpr c34
                            have c34b1 : ((rd l0 7) != 192) = true := bne_iff_ne.mpr c34
                            have H' := Aside0.mk H
                            clear H
                            have p288 : 0 ≤ (7 : Int) := (by omega)
                            have q288 : 7 < (l0.length : Int) := of_decide_eq_true (by first | (with_reducible assumption) | assumption)
                            obtain ⟨ad288, e288, hx288_0⟩ := Kd.at_int HR0.out 7 p288 q288
                            obtain rfl : ad279 = ad288 := (by injection e288)
                            (try simp only [show (7 : Int).toNat = 7 from rfl, Nat.reduceMul, Nat.reduceEqDiff, Go.Addr.add, ↓reduceIte] at hx288_0)
                            have qi288 : (7 < l0.length) = True := eq_true (by omega)
                            (try rw [show ((7 : Int)).toNat = 7 from rfl] at hx288_0)
                            replace hx288_0 := (HB.out.cell (World.block_lt_of_cell? w _ hx288_0)).trans hx288_0
                            replace p288 := eq_true p288
                            replace q288 := eq_true q288
                            have p292 : 0 ≤ (7 : Int) := (by omega)
                            have q292 : 7 < (l0.length : Int) := of_decide_eq_true (by first | (with_reducible assumption) | assumption)
                            obtain ⟨ad292, e292, hx292_0⟩ := Kd.at_int HR0.out 7 p292 q292
                            obtain rfl : ad279 = ad292 := (by injection e292)
                            (try simp only [show (7 : Int).toNat = 7 from rfl, Nat.reduceMul, Nat.reduceEqDiff, Go.Addr.add, ↓reduceIte] at hx292_0)
                            have qi292 : (7 < l0.length) = True := eq_true (by omega)
                            (try rw [show ((7 : Int)).toNat = 7 from rfl] at hx292_0)
                            replace hx292_0 := (HB.out.cell (World.block_lt_of_cell? w _ hx292_0)).trans hx292_0
                            replace p292 := eq_true p292
                            replace q292 := eq_true q292
                            have p293 : 0 ≤ (7 : Int) := (by omega)
                            have q293 : 7 < (l0.length : Int) := of_decide_eq_true (by first | (with_reducible assumption) | assumption)
                            obtain ⟨ad293, e293, hx293_0⟩ := Kd.at_int HR0.out 7 p293 q293
                            obtain rfl : ad279 = ad293 := (by injection e293)
                            (try simp only [show (7 : Int).toNat = 7 from rfl, Nat.reduceMul, Nat.reduceEqDiff, Go.Addr.add, ↓reduceIte] at hx293_0)
                            have qi293 : (7 < l0.length) = True := eq_true (by omega)
                            (try rw [show ((7 : Int)).toNat = 7 from rfl] at hx293_0)
                            replace hx293_0 := (HB.out.cell (World.block_lt_of_cell? w _ hx293_0)).trans hx293_0
                            replace p293 := eq_true p293
                            replace q293 := eq_true q293
                            go_wp2
                            go_meet
                            case rel => exact ⟨_, (!false), (by first | rfl | (simp; done) | (simp [*]; done)), H', ⟨by have := HJ7.out; first | omega | exact Nat.le_refl _⟩, ⟨by (with_reducible repeat (first | refine blk_drewN ?_ _ | refine blk_drew ?_ | refine blk_alloc ?_ _)); exact BK278.out⟩, ⟨by repeat (first | (with_reducible first | exact HB.out | apply below_alloc | apply pw_below_drewN | apply below_drew1 | refine below_set ?_ GE278.out) | exact HB.out)⟩⟩
                      · rw [if_neg c32] at H
                        have c32b0 : ((rd l0 7) == 128) = false := beq_eq_false_iff_ne.mpr c32
                        have c32b1 : ((rd l0 7) != 128) = true := bne_iff_ne.mpr c32
                        by_cases c35 : (rd l0 7) = 192
                        · rw [if_pos c35] at H
                          have c35b0 : ((rd l0 7) == 192) = true := beq_iff_eq.mpr c35
                          have c35b1 : ((rd l0 7) != 192) = false := bne_eq_false_iff_eq.mpr c35
                          clear c35
                          have H' := Aside0.mk H
                          clear H
                          have p288 : 0 ≤ (7 : Int) := (by omega)
                          have q288 : 7 < (l0.length : Int) := of_decide_eq_true (by first | (with_reducible assumption) | assumption)
                          obtain ⟨ad288, e288, hx288_0⟩ := Kd.at_int HR0.out 7 p288 q288
                          obtain rfl : ad279 = ad288 := (by injection e288)
                          (try simp only [show (7 : Int).toNat = 7 from rfl, Nat.reduceMul, Nat.reduceEqDiff, Go.Addr.add, ↓reduceIte] at hx288_0)
                          have qi288 : (7 < l0.length) = True := eq_true (by omega)
                          (try rw [show ((7 : Int)).toNat = 7 from rfl] at hx288_0)
                          replace hx288_0 := (HB.out.cell (World.block_lt_of_cell? w _ hx288_0)).trans hx288_0
                          replace p288 := eq_true p288
                          replace q288 := eq_true q288
                          have p292 : 0 ≤ (7 : Int) := (by omega)
                          have q292 : 7 < (l0.length : Int) := of_decide_eq_true (by first | (with_reducible assumption) | assumption)
                          obtain ⟨ad292, e292, hx292_0⟩ := Kd.at_int HR0.out 7 p292 q292
                          obtain rfl : ad279 = ad292 := (by injection e292)
                          (try simp only [show (7 : Int).toNat = 7 from rfl, Nat.reduceMul, Nat.reduceEqDiff, Go.Addr.add, ↓reduceIte] at hx292_0)
                          have qi292 : (7 < l0.length) = True := eq_true (by omega)
                          (try rw [show ((7 : Int)).toNat = 7 from rfl] at hx292_0)
                          replace hx292_0 := (HB.out.cell (World.block_lt_of_cell? w _ hx292_0)).trans hx292_0
                          replace p292 := eq_true p292
                          replace q292 := eq_true q292
                          have p294 : 0 ≤ (7 : Int) := (by omega)
                          have q294 : 7 < (l0.length : Int) := of_decide_eq_true (by first | (with_reducible assumption) | assumption)
                          obtain ⟨ad294, e294, hx294_0⟩ := Kd.at_int HR0.out 7 p294 q294
                          obtain rfl : ad279 = ad294 := (by injection e294)
                          (try simp only [show (7 : Int).toNat = 7 from rfl, Nat.reduceMul, Nat.reduceEqDiff, Go.Addr.add, ↓reduceIte] at hx294_0)
                          have qi294 : (7 < l0.length) = True := eq_true (by omega)
                          (try rw [show ((7 : Int)).toNat = 7 from rfl] at hx294_0)
                          replace hx294_0 := (HB.out.cell (World.block_lt_of_cell? w _ hx294_0)).trans hx294_0
                          replace p294 := eq_true p294
                          replace q294 := eq_true q294
                          go_wp2
                          go_meet
                          case rel => exact ⟨_, (!((wrap64 (rd l0 8)) == 10)), (by first | rfl | (simp; done) | (simp [*]; done)), H', ⟨by have := HJ7.out; first | omega | exact Nat.le_refl _⟩, ⟨by (with_reducible repeat (first | refine blk_drewN ?_ _ | refine blk_drew ?_ | refine blk_alloc ?_ _)); exact BK278.out⟩, ⟨by repeat (first | (with_reducible first | exact HB.out | apply below_alloc | apply pw_below_drewN | apply below_drew1 | refine below_set ?_ GE278.out) | exact HB.out)⟩⟩
                        · rw [if_neg c35] at H
                          have c35b0 : ((rd l0 7) == 192) = false := beq_eq_false_iff_ne.mpr c35
                          have c35b1 : ((rd l0 7) != 192) = true := bne_iff_ne.mpr c35
                          have H' := Aside0.mk H
                          clear H
                          have p288 : 0 ≤ (7 : Int) := (by omega)
                          have q288 : 7 < (l0.length : Int) := of_decide_eq_true (by first | (with_reducible assumption) | assumption)
                          obtain ⟨ad288, e288, hx288_0⟩ := Kd.at_int HR0.out 7 p288 q288
                          obtain rfl : ad279 = ad288 := (by injection e288)
                          (try simp only [show (7 : Int).toNat = 7 from rfl, Nat.reduceMul, Nat.reduceEqDiff, Go.Addr.add, ↓reduceIte] at hx288_0)
                          have qi288 : (7 < l0.length) = True := eq_true (by omega)
                          (try rw [show ((7 : Int)).toNat = 7 from rfl] at hx288_0)
                          replace hx288_0 := (HB.out.cell (World.block_lt_of_cell? w _ hx288_0)).trans hx288_0
                          replace p288 := eq_true p288
                          replace q288 := eq_true q288
                          have p292 : 0 ≤ (7 : Int) := (by omega)
                          have q292 : 7 < (l0.length : Int) := of_decide_eq_true (by first | (with_reducible assumption) | assumption)
                          obtain ⟨ad292, e292, hx292_0⟩ := Kd.at_int HR0.out 7 p292 q292
                          obtain rfl : ad279 = ad292 := (by injection e292)
                          (try simp only [show (7 : Int).toNat = 7 from rfl, Nat.reduceMul, Nat.reduceEqDiff, Go.Addr.add, ↓reduceIte] at hx292_0)
                          have qi292 : (7 < l0.length) = True := eq_true (by omega)
                          (try rw [show ((7 : Int)).toNat = 7 from rfl] at hx292_0)
                          replace hx292_0 := (HB.out.cell (World.block_lt_of_cell? w _ hx292_0)).trans hx292_0
                          replace p292 := eq_true p292
                          replace q292 := eq_true q292
                          have p294 : 0 ≤ (7 : Int) := (by omega)
                          have q294 : 7 < (l0.length : Int) := of_decide_eq_true (by first | (with_reducible assumption) | assumption)
                          obtain ⟨ad294, e294, hx294_0⟩ := Kd.at_int HR0.out 7 p294 q294
                          obtain rfl : ad279 = ad294 := (by injection e294)
                          (try simp only [show (7 : Int).toNat = 7 from rfl, Nat.reduceMul, Nat.reduceEqDiff, Go.Addr.add, ↓reduceIte] at hx294_0)
                          have qi294 : (7 < l0.length) = True := eq_true (by omega)
                          (try rw [show ((7 : Int)).toNat = 7 from rfl] at hx294_0)
                          replace hx294_0 := (HB.out.cell (World.block_lt_of_cell? w _ hx294_0)).trans hx294_0
                          replace p294 := eq_true p294
                          replace q294 := eq_true q294
                          go_wp2
                          go_meet
                          case rel => exact ⟨_, (!false), (by first | rfl | (simp; done) | (simp [*]; done)), H', ⟨by have := HJ7.out; first | omega | exact Nat.le_refl _⟩, ⟨by (with_reducible repeat (first | refine blk_drewN ?_ _ | refine blk_drew ?_ | refine blk_alloc ?_ _)); exact BK278.out⟩, ⟨by repeat (first | (with_reducible first | exact HB.out | apply below_alloc | apply pw_below_drewN | apply below_drew1 | refine below_set ?_ GE278.out) | exact HB.out)⟩⟩
                  · rw [if_neg c25] at H
                    exact absurd H (by simp)
                case rest =>
                  clear HC24
                  try clear c1
                  try clear c2
                  try clear c2b0
                  try clear c2b1
                  try clear p2
                  try clear q2
                  try clear hx2
                  try clear qi2
                  try clear c3
                  try clear c5
                  try clear c5b0
                  try clear c5b1
                  try clear c6
                  try clear c6b0
                  try clear c6b1
                  try clear p6
                  try clear c7
                  try clear c7b0
                  try clear c7b1
                  try clear c11
                  try clear c11b0
                  try clear c11b1
                  try clear c12
                  try clear c12b0
                  try clear c12b1
                  try clear c13
                  try clear c13b0
                  try clear c13b1
                  try clear c14
                  try clear c14b0
                  try clear c14b1
                  try clear c15
                  try clear c15b0
                  try clear c15b1
                  try clear c16
                  try clear c16b0
                  try clear c16b1
                  try clear c17
                  try clear c17b0
                  try clear c17b1
                  try clear c18
                  try clear c18b0
                  try clear c19
                  try clear c19b0
                  try clear c20
                  try clear c20b0
                  try clear c20b1
                  try clear c21
                  try clear c21b0
                  try clear c21b1
                  try clear c22
                  try clear c25
                  try clear c25b0
                  try clear c25b1
                  try clear c26
                  try clear c26b0
                  try clear c26b1
                  try clear c27
                  try clear c27b0
                  try clear c27b1
                  try clear p27
                  try clear q27
                  try clear hx27
                  try clear c28
                  try clear c28b0
                  try clear c28b1
                  try clear p28
                  try clear q28
                  try clear hx28
                  try clear qi28
                  try clear c29
                  try clear c29b0
                  try clear c29b1
                  try clear p29
                  try clear q29
                  try clear hx29
                  try clear qi29
                  try clear c30
                  try clear c30b0
                  try clear c30b1
                  try clear c31
                  try clear c31b0
                  try clear c31b1
                  try clear c32
                  try clear c32b0
                  try clear c32b1
                  try clear c33
                  try clear c33b0
                  try clear c33b1
                  try clear c34
                  try clear c34b0
                  try clear c34b1
                  try clear c35
                  try clear c35b0
                  try clear c35b1
                  try clear hcz23_0
                  try clear hcz23_1
                  try clear hcz23_2
                  try clear hcz23_3
                  try clear hcz4_0
                  try clear hcz4_1
                  try clear hcz4_2
                  try clear hcz4_3
                  try clear hfz23_0
                  try clear hfz23_1
                  try clear hfz23_2
                  try clear hfz23_3
                  try clear hfz4_0
                  try clear hfz4_1
                  try clear hfz4_2
                  try clear hfz4_3
                  try clear hx279_0
                  try clear hx280_0
                  try clear hx281_0
                  try clear hx282_0
                  try clear hx283_0
                  try clear hx284_0
                  try clear hx285_0
                  try clear hx286_0
                  try clear hx287_0
                  try clear hx288_0
                  try clear hx289_0
                  try clear hx290_0
                  try clear hx291_0
                  try clear hx292_0
                  try clear hx293_0
                  try clear hx294_0
                  try clear p2
                  try clear p279
                  try clear p280
                  try clear p281
                  try clear p282
                  try clear p283
                  try clear p284
                  try clear p285
                  try clear p286
                  try clear p287
                  try clear p288
                  try clear p289
                  try clear p290
                  try clear p291
                  try clear p292
                  try clear p293
                  try clear p294
                  try clear p6
                  try clear q2
                  try clear q279
                  try clear q280
                  try clear q281
                  try clear q282
                  try clear q283
                  try clear q284
                  try clear q285
                  try clear q286
                  try clear q287
                  try clear q288
                  try clear q289
                  try clear q290
                  try clear q291
                  try clear q292
                  try clear q293
                  try clear q294
                  obtain ⟨kq, x97_23, rfl, HA, HJ23, BK278, HB⟩ := hcut
                  cases kq with
                  | zero => exact absurd HA.out (by simp [cutroomref16_Take.j1])
                  | succ kj23 =>
                    have H := HA.out
                    clear HA
                    simp only [cutroomref16_Take.j1] at H
                    by_cases c36 : x97_23 = true
                    · subst c36
                      have H1 : (some (0, 0, 0, ([] : List Int), 0, 3)) = some (r1, r2, r3, r4, r5, r6) := by rw [if_pos rfl] at H; exact H
                      clear H
                      have H := H1
                      clear H1
                      simp only [Option.some.injEq, Prod.mk.injEq] at H
                      obtain ⟨rfl, rfl, rfl, rfl, rfl, rfl⟩ := H
                      have hcz37_0 : wc.cell? ⟨gb278, 0, none⟩ = some (.int .i64 0) := (blk_cell BK278.out 0).trans rfl
                      have hcz37_1 : wc.cell? ⟨gb278, 1, none⟩ = some (.int .i64 0) := (blk_cell BK278.out 1).trans rfl
                      have hcz37_2 : wc.cell? ⟨gb278, 2, none⟩ = some (.int .i64 0) := (blk_cell BK278.out 2).trans rfl
                      have hcz37_3 : wc.cell? ⟨gb278, 3, none⟩ = some (.slice none 0 0) := (blk_cell BK278.out 3).trans rfl
                      have hfz37_0 := blk_frozen BK278.out 0
                      have hfz37_1 := blk_frozen BK278.out 1
                      have hfz37_2 := blk_frozen BK278.out 2
                      have hfz37_3 := blk_frozen BK278.out 3
                      go_wp2
                      refine bodyPost_ret (results_ctt rfl _ _ gb278 29 #[.int .i64 0, .int .i64 0, .int .i64 0, .slice none 0 0] (0, 0) _ rfl (by (with_reducible repeat (first | refine blk_drewN ?_ _ | refine blk_drew ?_ | refine blk_alloc ?_ _)); refine blk_put (cs := #[.int .i64 0, .int .i64 0, .int .i64 0, .slice none 0 0]) ?_ 3 _ rfl; (with_reducible repeat (first | refine blk_drewN ?_ _ | refine blk_drew ?_ | refine blk_alloc ?_ _)); refine blk_put (cs := #[.int .i64 0, .int .i64 0, .int .i64 0, .slice none 0 0]) ?_ 2 _ rfl; (with_reducible repeat (first | refine blk_drewN ?_ _ | refine blk_drew ?_ | refine blk_alloc ?_ _)); refine blk_put (cs := #[.int .i64 0, .int .i64 0, .int .i64 0, .slice none 0 0]) ?_ 1 _ rfl; (with_reducible repeat (first | refine blk_drewN ?_ _ | refine blk_drew ?_ | refine blk_alloc ?_ _)); refine blk_put (cs := #[.int .i64 0, .int .i64 0, .int .i64 0, .slice none 0 0]) ?_ 0 _ rfl; (with_reducible repeat (first | refine blk_drewN ?_ _ | refine blk_drew ?_ | refine blk_alloc ?_ _)); exact BK278.out) Try.underlying29 rfl (by kernel_rfl)) rfl ?_
                      exact ⟨_, by first | rfl | (simp [errW_none, errW_some] <;> rfl) | (simp [*, errW_none, errW_some] <;> rfl), by first | exact Kd.R_nil _ _ _ _ _ | exact Kd.N_nil _ _ _ _ _ | exact Kd.V_nil _ _ _ _ _ | exact Kd.Q_nil _ _ _ _ _ | exact Kd.S_nil _ _ _ _ _, by repeat (first | (with_reducible first | exact HB.out | apply below_alloc | apply pw_below_drewN | apply below_drew1 | refine below_set ?_ GE278.out) | exact HB.out)⟩
                    · replace c36 := Bool.eq_false_iff.mpr c36
                      subst c36
                      have H1 : (if (l0.length : Int) < (wrap64 (6 + (Go.bits .or .i64 (wrap64 ((wrap64 (rd l0 4)) * 256)) (wrap64 (rd l0 5))))) then (some (0, 0, 0, ([] : List Int), 0, 4)) else (if 3 < (l0.length : Int) then ((some (([] : List Int) : List Int)).bind fun y296 => (if 0 ≤ (wrap64 (9 + (wrap64 (rd l0 8)))) then (if (wrap64 (9 + (wrap64 (rd l0 8)))) ≤ (wrap64 (6 + (Go.bits .or .i64 (wrap64 ((wrap64 (rd l0 4)) * 256)) (wrap64 (rd l0 5))))) then (if (wrap64 (6 + (Go.bits .or .i64 (wrap64 ((wrap64 (rd l0 4)) * 256)) (wrap64 (rd l0 5))))) ≤ (l0.length : Int) then (if y296.length + ((l0.take ((wrap64 (6 + (Go.bits .or .i64 (wrap64 ((wrap64 (rd l0 4)) * 256)) (wrap64 (rd l0 5))))) : Int).toNat).drop ((wrap64 (9 + (wrap64 (rd l0 8)))) : Int).toNat).length < 140737488355328 then ((some (y296 ++ ((l0.take ((wrap64 (6 + (Go.bits .or .i64 (wrap64 ((wrap64 (rd l0 4)) * 256)) (wrap64 (rd l0 5))))) : Int).toNat).drop ((wrap64 (9 + (wrap64 (rd l0 8)))) : Int).toNat) : List Int)).bind fun y300 => (if (wrap64 (rd l0 8)) ≥ 5 then (if 9 ≤ 14 then (if 14 ≤ (l0.length : Int) then ((cutroomref16_taken.f ((l0.take 14).drop 9)).bind fun t305 => (cutroomref16_Take.j2 kj23 l0 (wrap64 (rd l0 8)) (Go.bits .or .i64 (wrap64 ((wrap64 (rd l0 4)) * 256)) (wrap64 (rd l0 5))) (wrap64 (rd l0 3)) t305 (-1) y300)) else (none)) else (none)) else (cutroomref16_Take.j2 kj23 l0 (wrap64 (rd l0 8)) (Go.bits .or .i64 (wrap64 ((wrap64 (rd l0 4)) * 256)) (wrap64 (rd l0 5))) (wrap64 (rd l0 3)) (-1) (-1) y300))) else (none)) else (none)) else (none)) else (none))) else (none))) = some (r1, r2, r3, r4, r5, r6) := by rw [if_neg (show ¬ (false = true) by decide)] at H; exact H
                      clear H
                      have H := H1
                      clear H1
                      by_cases c38 : (l0.length : Int) < (wrap64 (6 + (Go.bits .or .i64 (wrap64 ((wrap64 (rd l0 4)) * 256)) (wrap64 (rd l0 5)))))
                      · rw [if_pos c38] at H
                        have c38b0 : decide ((l0.length : Int) < (wrap64 (6 + (Go.bits .or .i64 (wrap64 ((wrap64 (rd l0 4)) * 256)) (wrap64 (rd l0 5)))))) = true := decide_eq_true c38
                        clear c38
                        simp only [Option.some.injEq, Prod.mk.injEq] at H
                        obtain ⟨rfl, rfl, rfl, rfl, rfl, rfl⟩ := H
                        have hcz39_0 : wc.cell? ⟨gb278, 0, none⟩ = some (.int .i64 0) := (blk_cell BK278.out 0).trans rfl
                        have hcz39_1 : wc.cell? ⟨gb278, 1, none⟩ = some (.int .i64 0) := (blk_cell BK278.out 1).trans rfl
                        have hcz39_2 : wc.cell? ⟨gb278, 2, none⟩ = some (.int .i64 0) := (blk_cell BK278.out 2).trans rfl
                        have hcz39_3 : wc.cell? ⟨gb278, 3, none⟩ = some (.slice none 0 0) := (blk_cell BK278.out 3).trans rfl
                        have hfz39_0 := blk_frozen BK278.out 0
                        have hfz39_1 := blk_frozen BK278.out 1
                        have hfz39_2 := blk_frozen BK278.out 2
                        have hfz39_3 := blk_frozen BK278.out 3
                        go_wp2
                        refine bodyPost_ret (results_ctt rfl _ _ gb278 29 #[.int .i64 0, .int .i64 0, .int .i64 0, .slice none 0 0] (0, 0) _ rfl (by (with_reducible repeat (first | refine blk_drewN ?_ _ | refine blk_drew ?_ | refine blk_alloc ?_ _)); refine blk_put (cs := #[.int .i64 0, .int .i64 0, .int .i64 0, .slice none 0 0]) ?_ 3 _ rfl; (with_reducible repeat (first | refine blk_drewN ?_ _ | refine blk_drew ?_ | refine blk_alloc ?_ _)); refine blk_put (cs := #[.int .i64 0, .int .i64 0, .int .i64 0, .slice none 0 0]) ?_ 2 _ rfl; (with_reducible repeat (first | refine blk_drewN ?_ _ | refine blk_drew ?_ | refine blk_alloc ?_ _)); refine blk_put (cs := #[.int .i64 0, .int .i64 0, .int .i64 0, .slice none 0 0]) ?_ 1 _ rfl; (with_reducible repeat (first | refine blk_drewN ?_ _ | refine blk_drew ?_ | refine blk_alloc ?_ _)); refine blk_put (cs := #[.int .i64 0, .int .i64 0, .int .i64 0, .slice none 0 0]) ?_ 0 _ rfl; (with_reducible repeat (first | refine blk_drewN ?_ _ | refine blk_drew ?_ | refine blk_alloc ?_ _)); exact BK278.out) Try.underlying29 rfl (by kernel_rfl)) rfl ?_
                        exact ⟨_, by first | rfl | (simp [errW_none, errW_some] <;> rfl) | (simp [*, errW_none, errW_some] <;> rfl), by first | exact Kd.R_nil _ _ _ _ _ | exact Kd.N_nil _ _ _ _ _ | exact Kd.V_nil _ _ _ _ _ | exact Kd.Q_nil _ _ _ _ _ | exact Kd.S_nil _ _ _ _ _, by repeat (first | (with_reducible first | exact HB.out | apply below_alloc | apply pw_below_drewN | apply below_drew1 | refine below_set ?_ GE278.out) | exact HB.out)⟩
                      · rw [if_neg c38] at H
                        have c38b0 : decide ((l0.length : Int) < (wrap64 (6 + (Go.bits .or .i64 (wrap64 ((wrap64 (rd l0 4)) * 256)) (wrap64 (rd l0 5)))))) = false := decide_eq_false c38
                        clear c38
                        by_cases c40 : 3 < (l0.length : Int)
                        · rw [if_pos c40] at H
                          have c40b0 : decide (3 < (l0.length : Int)) = true := decide_eq_true c40
                          have c40b1 : decide (3 < l0.length) = true := decide_eq_true (by omega)
                          clear c40
                          obtain ⟨y296, hy296⟩ : ∃ y_ : List Int, y_ = (([] : List Int)) := ⟨_, rfl⟩
                          replace H : (if 0 ≤ (wrap64 (9 + (wrap64 (rd l0 8)))) then (if (wrap64 (9 + (wrap64 (rd l0 8)))) ≤ (wrap64 (6 + (Go.bits .or .i64 (wrap64 ((wrap64 (rd l0 4)) * 256)) (wrap64 (rd l0 5))))) then (if (wrap64 (6 + (Go.bits .or .i64 (wrap64 ((wrap64 (rd l0 4)) * 256)) (wrap64 (rd l0 5))))) ≤ (l0.length : Int) then (if y296.length + ((l0.take ((wrap64 (6 + (Go.bits .or .i64 (wrap64 ((wrap64 (rd l0 4)) * 256)) (wrap64 (rd l0 5))))) : Int).toNat).drop ((wrap64 (9 + (wrap64 (rd l0 8)))) : Int).toNat).length < 140737488355328 then ((some (y296 ++ ((l0.take ((wrap64 (6 + (Go.bits .or .i64 (wrap64 ((wrap64 (rd l0 4)) * 256)) (wrap64 (rd l0 5))))) : Int).toNat).drop ((wrap64 (9 + (wrap64 (rd l0 8)))) : Int).toNat) : List Int)).bind fun y300 => (if (wrap64 (rd l0 8)) ≥ 5 then (if 9 ≤ 14 then (if 14 ≤ (l0.length : Int) then ((cutroomref16_taken.f ((l0.take 14).drop 9)).bind fun t305 => (cutroomref16_Take.j2 kj23 l0 (wrap64 (rd l0 8)) (Go.bits .or .i64 (wrap64 ((wrap64 (rd l0 4)) * 256)) (wrap64 (rd l0 5))) (wrap64 (rd l0 3)) t305 (-1) y300)) else (none)) else (none)) else (cutroomref16_Take.j2 kj23 l0 (wrap64 (rd l0 8)) (Go.bits .or .i64 (wrap64 ((wrap64 (rd l0 4)) * 256)) (wrap64 (rd l0 5))) (wrap64 (rd l0 3)) (-1) (-1) y300))) else (none)) else (none)) else (none)) else (none)) = some (r1, r2, r3, r4, r5, r6) := by first | (rw [hy296]; with_reducible exact H) | (have H2_ := (Option.bind_some _ _).symm.trans H; rw [hy296]; with_reducible exact H2_) | (have H2_ := (Option.bind_some _ _).symm.trans H; with_reducible exact H2_) | with_reducible exact H | (rw [hy296]; exact H) | exact H
                          have Ny296 := Aside0.mk hy296
                          clear hy296
                          obtain ⟨ji41, hji41⟩ : ∃ j_ : Int, (wrap64 (9 + (wrap64 (rd l0 8)))) = j_ := ⟨_, rfl⟩
                          replace H : (if 0 ≤ (ji41) then (if (ji41) ≤ (wrap64 (6 + (Go.bits .or .i64 (wrap64 ((wrap64 (rd l0 4)) * 256)) (wrap64 (rd l0 5))))) then (if (wrap64 (6 + (Go.bits .or .i64 (wrap64 ((wrap64 (rd l0 4)) * 256)) (wrap64 (rd l0 5))))) ≤ (l0.length : Int) then (if y296.length + ((l0.take ((wrap64 (6 + (Go.bits .or .i64 (wrap64 ((wrap64 (rd l0 4)) * 256)) (wrap64 (rd l0 5))))) : Int).toNat).drop ((ji41) : Int).toNat).length < 140737488355328 then ((some (y296 ++ ((l0.take ((wrap64 (6 + (Go.bits .or .i64 (wrap64 ((wrap64 (rd l0 4)) * 256)) (wrap64 (rd l0 5))))) : Int).toNat).drop ((ji41) : Int).toNat) : List Int)).bind fun y300 => (if (wrap64 (rd l0 8)) ≥ 5 then (if 9 ≤ 14 then (if 14 ≤ (l0.length : Int) then ((cutroomref16_taken.f ((l0.take 14).drop 9)).bind fun t305 => (cutroomref16_Take.j2 kj23 l0 (wrap64 (rd l0 8)) (Go.bits .or .i64 (wrap64 ((wrap64 (rd l0 4)) * 256)) (wrap64 (rd l0 5))) (wrap64 (rd l0 3)) t305 (-1) y300)) else (none)) else (none)) else (cutroomref16_Take.j2 kj23 l0 (wrap64 (rd l0 8)) (Go.bits .or .i64 (wrap64 ((wrap64 (rd l0 4)) * 256)) (wrap64 (rd l0 5))) (wrap64 (rd l0 3)) (-1) (-1) y300))) else (none)) else (none)) else (none)) else (none)) = some (r1, r2, r3, r4, r5, r6) := by first | (rw [hji41] at H; exact H) | (simp only [hji41] at H ⊢; exact H)
                          have hji41w : (IntKind.i64.wrap (9 + (wrap64 (rd l0 8)))) = ji41 := (i64_w _).trans hji41
                          by_cases c42 : 0 ≤ (ji41)
                          · rw [if_pos c42] at H
                            have c42b0 := eq_true c42
                            have c42b1 : decide (0 ≤ (ji41)) = true := decide_eq_true c42
                            clear c42
                            by_cases c43 : (ji41) ≤ (wrap64 (6 + (Go.bits .or .i64 (wrap64 ((wrap64 (rd l0 4)) * 256)) (wrap64 (rd l0 5)))))
                            · rw [if_pos c43] at H
                              have c43b0 := eq_true c43
                              have c43b1 : decide ((ji41) ≤ (wrap64 (6 + (Go.bits .or .i64 (wrap64 ((wrap64 (rd l0 4)) * 256)) (wrap64 (rd l0 5)))))) = true := decide_eq_true c43
                              by_cases c44 : (wrap64 (6 + (Go.bits .or .i64 (wrap64 ((wrap64 (rd l0 4)) * 256)) (wrap64 (rd l0 5))))) ≤ (l0.length : Int)
                              · rw [if_pos c44] at H
                                have c44b0 := eq_true c44
                                have c44b1 : decide ((wrap64 (6 + (Go.bits .or .i64 (wrap64 ((wrap64 (rd l0 4)) * 256)) (wrap64 (rd l0 5))))) ≤ (l0.length : Int)) = true := decide_eq_true c44
                                by_cases c45 : y296.length + ((l0.take ((wrap64 (6 + (Go.bits .or .i64 (wrap64 ((wrap64 (rd l0 4)) * 256)) (wrap64 (rd l0 5))))) : Int).toNat).drop ((ji41) : Int).toNat).length < 140737488355328
                                · rw [if_pos c45] at H
                                  have LMc45 := Aside0.mk c45
                                  clear c45
                                  obtain ⟨y300, hy300⟩ : ∃ y_ : List Int, y_ = (y296 ++ ((l0.take ((wrap64 (6 + (Go.bits .or .i64 (wrap64 ((wrap64 (rd l0 4)) * 256)) (wrap64 (rd l0 5))))) : Int).toNat).drop ((ji41) : Int).toNat)) := ⟨_, rfl⟩
                                  replace H : (if (wrap64 (rd l0 8)) ≥ 5 then (if 9 ≤ 14 then (if 14 ≤ (l0.length : Int) then ((cutroomref16_taken.f ((l0.take 14).drop 9)).bind fun t305 => (cutroomref16_Take.j2 kj23 l0 (wrap64 (rd l0 8)) (Go.bits .or .i64 (wrap64 ((wrap64 (rd l0 4)) * 256)) (wrap64 (rd l0 5))) (wrap64 (rd l0 3)) t305 (-1) y300)) else (none)) else (none)) else (cutroomref16_Take.j2 kj23 l0 (wrap64 (rd l0 8)) (Go.bits .or .i64 (wrap64 ((wrap64 (rd l0 4)) * 256)) (wrap64 (rd l0 5))) (wrap64 (rd l0 3)) (-1) (-1) y300)) = some (r1, r2, r3, r4, r5, r6) := by first | (rw [hy300]; with_reducible exact H) | (have H2_ := (Option.bind_some _ _).symm.trans H; rw [hy300]; with_reducible exact H2_) | (have H2_ := (Option.bind_some _ _).symm.trans H; with_reducible exact H2_) | with_reducible exact H | (rw [hy300]; exact H) | exact H
                                  have Ny300 := Aside0.mk hy300
                                  clear hy300
                                  have HC46 := Aside0.mk H
                                  clear H
                                  try go_wp2
                                  have n0_ := Aside0.mk (blk_drew BK278.out)
                                  have n1_ := Aside0.mk (below_drew1 HB.out)
                                  clear BK278
                                  clear HB
                                  have BK278 := n0_
                                  have HB := n1_
                                  clear n0_ n1_
                                  have p295 : 0 ≤ (3 : Int) := (by omega)
                                  have q295 : 3 < (l0.length : Int) := of_decide_eq_true (by first | (with_reducible assumption) | assumption)
                                  obtain ⟨ad295, e295, hx295_0⟩ := Kd.at_int HR0.out 3 p295 q295
                                  have hw295_0 := hx295_0
                                  (try rw [show ((3 : Int)).toNat = 3 from rfl] at hw295_0)
                                  (try rw [show 3 * 1 = 3 from rfl] at hw295_0)
                                  (try simp only [Nat.reduceMul, Nat.reduceEqDiff, Go.Addr.add, ↓reduceIte] at hw295_0)
                                  obtain rfl : ad279 = ad295 := (by injection e295)
                                  (try simp only [show (3 : Int).toNat = 3 from rfl, Nat.reduceMul, Nat.reduceEqDiff, Go.Addr.add, ↓reduceIte] at hx295_0)
                                  have qi295 : (3 < l0.length) = True := eq_true (by omega)
                                  (try rw [show ((3 : Int)).toNat = 3 from rfl] at hx295_0)
                                  replace hx295_0 := (HB.out.cell (World.block_lt_of_cell? w _ hx295_0)).trans hx295_0
                                  replace p295 := eq_true p295
                                  replace q295 := eq_true q295
                                  obtain ⟨i048, hi048, _, hsz48, _⟩ := info_parts info5
                                  obtain ⟨A48, hcut48, hA48, hC48⟩ := print_mid_of (P := Try.prog) (Value.int .u8) 0 27 5 .i64 .i64 Try.underlying27 hi048 hsz48 (some ad279) c0 l0 (ji41) (wrap64 (6 + (Go.bits .or .i64 (wrap64 ((wrap64 (rd l0 4)) * 256)) (wrap64 (rd l0 5))))) (of_decide_eq_true (by first | (with_reducible assumption) | assumption)) (by first | omega | exact of_decide_eq_true (by first | (with_reducible assumption) | assumption)) (of_decide_eq_true (by first | (with_reducible assumption) | assumption)) HC0.out
                                  have HR299 := Aside0.mk (Kd.C_of_reads (h1 := fun _ => rfl) (hA48 _ (Kd.reads_of_C HR0.out)))
                                  have HC299 := Aside0.mk hC48
                                  clear hA48 hC48 hi048 hsz48
                                  refine start_ (n := 15) (S := fun w' => w'.cell? ⟨ad279.block, ad279.off + 3, none⟩ = some (.int .u8 (rd l0 3))) (ds := []) #[false, false, false, false, false, false, false, false, false, false, false, false, false, false, false] (by kernel_rfl) rfl rfl (((HB.out.cell (World.block_lt_of_cell? w _ hw295_0)).trans hw295_0)) (fun hHeld => ?_); refine with_tabW cutroomref16_Take.tab10 cutroomref16_Take.bits10 (fun HT_ HW_ => ?_)
                                  generalize wc.drew = w47 at BK278 HB HR299 hx295_0 hHeld ⊢
                                  refine pure_ (i := 0) (N := some 105) (v := ?_) (a' := ?_) #[true, false, false, false, false, false, false, false, false, false, false, false, false, false, false] rfl rfl (any_of HT_.out (by kernel_rfl)) (fun _ _ _ h => h) (Or.inl ⟨by rfl, ?_⟩) ?_ ?_
                                  rotate_left
                                  · intro w'
                                    go_simp
                                    with_reducible rfl
                                  rotate_left
                                  · simp only [Act.put, List.setIfInBounds_toArray, List.set_cons_zero, List.set_cons_succ, i64_w, i32_w]
                                    rfl
                                  refine pure_ (i := 1) (N := some 106) (v := ?_) (a' := ?_) #[true, true, false, false, false, false, false, false, false, false, false, false, false, false, false] rfl rfl (any_of HT_.out (by kernel_rfl)) (fun _ _ _ h => h) (Or.inl ⟨by rfl, ?_⟩) ?_ ?_
                                  rotate_left
                                  · intro w'
                                    go_simp
                                    with_reducible rfl
                                  rotate_left
                                  · simp only [Act.put, List.setIfInBounds_toArray, List.set_cons_zero, List.set_cons_succ, i64_w, i32_w]
                                    rfl
                                  refine pure_ (i := 5) (N := some 110) (v := ?_) (a' := ?_) #[true, true, false, false, false, true, false, false, false, false, false, false, false, false, false] rfl rfl (any_of HT_.out (by kernel_rfl)) (fun _ _ _ h => h) (Or.inl ⟨by rfl, ?_⟩) ?_ ?_
                                  rotate_left
                                  · intro w'
                                    go_simp
                                    with_reducible rfl
                                  rotate_left
                                  · simp only [Act.put, List.setIfInBounds_toArray, List.set_cons_zero, List.set_cons_succ, i64_w, i32_w]
                                    rfl
                                  refine pure_ (i := 6) (N := some 111) (v := ?_) (a' := ?_) #[true, true, false, false, false, true, true, false, false, false, false, false, false, false, false] rfl rfl (any_of HT_.out (by kernel_rfl)) (fun _ _ _ h => h) (Or.inl ⟨by rfl, ?_⟩) ?_ ?_
                                  rotate_left
                                  · intro w'
                                    go_simp
                                    with_reducible rfl
                                  rotate_left
                                  · simp only [Act.put, List.setIfInBounds_toArray, List.set_cons_zero, List.set_cons_succ, i64_w, i32_w]
                                    rfl
                                  refine pure_ (i := 7) (N := some 112) (v := ?_) (a' := ?_) #[true, true, false, false, false, true, true, true, false, false, false, false, false, false, false] rfl rfl (any_of HT_.out (by kernel_rfl)) (fun _ _ _ h => h) (Or.inl ⟨by rfl, ?_⟩) ?_ ?_
                                  rotate_left
                                  · intro w'
                                    go_simp
                                    with_reducible rfl
                                  rotate_left
                                  · simp only [Act.put, List.setIfInBounds_toArray, List.set_cons_zero, List.set_cons_succ, i64_w, i32_w]
                                    rfl
                                  refine pure_ (i := 8) (N := some 113) (v := ?_) (a' := ?_) #[true, true, false, false, false, true, true, true, true, false, false, false, false, false, false] rfl rfl (any_of HT_.out (by kernel_rfl)) (fun _ _ _ h => h) (Or.inl ⟨by rfl, ?_⟩) ?_ ?_
                                  rotate_left
                                  · intro w'
                                    go_simp
                                    with_reducible rfl
                                  rotate_left
                                  · simp only [Act.put, List.setIfInBounds_toArray, List.set_cons_zero, List.set_cons_succ, i64_w, i32_w]
                                    rfl
                                  refine pure_ (i := 9) (N := some 114) (v := ?_) (a' := ?_) #[true, true, false, false, false, true, true, true, true, true, false, false, false, false, false] rfl rfl (any_of HT_.out (by kernel_rfl)) (fun _ _ _ h => h) (Or.inl ⟨by rfl, ?_⟩) ?_ ?_
                                  rotate_left
                                  · intro w'
                                    go_simp
                                    with_reducible rfl
                                  rotate_left
                                  · simp only [Act.put, List.setIfInBounds_toArray, List.set_cons_zero, List.set_cons_succ, i64_w, i32_w]
                                    rfl
                                  refine pure_ (i := 10) (N := some 115) (v := ?_) (a' := ?_) #[true, true, false, false, false, true, true, true, true, true, true, false, false, false, false] rfl rfl (any_of HT_.out (by kernel_rfl)) (fun _ _ _ h => h) (Or.inl ⟨by rfl, ?_⟩) ?_ ?_
                                  rotate_left
                                  · intro w'
                                    go_simp
                                    with_reducible rfl
                                  rotate_left
                                  · simp only [Act.put, List.setIfInBounds_toArray, List.set_cons_zero, List.set_cons_succ, i64_w, i32_w]
                                    rfl
                                  refine take_ (i := 2) (N := some 107) (v := ?_) (a' := ?_) #[true, true, true, false, false, true, true, true, true, true, true, false, false, false, false] rfl rfl (take_ofW HT_.out HW_.out (by kernel_rfl)) (fun _ _ _ h => h) (Or.inl ⟨by rfl, ?_⟩) hHeld ?_ ?_
                                  rotate_left
                                  · intro w' s0
                                    go_simp
                                    with_reducible rfl
                                  rotate_left
                                  · simp only [Act.put, List.setIfInBounds_toArray, List.set_cons_zero, List.set_cons_succ, i64_w, i32_w]
                                    rfl
                                  refine pure_ (i := 3) (N := some 108) (v := ?_) (a' := ?_) #[true, true, true, true, false, true, true, true, true, true, true, false, false, false, false] rfl rfl (any_of HT_.out (by kernel_rfl)) (fun _ _ _ h => h) (Or.inl ⟨by rfl, ?_⟩) ?_ ?_
                                  rotate_left
                                  · intro w'
                                    go_simp
                                    with_reducible rfl
                                  rotate_left
                                  · simp only [Act.put, List.setIfInBounds_toArray, List.set_cons_zero, List.set_cons_succ, i64_w, i32_w]
                                    rfl
                                  refine join_ (σ := Value × Value × Nat) 1 #[true, true, true, true, true, true, true, true, true, true, true, true, true, true, false] (fun s_ => [(109, s_.1), (116, s_.2.1), (7, .pointer (some ⟨s_.2.2, 0, none⟩)), (117, .agg #[.int .i64 (wrap64 (rd l0 3)), .int .i64 (-1), .int .i64 (-1), s_.2.1])]) (fun s_ w' => (w'.cell? ⟨ad279.block, ad279.off + 3, none⟩ = some (.int .u8 (rd l0 3))) ∧ (Kd.R (Kd.int .u8) 5 w' w.heap.size (fun _ => True) s_.2.1 y300) ∧ (w'.heap[gb278]? = some (.cells #[.int .i64 0, .int .i64 0, .int .i64 0, .slice none 0 0] 29 (0, 0))) ∧ (w'.heap[s_.2.2]? = some (.cells #[.int .i64 0, .int .i64 0, .int .i64 0, .slice none 0 0] 29 (0, 0))) ∧ (w.heap.size ≤ s_.2.2) ∧ (w.heap.size ≤ s_.2.2) ∧ (gb278 ≠ s_.2.2) ∧ (s_.2.2 ≠ gb278) ∧ (Below w.heap.size w w')) ?_ ?_
                                  rotate_left
                                  · intro hCont
                                    refine two_ (i := 4) (j := 13) (Ni := some 109) (Nj := some 7) #[true, true, true, true, true, true, true, true, true, true, true, false, false, false, false] #[true, true, true, true, false, true, true, true, true, true, true, false, false, true, false] rfl rfl rfl rfl (two_of HT_.out (by kernel_rfl)) (by decide) (by decide) (fun K hK => ?_) (fun K hK => ?_)
                                    · skip
                                      refine Kd.R_lit_step (Kd.int .u8) _ 5 ?hg (N := 109) ?hd (xs := ([] : List Int)) (inner := []) (ok := fun _ => True) (okp := fun _ => True) ?hr ?hp (fun _ hk => hk) trivial (Below.refl _ _) (Nat.le_refl _) (by simp) ?_; (case hd => rfl); (case hg => rfl); (case hr => first | (go_simp; done) | (go_simp; rfl)); (case hp => exact (Reps.none _ _))
                                      intro v297 w49 ho50 hb hg_ hnew_
                                      clear hg_ hnew_
                                      (first | rw [← Ny296.out] at ho50 | (simp only [Int.reduceToNat] at ho50; rw [← Ny296.out] at ho50))
                                      have n0_ := Aside0.mk (Kd.R_lower ho50 (below_size (by repeat (first | (with_reducible first | exact HB.out | apply below_alloc | apply pw_below_drewN | apply below_drew1 | refine below_set ?_ GE278.out) | exact HB.out))))
                                      have n1_ := Aside0.mk (blk_below (g := gb278) (o := .cells #[.int .i64 0, .int .i64 0, .int .i64 0, .slice none 0 0] 29 (0, 0)) (by (with_reducible repeat (first | refine blk_drewN ?_ _ | refine blk_drew ?_ | refine blk_alloc ?_ _)); exact BK278.out) hb)
                                      have n2_ := Aside0.mk (below_step (by repeat (first | (with_reducible first | exact HB.out | apply below_alloc | apply pw_below_drewN | apply below_drew1 | refine below_set ?_ GE278.out) | exact HB.out)) hb)
                                      clear BK278
                                      clear HB
                                      have HO298 := n0_
                                      have BK278 := n1_
                                      have HB := n2_
                                      clear n0_ n1_ n2_
                                      clear hb ho50
                                      refine hK.out _ _ (((HB.out.cell (World.block_lt_of_cell? w _ hw295_0)).trans hw295_0)) (fun hHeld => ?_)
                                      clear hK K
                                      refine norm_ (a' := ?_) ?_ ?_
                                      rotate_left
                                      · show Act.put _ (some 109) _ = _
                                        simp only [Act.put, List.setIfInBounds_toArray, List.set_cons_zero, List.set_cons_succ, i64_w, i32_w]
                                        rfl
                                      refine two_ (i := 11) (j := 13) (Ni := some 116) (Nj := some 7) #[true, true, true, true, true, true, true, true, true, true, true, true, false, false, false] #[true, true, true, true, true, true, true, true, true, true, true, false, false, true, false] rfl rfl rfl rfl (two_of HT_.out (by kernel_rfl)) (by decide) (by decide) (fun K hK => ?_) (fun K hK => ?_)
                                      · skip
                                        refine Kd.R_append_rows_step (Kd.int .u8) (w0 := w) w.heap.size (by rfl) (.tmp 109) (.tmp 115) 27 5 (.int .u8 0) 1 rfl Try.underlying27 info5 rfl (by decide) (by omega) v297 y296 ((l0.take ((wrap64 (6 + (Go.bits .or .i64 (wrap64 ((wrap64 (rd l0 4)) * 256)) (wrap64 (rd l0 5))))) : Int).toNat).drop ((ji41) : Int).toNat) _ _ _ (fun _ => True) (fun _ => False) rfl rfl ?aO ?aR (fun _ _ h => h) (fun _ h => h.elim) ?aF ?aB ?aS ?aL ?_
                                        (case aR => first | (rw [← show ((l0.take ((wrap64 (6 + (Go.bits .or .i64 (wrap64 ((wrap64 (rd l0 4)) * 256)) (wrap64 (rd l0 5))))) : Int).toNat).drop ((ji41) : Int).toNat).length = ((wrap64 (6 + (Go.bits .or .i64 (wrap64 ((wrap64 (rd l0 4)) * 256)) (wrap64 (rd l0 5))))).toNat - (ji41).toNat) from (by rw [List.length_drop, List.length_take]; have h_ : ((wrap64 (6 + (Go.bits .or .i64 (wrap64 ((wrap64 (rd l0 4)) * 256)) (wrap64 (rd l0 5))))) : Int) ≤ (l0.length : Int) := of_decide_eq_true (by first | (with_reducible assumption) | assumption); omega)]; repeat (first | exact (Kd.C_below HR299.out HB.out) | (with_reducible refine Kd.C_alloc ?_ _) | (with_reducible refine Kd.C_drewN ?_ _) | (with_reducible refine Kd.C_drew ?_))) | (repeat (first | exact (Kd.C_below HR299.out HB.out) | (with_reducible refine Kd.C_alloc ?_ _) | (with_reducible refine Kd.C_drewN ?_ _) | (with_reducible refine Kd.C_drew ?_))))
                                        (case aB => exact (by repeat (first | (with_reducible first | exact HB.out | apply below_alloc | apply pw_below_drewN | apply below_drew1 | refine below_set ?_ GE278.out) | exact HB.out)))
                                        (case aF => exact (fun _ _ => trivial))
                                        (case aO => exact (by (with_reducible repeat (first | apply Kd.R_alloc | apply Kd.R_drewN | apply Kd.R_drew)); exact HO298.out))
                                        (case aS => exact (below_size (by repeat (first | (with_reducible first | exact HB.out | apply below_alloc | apply pw_below_drewN | apply below_drew1 | refine below_set ?_ GE278.out) | exact HB.out))))
                                        (case aL => have := LMc45.out; have hlx_ := (show ((l0.take ((wrap64 (6 + (Go.bits .or .i64 (wrap64 ((wrap64 (rd l0 4)) * 256)) (wrap64 (rd l0 5))))) : Int).toNat).drop ((ji41) : Int).toNat).length = ((wrap64 (6 + (Go.bits .or .i64 (wrap64 ((wrap64 (rd l0 4)) * 256)) (wrap64 (rd l0 5))))).toNat - (ji41).toNat) from (by rw [List.length_drop, List.length_take]; have h_ : ((wrap64 (6 + (Go.bits .or .i64 (wrap64 ((wrap64 (rd l0 4)) * 256)) (wrap64 (rd l0 5))))) : Int) ≤ (l0.length : Int) := of_decide_eq_true (by first | (with_reducible assumption) | assumption); omega)); omega)
                                        intro v301 w51 ho hb hg hat
                                        rw [← Ny300.out] at ho
                                        have n0_ := Aside0.mk (blk_grown (g := gb278) (o := .cells #[.int .i64 0, .int .i64 0, .int .i64 0, .slice none 0 0] 29 (0, 0)) (by (with_reducible repeat (first | refine blk_drewN ?_ _ | refine blk_drew ?_ | refine blk_alloc ?_ _)); exact BK278.out) hg (Kd.R_ne HO298.out BK278.out (by decide)))
                                        have n1_ := Aside0.mk (hb)
                                        have n2_ := Aside0.mk (ho)
                                        clear BK278
                                        clear HB
                                        clear HO298
                                        have BK278 := n0_
                                        have HB := n1_
                                        have HO302 := n2_
                                        clear n0_ n1_ n2_
                                        clear ho hb hg hat
                                        obtain ⟨Ao52, co52, eo52⟩ := Kd.R_slice HO302.out
                                        (first | subst eo52 | (injection eo52 with f1_ f2_ f3_; have f4_ := f1_.symm; have f5_ := f3_.symm; clear f1_ f2_ f3_; subst f4_; subst f5_))
                                        refine hK.out _ _ (((HB.out.cell (World.block_lt_of_cell? w _ hw295_0)).trans hw295_0)) (fun hHeld => ?_)
                                        clear hK K
                                        refine norm_ (a' := ?_) ?_ ?_
                                        rotate_left
                                        · show Act.put _ (some 116) _ = _
                                          simp only [Act.put, List.setIfInBounds_toArray, List.set_cons_zero, List.set_cons_succ, i64_w, i32_w]
                                          rfl
                                        refine pure_ (i := 12) (N := some 117) (v := ?_) (a' := ?_) #[true, true, true, true, true, true, true, true, true, true, true, true, true, false, false] rfl rfl (any_of HT_.out (by kernel_rfl)) (fun _ _ _ h => h) (Or.inl ⟨by rfl, ?_⟩) ?_ ?_
                                        rotate_left
                                        · intro w'
                                          go_simp
                                          with_reducible rfl
                                        rotate_left
                                        · simp only [Act.put, List.setIfInBounds_toArray, List.set_cons_zero, List.set_cons_succ, i64_w, i32_w]
                                          rfl
                                        refine one_ (i := 13) (N := some 7) #[true, true, true, true, true, true, true, true, true, true, true, true, true, true, false] rfl rfl (one_of HT_.out (by kernel_rfl)) (by decide) (fun K hK => ?_)
                                        refine box_step ?hg (N := 7) ?hd (cs := #[.int .i64 0, .int .i64 0, .int .i64 0, .slice none 0 0]) (t := 29) ?hr ?_; (case hd => rfl); (case hg => rfl); (case hr => first | (go_simp; done) | (go_simp; rfl))
                                        intro gb303 hg w53 hbox hb
                                        have n0_ := Aside0.mk (Kd.R_below (by (with_reducible repeat (first | apply Kd.R_alloc | apply Kd.R_drewN | apply Kd.R_drew)); exact HO302.out) hb)
                                        have n1_ := Aside0.mk (blk_below (g := gb278) (o := .cells #[.int .i64 0, .int .i64 0, .int .i64 0, .slice none 0 0] 29 (0, 0)) (by (with_reducible repeat (first | refine blk_drewN ?_ _ | refine blk_drew ?_ | refine blk_alloc ?_ _)); exact BK278.out) hb)
                                        have n2_ := Aside0.mk (below_step (by repeat (first | (with_reducible first | exact HB.out | apply below_alloc | apply pw_below_drewN | apply below_drew1 | refine below_set ?_ GE278.out) | exact HB.out)) hb)
                                        have n3_ := Aside0.mk (hbox)
                                        have n4_ := Aside0.mk ((by rw [hg]; exact (below_size (by repeat (first | (with_reducible first | exact HB.out | apply below_alloc | apply pw_below_drewN | apply below_drew1 | refine below_set ?_ GE278.out) | exact HB.out))) : w.heap.size ≤ gb303))
                                        have n5_ := Aside0.mk ((by rw [hg]; exact (below_size (by repeat (first | (with_reducible first | exact HB.out | apply below_alloc | apply pw_below_drewN | apply below_drew1 | refine below_set ?_ GE278.out) | exact HB.out))) : w.heap.size ≤ gb303))
                                        have n6_ := Aside0.mk ((by rw [hg]; exact Nat.ne_of_lt (blk_lt (g := gb278) (o := .cells #[.int .i64 0, .int .i64 0, .int .i64 0, .slice none 0 0] 29 (0, 0)) (by (with_reducible repeat (first | refine blk_drewN ?_ _ | refine blk_drew ?_ | refine blk_alloc ?_ _)); exact BK278.out)) : gb278 ≠ gb303))
                                        have n7_ := Aside0.mk ((by rw [hg]; exact Nat.ne_of_gt (blk_lt (g := gb278) (o := .cells #[.int .i64 0, .int .i64 0, .int .i64 0, .slice none 0 0] 29 (0, 0)) (by (with_reducible repeat (first | refine blk_drewN ?_ _ | refine blk_drew ?_ | refine blk_alloc ?_ _)); exact BK278.out)) : gb303 ≠ gb278))
                                        clear HO302
                                        clear BK278
                                        clear HB
                                        have HO302 := n0_
                                        have BK278 := n1_
                                        have HB := n2_
                                        have BK303 := n3_
                                        have GW303 := n4_
                                        have GE303 := n5_
                                        have NB278_303 := n6_
                                        have NB303_278 := n7_
                                        clear n0_ n1_ n2_ n3_ n4_ n5_ n6_ n7_
                                        clear hb hbox hg
                                        refine hK.out _ _ (((HB.out.cell (World.block_lt_of_cell? w _ hw295_0)).trans hw295_0)) (fun hHeld => ?_)
                                        clear hK K
                                        refine norm_ (a' := ?_) ?_ ?_
                                        rotate_left
                                        · show Act.put _ (some 7) _ = _
                                          simp only [Act.put, List.setIfInBounds_toArray, List.set_cons_zero, List.set_cons_succ, i64_w, i32_w]
                                          rfl
                                        exact norm_ (by simp only [putAll, Act.put, List.setIfInBounds_toArray, List.set_cons_zero, List.set_cons_succ]) (hCont (v297, .slice Ao52 y300.length co52, gb303) _ ⟨hHeld, (by (with_reducible repeat (first | apply Kd.R_alloc | apply Kd.R_drewN | apply Kd.R_drew)); exact HO302.out), (by (with_reducible repeat (first | refine blk_drewN ?_ _ | refine blk_drew ?_ | refine blk_alloc ?_ _)); exact BK278.out), (by (with_reducible repeat (first | refine blk_drewN ?_ _ | refine blk_drew ?_ | refine blk_alloc ?_ _)); exact BK303.out), GW303.out, GE303.out, NB278_303.out, NB303_278.out, (by repeat (first | (with_reducible first | exact HB.out | apply below_alloc | apply pw_below_drewN | apply below_drew1 | refine below_set ?_ GE278.out | refine below_set ?_ GE303.out) | exact HB.out))⟩)
                                      · skip
                                        refine box_step ?hg (N := 7) ?hd (cs := #[.int .i64 0, .int .i64 0, .int .i64 0, .slice none 0 0]) (t := 29) ?hr ?_; (case hd => rfl); (case hg => rfl); (case hr => first | (go_simp; done) | (go_simp; rfl))
                                        intro gb303 hg w51 hbox hb
                                        have n0_ := Aside0.mk (Kd.R_below (by (with_reducible repeat (first | apply Kd.R_alloc | apply Kd.R_drewN | apply Kd.R_drew)); exact HO298.out) hb)
                                        have n1_ := Aside0.mk (blk_below (g := gb278) (o := .cells #[.int .i64 0, .int .i64 0, .int .i64 0, .slice none 0 0] 29 (0, 0)) (by (with_reducible repeat (first | refine blk_drewN ?_ _ | refine blk_drew ?_ | refine blk_alloc ?_ _)); exact BK278.out) hb)
                                        have n2_ := Aside0.mk (below_step (by repeat (first | (with_reducible first | exact HB.out | apply below_alloc | apply pw_below_drewN | apply below_drew1 | refine below_set ?_ GE278.out) | exact HB.out)) hb)
                                        have n3_ := Aside0.mk (hbox)
                                        have n4_ := Aside0.mk ((by rw [hg]; exact (below_size (by repeat (first | (with_reducible first | exact HB.out | apply below_alloc | apply pw_below_drewN | apply below_drew1 | refine below_set ?_ GE278.out) | exact HB.out))) : w.heap.size ≤ gb303))
                                        have n5_ := Aside0.mk ((by rw [hg]; exact (below_size (by repeat (first | (with_reducible first | exact HB.out | apply below_alloc | apply pw_below_drewN | apply below_drew1 | refine below_set ?_ GE278.out) | exact HB.out))) : w.heap.size ≤ gb303))
                                        have n6_ := Aside0.mk ((by rw [hg]; exact Nat.ne_of_lt (blk_lt (g := gb278) (o := .cells #[.int .i64 0, .int .i64 0, .int .i64 0, .slice none 0 0] 29 (0, 0)) (by (with_reducible repeat (first | refine blk_drewN ?_ _ | refine blk_drew ?_ | refine blk_alloc ?_ _)); exact BK278.out)) : gb278 ≠ gb303))
                                        have n7_ := Aside0.mk ((by rw [hg]; exact Nat.ne_of_gt (blk_lt (g := gb278) (o := .cells #[.int .i64 0, .int .i64 0, .int .i64 0, .slice none 0 0] 29 (0, 0)) (by (with_reducible repeat (first | refine blk_drewN ?_ _ | refine blk_drew ?_ | refine blk_alloc ?_ _)); exact BK278.out)) : gb303 ≠ gb278))
                                        clear HO298
                                        clear BK278
                                        clear HB
                                        have HO298 := n0_
                                        have BK278 := n1_
                                        have HB := n2_
                                        have BK303 := n3_
                                        have GW303 := n4_
                                        have GE303 := n5_
                                        have NB278_303 := n6_
                                        have NB303_278 := n7_
                                        clear n0_ n1_ n2_ n3_ n4_ n5_ n6_ n7_
                                        clear hb hbox hg
                                        refine hK.out _ _ (((HB.out.cell (World.block_lt_of_cell? w _ hw295_0)).trans hw295_0)) (fun hHeld => ?_)
                                        clear hK K
                                        refine norm_ (a' := ?_) ?_ ?_
                                        rotate_left
                                        · show Act.put _ (some 7) _ = _
                                          simp only [Act.put, List.setIfInBounds_toArray, List.set_cons_zero, List.set_cons_succ, i64_w, i32_w]
                                          rfl
                                        refine one_ (i := 11) (N := some 116) #[true, true, true, true, true, true, true, true, true, true, true, true, false, true, false] rfl rfl (one_of HT_.out (by kernel_rfl)) (by decide) (fun K hK => ?_)
                                        refine Kd.R_append_rows_step (Kd.int .u8) (w0 := w) w.heap.size (by rfl) (.tmp 109) (.tmp 115) 27 5 (.int .u8 0) 1 rfl Try.underlying27 info5 rfl (by decide) (by omega) v297 y296 ((l0.take ((wrap64 (6 + (Go.bits .or .i64 (wrap64 ((wrap64 (rd l0 4)) * 256)) (wrap64 (rd l0 5))))) : Int).toNat).drop ((ji41) : Int).toNat) _ _ _ (fun _ => True) (fun _ => False) rfl rfl ?aO ?aR (fun _ _ h => h) (fun _ h => h.elim) ?aF ?aB ?aS ?aL ?_
                                        (case aR => first | (rw [← show ((l0.take ((wrap64 (6 + (Go.bits .or .i64 (wrap64 ((wrap64 (rd l0 4)) * 256)) (wrap64 (rd l0 5))))) : Int).toNat).drop ((ji41) : Int).toNat).length = ((wrap64 (6 + (Go.bits .or .i64 (wrap64 ((wrap64 (rd l0 4)) * 256)) (wrap64 (rd l0 5))))).toNat - (ji41).toNat) from (by rw [List.length_drop, List.length_take]; have h_ : ((wrap64 (6 + (Go.bits .or .i64 (wrap64 ((wrap64 (rd l0 4)) * 256)) (wrap64 (rd l0 5))))) : Int) ≤ (l0.length : Int) := of_decide_eq_true (by first | (with_reducible assumption) | assumption); omega)]; repeat (first | exact (Kd.C_below HR299.out HB.out) | (with_reducible refine Kd.C_alloc ?_ _) | (with_reducible refine Kd.C_drewN ?_ _) | (with_reducible refine Kd.C_drew ?_))) | (repeat (first | exact (Kd.C_below HR299.out HB.out) | (with_reducible refine Kd.C_alloc ?_ _) | (with_reducible refine Kd.C_drewN ?_ _) | (with_reducible refine Kd.C_drew ?_))))
                                        (case aB => exact (by repeat (first | (with_reducible first | exact HB.out | apply below_alloc | apply pw_below_drewN | apply below_drew1 | refine below_set ?_ GE278.out | refine below_set ?_ GE303.out) | exact HB.out)))
                                        (case aF => exact (fun _ _ => trivial))
                                        (case aO => exact (by (with_reducible repeat (first | apply Kd.R_alloc | apply Kd.R_drewN | apply Kd.R_drew)); exact HO298.out))
                                        (case aS => exact (below_size (by repeat (first | (with_reducible first | exact HB.out | apply below_alloc | apply pw_below_drewN | apply below_drew1 | refine below_set ?_ GE278.out | refine below_set ?_ GE303.out) | exact HB.out))))
                                        (case aL => have := LMc45.out; have hlx_ := (show ((l0.take ((wrap64 (6 + (Go.bits .or .i64 (wrap64 ((wrap64 (rd l0 4)) * 256)) (wrap64 (rd l0 5))))) : Int).toNat).drop ((ji41) : Int).toNat).length = ((wrap64 (6 + (Go.bits .or .i64 (wrap64 ((wrap64 (rd l0 4)) * 256)) (wrap64 (rd l0 5))))).toNat - (ji41).toNat) from (by rw [List.length_drop, List.length_take]; have h_ : ((wrap64 (6 + (Go.bits .or .i64 (wrap64 ((wrap64 (rd l0 4)) * 256)) (wrap64 (rd l0 5))))) : Int) ≤ (l0.length : Int) := of_decide_eq_true (by first | (with_reducible assumption) | assumption); omega)); omega)
                                        intro v301 w52 ho hb hg hat
                                        rw [← Ny300.out] at ho
                                        have n0_ := Aside0.mk (blk_grown (g := gb278) (o := .cells #[.int .i64 0, .int .i64 0, .int .i64 0, .slice none 0 0] 29 (0, 0)) (by (with_reducible repeat (first | refine blk_drewN ?_ _ | refine blk_drew ?_ | refine blk_alloc ?_ _)); exact BK278.out) hg (Kd.R_ne HO298.out BK278.out (by decide)))
                                        have n1_ := Aside0.mk (blk_grown (g := gb303) (o := .cells #[.int .i64 0, .int .i64 0, .int .i64 0, .slice none 0 0] 29 (0, 0)) (by (with_reducible repeat (first | refine blk_drewN ?_ _ | refine blk_drew ?_ | refine blk_alloc ?_ _)); exact BK303.out) hg (Kd.R_ne HO298.out BK303.out (by decide)))
                                        have n2_ := Aside0.mk (hb)
                                        have n3_ := Aside0.mk (ho)
                                        clear BK278
                                        clear BK303
                                        clear HB
                                        clear HO298
                                        have BK278 := n0_
                                        have BK303 := n1_
                                        have HB := n2_
                                        have HO302 := n3_
                                        clear n0_ n1_ n2_ n3_
                                        clear ho hb hg hat
                                        obtain ⟨Ao53, co53, eo53⟩ := Kd.R_slice HO302.out
                                        (first | subst eo53 | (injection eo53 with f1_ f2_ f3_; have f4_ := f1_.symm; have f5_ := f3_.symm; clear f1_ f2_ f3_; subst f4_; subst f5_))
                                        refine hK.out _ _ (((HB.out.cell (World.block_lt_of_cell? w _ hw295_0)).trans hw295_0)) (fun hHeld => ?_)
                                        clear hK K
                                        refine norm_ (a' := ?_) ?_ ?_
                                        rotate_left
                                        · show Act.put _ (some 116) _ = _
                                          simp only [Act.put, List.setIfInBounds_toArray, List.set_cons_zero, List.set_cons_succ, i64_w, i32_w]
                                          rfl
                                        refine pure_ (i := 12) (N := some 117) (v := ?_) (a' := ?_) #[true, true, true, true, true, true, true, true, true, true, true, true, true, true, false] rfl rfl (any_of HT_.out (by kernel_rfl)) (fun _ _ _ h => h) (Or.inl ⟨by rfl, ?_⟩) ?_ ?_
                                        rotate_left
                                        · intro w'
                                          go_simp
                                          with_reducible rfl
                                        rotate_left
                                        · simp only [Act.put, List.setIfInBounds_toArray, List.set_cons_zero, List.set_cons_succ, i64_w, i32_w]
                                          rfl
                                        exact norm_ (by simp only [putAll, Act.put, List.setIfInBounds_toArray, List.set_cons_zero, List.set_cons_succ]) (hCont (v297, .slice Ao53 y300.length co53, gb303) _ ⟨hHeld, (by (with_reducible repeat (first | apply Kd.R_alloc | apply Kd.R_drewN | apply Kd.R_drew)); exact HO302.out), (by (with_reducible repeat (first | refine blk_drewN ?_ _ | refine blk_drew ?_ | refine blk_alloc ?_ _)); exact BK278.out), (by (with_reducible repeat (first | refine blk_drewN ?_ _ | refine blk_drew ?_ | refine blk_alloc ?_ _)); exact BK303.out), GW303.out, GE303.out, NB278_303.out, NB303_278.out, (by repeat (first | (with_reducible first | exact HB.out | apply below_alloc | apply pw_below_drewN | apply below_drew1 | refine below_set ?_ GE278.out | refine below_set ?_ GE303.out) | exact HB.out))⟩)
                                    · skip
                                      refine box_step ?hg (N := 7) ?hd (cs := #[.int .i64 0, .int .i64 0, .int .i64 0, .slice none 0 0]) (t := 29) ?hr ?_; (case hd => rfl); (case hg => rfl); (case hr => first | (go_simp; done) | (go_simp; rfl))
                                      intro gb303 hg w49 hbox hb
                                      have n0_ := Aside0.mk (blk_below (g := gb278) (o := .cells #[.int .i64 0, .int .i64 0, .int .i64 0, .slice none 0 0] 29 (0, 0)) (by (with_reducible repeat (first | refine blk_drewN ?_ _ | refine blk_drew ?_ | refine blk_alloc ?_ _)); exact BK278.out) hb)
                                      have n1_ := Aside0.mk (below_step (by repeat (first | (with_reducible first | exact HB.out | apply below_alloc | apply pw_below_drewN | apply below_drew1 | refine below_set ?_ GE278.out) | exact HB.out)) hb)
                                      have n2_ := Aside0.mk (hbox)
                                      have n3_ := Aside0.mk ((by rw [hg]; exact (below_size (by repeat (first | (with_reducible first | exact HB.out | apply below_alloc | apply pw_below_drewN | apply below_drew1 | refine below_set ?_ GE278.out) | exact HB.out))) : w.heap.size ≤ gb303))
                                      have n4_ := Aside0.mk ((by rw [hg]; exact (below_size (by repeat (first | (with_reducible first | exact HB.out | apply below_alloc | apply pw_below_drewN | apply below_drew1 | refine below_set ?_ GE278.out) | exact HB.out))) : w.heap.size ≤ gb303))
                                      have n5_ := Aside0.mk ((by rw [hg]; exact Nat.ne_of_lt (blk_lt (g := gb278) (o := .cells #[.int .i64 0, .int .i64 0, .int .i64 0, .slice none 0 0] 29 (0, 0)) (by (with_reducible repeat (first | refine blk_drewN ?_ _ | refine blk_drew ?_ | refine blk_alloc ?_ _)); exact BK278.out)) : gb278 ≠ gb303))
                                      have n6_ := Aside0.mk ((by rw [hg]; exact Nat.ne_of_gt (blk_lt (g := gb278) (o := .cells #[.int .i64 0, .int .i64 0, .int .i64 0, .slice none 0 0] 29 (0, 0)) (by (with_reducible repeat (first | refine blk_drewN ?_ _ | refine blk_drew ?_ | refine blk_alloc ?_ _)); exact BK278.out)) : gb303 ≠ gb278))
                                      clear BK278
                                      clear HB
                                      have BK278 := n0_
                                      have HB := n1_
                                      have BK303 := n2_
                                      have GW303 := n3_
                                      have GE303 := n4_
                                      have NB278_303 := n5_
                                      have NB303_278 := n6_
                                      clear n0_ n1_ n2_ n3_ n4_ n5_ n6_
                                      clear hb hbox hg
                                      refine hK.out _ _ (((HB.out.cell (World.block_lt_of_cell? w _ hw295_0)).trans hw295_0)) (fun hHeld => ?_)
                                      clear hK K
                                      refine norm_ (a' := ?_) ?_ ?_
                                      rotate_left
                                      · show Act.put _ (some 7) _ = _
                                        simp only [Act.put, List.setIfInBounds_toArray, List.set_cons_zero, List.set_cons_succ, i64_w, i32_w]
                                        rfl
                                      refine one_ (i := 4) (N := some 109) #[true, true, true, true, true, true, true, true, true, true, true, false, false, true, false] rfl rfl (one_of HT_.out (by kernel_rfl)) (by decide) (fun K hK => ?_)
                                      refine Kd.R_lit_step (Kd.int .u8) _ 5 ?hg (N := 109) ?hd (xs := ([] : List Int)) (inner := []) (ok := fun _ => True) (okp := fun _ => True) ?hr ?hp (fun _ hk => hk) trivial (Below.refl _ _) (Nat.le_refl _) (by simp) ?_; (case hd => rfl); (case hg => rfl); (case hr => first | (go_simp; done) | (go_simp; rfl)); (case hp => exact (Reps.none _ _))
                                      intro v297 w50 ho51 hb hg_ hnew_
                                      clear hg_ hnew_
                                      (first | rw [← Ny296.out] at ho51 | (simp only [Int.reduceToNat] at ho51; rw [← Ny296.out] at ho51))
                                      have n0_ := Aside0.mk (Kd.R_lower ho51 (below_size (by repeat (first | (with_reducible first | exact HB.out | apply below_alloc | apply pw_below_drewN | apply below_drew1 | refine below_set ?_ GE278.out | refine below_set ?_ GE303.out) | exact HB.out))))
                                      have n1_ := Aside0.mk (blk_below (g := gb278) (o := .cells #[.int .i64 0, .int .i64 0, .int .i64 0, .slice none 0 0] 29 (0, 0)) (by (with_reducible repeat (first | refine blk_drewN ?_ _ | refine blk_drew ?_ | refine blk_alloc ?_ _)); exact BK278.out) hb)
                                      have n2_ := Aside0.mk (blk_below (g := gb303) (o := .cells #[.int .i64 0, .int .i64 0, .int .i64 0, .slice none 0 0] 29 (0, 0)) (by (with_reducible repeat (first | refine blk_drewN ?_ _ | refine blk_drew ?_ | refine blk_alloc ?_ _)); exact BK303.out) hb)
                                      have n3_ := Aside0.mk (below_step (by repeat (first | (with_reducible first | exact HB.out | apply below_alloc | apply pw_below_drewN | apply below_drew1 | refine below_set ?_ GE278.out | refine below_set ?_ GE303.out) | exact HB.out)) hb)
                                      clear BK278
                                      clear BK303
                                      clear HB
                                      have HO298 := n0_
                                      have BK278 := n1_
                                      have BK303 := n2_
                                      have HB := n3_
                                      clear n0_ n1_ n2_ n3_
                                      clear hb ho51
                                      refine hK.out _ _ (((HB.out.cell (World.block_lt_of_cell? w _ hw295_0)).trans hw295_0)) (fun hHeld => ?_)
                                      clear hK K
                                      refine norm_ (a' := ?_) ?_ ?_
                                      rotate_left
                                      · show Act.put _ (some 109) _ = _
                                        simp only [Act.put, List.setIfInBounds_toArray, List.set_cons_zero, List.set_cons_succ, i64_w, i32_w]
                                        rfl
                                      refine one_ (i := 11) (N := some 116) #[true, true, true, true, true, true, true, true, true, true, true, true, false, true, false] rfl rfl (one_of HT_.out (by kernel_rfl)) (by decide) (fun K hK => ?_)
                                      refine Kd.R_append_rows_step (Kd.int .u8) (w0 := w) w.heap.size (by rfl) (.tmp 109) (.tmp 115) 27 5 (.int .u8 0) 1 rfl Try.underlying27 info5 rfl (by decide) (by omega) v297 y296 ((l0.take ((wrap64 (6 + (Go.bits .or .i64 (wrap64 ((wrap64 (rd l0 4)) * 256)) (wrap64 (rd l0 5))))) : Int).toNat).drop ((ji41) : Int).toNat) _ _ _ (fun _ => True) (fun _ => False) rfl rfl ?aO ?aR (fun _ _ h => h) (fun _ h => h.elim) ?aF ?aB ?aS ?aL ?_
                                      (case aR => first | (rw [← show ((l0.take ((wrap64 (6 + (Go.bits .or .i64 (wrap64 ((wrap64 (rd l0 4)) * 256)) (wrap64 (rd l0 5))))) : Int).toNat).drop ((ji41) : Int).toNat).length = ((wrap64 (6 + (Go.bits .or .i64 (wrap64 ((wrap64 (rd l0 4)) * 256)) (wrap64 (rd l0 5))))).toNat - (ji41).toNat) from (by rw [List.length_drop, List.length_take]; have h_ : ((wrap64 (6 + (Go.bits .or .i64 (wrap64 ((wrap64 (rd l0 4)) * 256)) (wrap64 (rd l0 5))))) : Int) ≤ (l0.length : Int) := of_decide_eq_true (by first | (with_reducible assumption) | assumption); omega)]; repeat (first | exact (Kd.C_below HR299.out HB.out) | (with_reducible refine Kd.C_alloc ?_ _) | (with_reducible refine Kd.C_drewN ?_ _) | (with_reducible refine Kd.C_drew ?_))) | (repeat (first | exact (Kd.C_below HR299.out HB.out) | (with_reducible refine Kd.C_alloc ?_ _) | (with_reducible refine Kd.C_drewN ?_ _) | (with_reducible refine Kd.C_drew ?_))))
                                      (case aB => exact (by repeat (first | (with_reducible first | exact HB.out | apply below_alloc | apply pw_below_drewN | apply below_drew1 | refine below_set ?_ GE278.out | refine below_set ?_ GE303.out) | exact HB.out)))
                                      (case aF => exact (fun _ _ => trivial))
                                      (case aO => exact (by (with_reducible repeat (first | apply Kd.R_alloc | apply Kd.R_drewN | apply Kd.R_drew)); exact HO298.out))
                                      (case aS => exact (below_size (by repeat (first | (with_reducible first | exact HB.out | apply below_alloc | apply pw_below_drewN | apply below_drew1 | refine below_set ?_ GE278.out | refine below_set ?_ GE303.out) | exact HB.out))))
                                      (case aL => have := LMc45.out; have hlx_ := (show ((l0.take ((wrap64 (6 + (Go.bits .or .i64 (wrap64 ((wrap64 (rd l0 4)) * 256)) (wrap64 (rd l0 5))))) : Int).toNat).drop ((ji41) : Int).toNat).length = ((wrap64 (6 + (Go.bits .or .i64 (wrap64 ((wrap64 (rd l0 4)) * 256)) (wrap64 (rd l0 5))))).toNat - (ji41).toNat) from (by rw [List.length_drop, List.length_take]; have h_ : ((wrap64 (6 + (Go.bits .or .i64 (wrap64 ((wrap64 (rd l0 4)) * 256)) (wrap64 (rd l0 5))))) : Int) ≤ (l0.length : Int) := of_decide_eq_true (by first | (with_reducible assumption) | assumption); omega)); omega)
                                      intro v301 w52 ho hb hg hat
                                      rw [← Ny300.out] at ho
                                      have n0_ := Aside0.mk (blk_grown (g := gb278) (o := .cells #[.int .i64 0, .int .i64 0, .int .i64 0, .slice none 0 0] 29 (0, 0)) (by (with_reducible repeat (first | refine blk_drewN ?_ _ | refine blk_drew ?_ | refine blk_alloc ?_ _)); exact BK278.out) hg (Kd.R_ne HO298.out BK278.out (by decide)))
                                      have n1_ := Aside0.mk (blk_grown (g := gb303) (o := .cells #[.int .i64 0, .int .i64 0, .int .i64 0, .slice none 0 0] 29 (0, 0)) (by (with_reducible repeat (first | refine blk_drewN ?_ _ | refine blk_drew ?_ | refine blk_alloc ?_ _)); exact BK303.out) hg (Kd.R_ne HO298.out BK303.out (by decide)))
                                      have n2_ := Aside0.mk (hb)
                                      have n3_ := Aside0.mk (ho)
                                      clear BK278
                                      clear BK303
                                      clear HB
                                      clear HO298
                                      have BK278 := n0_
                                      have BK303 := n1_
                                      have HB := n2_
                                      have HO302 := n3_
                                      clear n0_ n1_ n2_ n3_
                                      clear ho hb hg hat
                                      obtain ⟨Ao53, co53, eo53⟩ := Kd.R_slice HO302.out
                                      (first | subst eo53 | (injection eo53 with f1_ f2_ f3_; have f4_ := f1_.symm; have f5_ := f3_.symm; clear f1_ f2_ f3_; subst f4_; subst f5_))
                                      refine hK.out _ _ (((HB.out.cell (World.block_lt_of_cell? w _ hw295_0)).trans hw295_0)) (fun hHeld => ?_)
                                      clear hK K
                                      refine norm_ (a' := ?_) ?_ ?_
                                      rotate_left
                                      · show Act.put _ (some 116) _ = _
                                        simp only [Act.put, List.setIfInBounds_toArray, List.set_cons_zero, List.set_cons_succ, i64_w, i32_w]
                                        rfl
                                      refine pure_ (i := 12) (N := some 117) (v := ?_) (a' := ?_) #[true, true, true, true, true, true, true, true, true, true, true, true, true, true, false] rfl rfl (any_of HT_.out (by kernel_rfl)) (fun _ _ _ h => h) (Or.inl ⟨by rfl, ?_⟩) ?_ ?_
                                      rotate_left
                                      · intro w'
                                        go_simp
                                        with_reducible rfl
                                      rotate_left
                                      · simp only [Act.put, List.setIfInBounds_toArray, List.set_cons_zero, List.set_cons_succ, i64_w, i32_w]
                                        rfl
                                      exact norm_ (by simp only [putAll, Act.put, List.setIfInBounds_toArray, List.set_cons_zero, List.set_cons_succ]) (hCont (v297, .slice Ao53 y300.length co53, gb303) _ ⟨hHeld, (by (with_reducible repeat (first | apply Kd.R_alloc | apply Kd.R_drewN | apply Kd.R_drew)); exact HO302.out), (by (with_reducible repeat (first | refine blk_drewN ?_ _ | refine blk_drew ?_ | refine blk_alloc ?_ _)); exact BK278.out), (by (with_reducible repeat (first | refine blk_drewN ?_ _ | refine blk_drew ?_ | refine blk_alloc ?_ _)); exact BK303.out), GW303.out, GE303.out, NB278_303.out, NB303_278.out, (by repeat (first | (with_reducible first | exact HB.out | apply below_alloc | apply pw_below_drewN | apply below_drew1 | refine below_set ?_ GE278.out | refine below_set ?_ GE303.out) | exact HB.out))⟩)
                                  rintro ⟨v297, v301, gb303⟩ w54 ⟨hS_, h0_, h1_, h2_, h3_, h4_, h5_, h6_, h7_⟩
                                  have n0_ : Aside0 (Kd.R (Kd.int .u8) 5 w54 w.heap.size (fun _ => True) v301 y300) := ⟨h0_⟩
                                  have n1_ : Aside0 (w54.heap[gb278]? = some (.cells #[.int .i64 0, .int .i64 0, .int .i64 0, .slice none 0 0] 29 (0, 0))) := ⟨h1_⟩
                                  have n2_ : Aside0 (w54.heap[gb303]? = some (.cells #[.int .i64 0, .int .i64 0, .int .i64 0, .slice none 0 0] 29 (0, 0))) := ⟨h2_⟩
                                  have n3_ : Aside0 (w.heap.size ≤ gb303) := ⟨h3_⟩
                                  have n4_ : Aside0 (w.heap.size ≤ gb303) := ⟨h4_⟩
                                  have n5_ : Aside0 (gb278 ≠ gb303) := ⟨h5_⟩
                                  have n6_ : Aside0 (gb303 ≠ gb278) := ⟨h6_⟩
                                  have n7_ : Aside0 (Below w.heap.size w w54) := ⟨h7_⟩
                                  clear BK278
                                  clear HB
                                  clear h0_ h1_ h2_ h3_ h4_ h5_ h6_ h7_
                                  have HO302 := n0_
                                  have BK278 := n1_
                                  have BK303 := n2_
                                  have GW303 := n3_
                                  have GE303 := n4_
                                  have NB278_303 := n5_
                                  have NB303_278 := n6_
                                  have HB := n7_
                                  clear n0_ n1_ n2_ n3_ n4_ n5_ n6_ n7_
                                  have hHeld : w54.cell? ⟨ad279.block, ad279.off + 3, none⟩ = some (.int .u8 (rd l0 3)) := hS_
                                  obtain ⟨Ao55, co55, eo55⟩ := Kd.R_slice HO302.out
                                  (first | subst eo55 | (injection eo55 with f1_ f2_ f3_; have f4_ := f1_.symm; have f5_ := f3_.symm; clear f1_ f2_ f3_; subst f4_; subst f5_))
                                  refine norm_ (a' := ?_) ?_ ?_
                                  rotate_left
                                  · simp only [putAll, Act.put, List.setIfInBounds_toArray, List.set_cons_zero, List.set_cons_succ]
                                    rfl
                                  refine one_ (i := 14) (N := none) #[true, true, true, true, true, true, true, true, true, true, true, true, true, true, true] rfl rfl (one_of HT_.out (by kernel_rfl)) (by decide) (fun K hK => ?_)
                                  have hs56 : w54.cell? ⟨gb303, 0, none⟩ = some (.int .i64 0) := (blk_cell BK303.out 0).trans rfl
                                  have hfs56 := blk_frozen BK303.out 0
                                  have hns56_0 := NB278_303.out
                                  have hms56_0 := NB303_278.out
                                  have hs57 : w54.cell? ⟨gb303, 1, none⟩ = some (.int .i64 0) := (blk_cell BK303.out 1).trans rfl
                                  have hfs57 := blk_frozen BK303.out 1
                                  have hns57_0 := NB278_303.out
                                  have hms57_0 := NB303_278.out
                                  have hs58 : w54.cell? ⟨gb303, 2, none⟩ = some (.int .i64 0) := (blk_cell BK303.out 2).trans rfl
                                  have hfs58 := blk_frozen BK303.out 2
                                  have hns58_0 := NB278_303.out
                                  have hms58_0 := NB303_278.out
                                  have hs59 : w54.cell? ⟨gb303, 3, none⟩ = some (.slice none 0 0) := (blk_cell BK303.out 3).trans rfl
                                  have hfs59 := blk_frozen BK303.out 3
                                  have hns59_0 := NB278_303.out
                                  have hms59_0 := NB303_278.out
                                  refine skip_ (w1 := ?_) (by rfl) rfl ?_ ?_
                                  rotate_left
                                  · go_simp
                                    rfl
                                  refine hK.out _ _ (((cell_far (p := ⟨gb303, _, none⟩) (by first | exact Nat.ne_of_lt (Nat.lt_of_lt_of_le (by have := World.block_lt_of_cell? _ _ hw295_0; first | rwa [add_block] at this | exact this) GW303.out) | (rw [add_block]; exact Nat.ne_of_lt (Nat.lt_of_lt_of_le (by have := World.block_lt_of_cell? _ _ hw295_0; first | rwa [add_block] at this | exact this) GW303.out)) | (show (Addr.add _ _).block ≠ _; rw [add_block]; exact Nat.ne_of_lt (Nat.lt_of_lt_of_le (by have := World.block_lt_of_cell? _ _ hw295_0; first | rwa [add_block] at this | exact this) GW303.out)) | (dsimp only; exact Nat.ne_of_lt (Nat.lt_of_lt_of_le (by have := World.block_lt_of_cell? _ _ hw295_0; first | rwa [add_block] at this | exact this) GW303.out))) _).trans (((cell_far (p := ⟨gb303, _, none⟩) (by first | exact Nat.ne_of_lt (Nat.lt_of_lt_of_le (by have := World.block_lt_of_cell? _ _ hw295_0; first | rwa [add_block] at this | exact this) GW303.out) | (rw [add_block]; exact Nat.ne_of_lt (Nat.lt_of_lt_of_le (by have := World.block_lt_of_cell? _ _ hw295_0; first | rwa [add_block] at this | exact this) GW303.out)) | (show (Addr.add _ _).block ≠ _; rw [add_block]; exact Nat.ne_of_lt (Nat.lt_of_lt_of_le (by have := World.block_lt_of_cell? _ _ hw295_0; first | rwa [add_block] at this | exact this) GW303.out)) | (dsimp only; exact Nat.ne_of_lt (Nat.lt_of_lt_of_le (by have := World.block_lt_of_cell? _ _ hw295_0; first | rwa [add_block] at this | exact this) GW303.out))) _).trans (((cell_far (p := ⟨gb303, _, none⟩) (by first | exact Nat.ne_of_lt (Nat.lt_of_lt_of_le (by have := World.block_lt_of_cell? _ _ hw295_0; first | rwa [add_block] at this | exact this) GW303.out) | (rw [add_block]; exact Nat.ne_of_lt (Nat.lt_of_lt_of_le (by have := World.block_lt_of_cell? _ _ hw295_0; first | rwa [add_block] at this | exact this) GW303.out)) | (show (Addr.add _ _).block ≠ _; rw [add_block]; exact Nat.ne_of_lt (Nat.lt_of_lt_of_le (by have := World.block_lt_of_cell? _ _ hw295_0; first | rwa [add_block] at this | exact this) GW303.out)) | (dsimp only; exact Nat.ne_of_lt (Nat.lt_of_lt_of_le (by have := World.block_lt_of_cell? _ _ hw295_0; first | rwa [add_block] at this | exact this) GW303.out))) _).trans (((cell_far (p := ⟨gb303, _, none⟩) (by first | exact Nat.ne_of_lt (Nat.lt_of_lt_of_le (by have := World.block_lt_of_cell? _ _ hw295_0; first | rwa [add_block] at this | exact this) GW303.out) | (rw [add_block]; exact Nat.ne_of_lt (Nat.lt_of_lt_of_le (by have := World.block_lt_of_cell? _ _ hw295_0; first | rwa [add_block] at this | exact this) GW303.out)) | (show (Addr.add _ _).block ≠ _; rw [add_block]; exact Nat.ne_of_lt (Nat.lt_of_lt_of_le (by have := World.block_lt_of_cell? _ _ hw295_0; first | rwa [add_block] at this | exact this) GW303.out)) | (dsimp only; exact Nat.ne_of_lt (Nat.lt_of_lt_of_le (by have := World.block_lt_of_cell? _ _ hw295_0; first | rwa [add_block] at this | exact this) GW303.out))) _).trans (hHeld))))))))) (fun hHeld => ?_)
                                  clear hK K
                                  refine done_ (done_of HT_.out (by kernel_rfl)) ?_
                                  go_upto_if 119 with (fail)
                                  go_cut [] (fun wc => ∃ (kq : Nat) (x304001_45 : Int), Aside0 (cutroomref16_Take.j2 kq l0 (wrap64 (rd l0 8)) (Go.bits .or .i64 (wrap64 ((wrap64 (rd l0 4)) * 256)) (wrap64 (rd l0 5))) (wrap64 (rd l0 3)) x304001_45 (-1) y300 = some (r1, r2, r3, r4, r5, r6)) ∧ Aside0 (kq ≤ kj23) ∧ Aside0 (Kd.R (Kd.int .u8) 5 wc w.heap.size (fun _ => True) (.slice Ao55 y300.length co55) y300) ∧ Aside0 (wc.heap[gb278]? = some (.cells #[.int .i64 0, .int .i64 0, .int .i64 0, (.slice none 0 0)] 29 (0, 0))) ∧ Aside0 (wc.heap[gb303]? = some (.cells #[.int .i64 (wrap64 (rd l0 3)), .int .i64 x304001_45, .int .i64 (-1), (.slice Ao55 y300.length co55)] 29 (0, 0))) ∧ Aside0 (Below w.heap.size w wc))
                                  case first =>
                                    have H := HC46.out
                                    clear HC46
                                    by_cases c60 : (wrap64 (rd l0 8)) ≥ 5
                                    · rw [if_pos c60] at H
                                      have c60b0 : decide (5 ≤ (wrap64 (rd l0 8))) = true := decide_eq_true c60
                                      clear c60
                                      (first | rw [c60b0] | (simp only [i64_w, i32_w]; rw [c60b0]) | skip)
                                      by_cases c61 : 9 ≤ 14
                                      · rw [if_pos c61] at H
                                        have c61b0 := eq_true c61
                                        have c61b1 : decide (9 ≤ 14) = true := decide_eq_true c61
                                        clear c61
                                        by_cases c62 : 14 ≤ (l0.length : Int)
                                        · rw [if_pos c62] at H
                                          have c62b0 := eq_true c62
                                          have c62b1 : decide (14 ≤ (l0.length : Int)) = true := decide_eq_true c62
                                          clear c62
                                          replace H := Option.bind_eq_some_iff.mp H
                                          obtain ⟨t305, A630, H⟩ := H
                                          replace H : (cutroomref16_Take.j2 kj23 l0 (wrap64 (rd l0 8)) (Go.bits .or .i64 (wrap64 ((wrap64 (rd l0 4)) * 256)) (wrap64 (rd l0 5))) (wrap64 (rd l0 3)) t305 (-1) y300) = some (r1, r2, r3, r4, r5, r6) := H
                                          have A63 := Aside0.mk A630
                                          clear A630
                                          have H' := Aside0.mk H
                                          clear H
                                          obtain ⟨i064, hi064, _, hsz64, _⟩ := info_parts info5
                                          obtain ⟨A64, hcut64, hA64, hC64⟩ := print_mid_of (P := Try.prog) (Value.int .u8) 0 27 5 .i64 .i64 Try.underlying27 hi064 hsz64 (some ad279) c0 l0 9 14 (by omega) (by first | omega | exact of_decide_eq_true (by first | (with_reducible assumption) | assumption)) (of_decide_eq_true (by first | (with_reducible assumption) | assumption)) HC0.out
                                          have HR304 := Aside0.mk (Kd.C_of_reads (h1 := fun _ => rfl) (hA64 _ (Kd.reads_of_C HR0.out)))
                                          have HC304 := Aside0.mk hC64
                                          clear hA64 hC64 hi064 hsz64
                                          go_wp2_with (first | ((with_reducible refine gate_callee (f := 38) rfl ?_); refine goesL_ (some 122) rfl rfl Try.func38 (by kernel_rfl) rfl #[.slice A64 ((l0.take 14).drop 9).length (c0 - 9)] rfl (by (try simp only [List.map_toArray, List.map_cons, List.map_nil]); first | done | (rw [show ((l0.take 14).drop 9).length = (14 - 9) from (by rw [List.length_drop, List.length_take]; have h_ : (14 : Int) ≤ (l0.length : Int) := of_decide_eq_true (by first | (with_reducible assumption) | assumption); omega)] <;> rfl) | rfl | (simp only [List.length_drop, List.length_take]; rfl)) ?_; (with_reducible refine (cutroomref16_taken.calls _ _ ((l0.take 14).drop 9) t305 _ ?side1 ?side2 A63.out).mono ?_); (case side1 => exact Kd.C_below HR304.out (by repeat (first | (with_reducible first | exact HB.out | apply below_alloc | apply pw_below_drewN | apply below_drew1 | refine below_set ?_ GE278.out | refine below_set ?_ GE303.out) | exact HB.out))); (case side2 => exact HC304.out); rintro e w' ⟨rfl, ⟨nd, rfl⟩⟩; refine ⟨_, rfl, ?_⟩; have hnb65 := NB303_278.out; have hnc65 := NB278_303.out; have hcz66_0 : w54.cell? ⟨gb303, 0, none⟩ = some (.int .i64 0) := (blk_cell BK303.out 0).trans rfl; have hcz66_1 : w54.cell? ⟨gb303, 1, none⟩ = some (.int .i64 0) := (blk_cell BK303.out 1).trans rfl; have hcz66_2 : w54.cell? ⟨gb303, 2, none⟩ = some (.int .i64 0) := (blk_cell BK303.out 2).trans rfl; have hcz66_3 : w54.cell? ⟨gb303, 3, none⟩ = some (.slice none 0 0) := (blk_cell BK303.out 3).trans rfl; have hfz66_0 := blk_frozen BK303.out 0; have hfz66_1 := blk_frozen BK303.out 1; have hfz66_2 := blk_frozen BK303.out 2; have hfz66_3 := blk_frozen BK303.out 3))
                                          go_meet
                                          case rel => exact ⟨_, (t305), H', ⟨by have := HJ7.out; have := HJ23.out; first | omega | exact Nat.le_refl _⟩, ⟨by (with_reducible repeat (first | apply Kd.R_alloc | apply Kd.R_drewN | apply Kd.R_drew)); exact Kd.R_mono (Kd.R_far (p := ⟨gb303, 1, none⟩) (Kd.R_far (p := ⟨gb303, 3, none⟩) (Kd.R_far (p := ⟨gb303, 2, none⟩) (Kd.R_far (p := ⟨gb303, 1, none⟩) (Kd.R_far (p := ⟨gb303, 0, none⟩) (Kd.R_types HO302.out BK303.out (by decide)) (fun _ hk => hk.2) (.int .i64 (wrap64 (rd l0 3)))) (fun _ hk => hk.2) (.int .i64 (-1))) (fun _ hk => hk.2) (.int .i64 (-1))) (fun _ hk => hk.2) (.slice Ao55 y300.length co55)) (fun _ hk => hk.2) (.int .i64 t305)) (fun _ hk => trivial)⟩, ⟨by (with_reducible repeat (first | refine blk_drewN ?_ _ | refine blk_drew ?_ | refine blk_alloc ?_ _)); refine blk_far ?_ NB278_303.out _; (with_reducible repeat (first | refine blk_drewN ?_ _ | refine blk_drew ?_ | refine blk_alloc ?_ _)); refine blk_far ?_ NB278_303.out _; (with_reducible repeat (first | refine blk_drewN ?_ _ | refine blk_drew ?_ | refine blk_alloc ?_ _)); refine blk_far ?_ NB278_303.out _; (with_reducible repeat (first | refine blk_drewN ?_ _ | refine blk_drew ?_ | refine blk_alloc ?_ _)); refine blk_far ?_ NB278_303.out _; (with_reducible repeat (first | refine blk_drewN ?_ _ | refine blk_drew ?_ | refine blk_alloc ?_ _)); refine blk_far ?_ NB278_303.out _; (with_reducible repeat (first | refine blk_drewN ?_ _ | refine blk_drew ?_ | refine blk_alloc ?_ _)); exact BK278.out⟩, ⟨by (with_reducible repeat (first | refine blk_drewN ?_ _ | refine blk_drew ?_ | refine blk_alloc ?_ _)); refine blk_put (cs := #[.int .i64 (wrap64 (rd l0 3)), .int .i64 (-1), .int .i64 (-1), .slice Ao55 y300.length co55]) ?_ 1 _ rfl; (with_reducible repeat (first | refine blk_drewN ?_ _ | refine blk_drew ?_ | refine blk_alloc ?_ _)); refine blk_put (cs := #[.int .i64 (wrap64 (rd l0 3)), .int .i64 (-1), .int .i64 (-1), .slice none 0 0]) ?_ 3 _ rfl; (with_reducible repeat (first | refine blk_drewN ?_ _ | refine blk_drew ?_ | refine blk_alloc ?_ _)); refine blk_put (cs := #[.int .i64 (wrap64 (rd l0 3)), .int .i64 (-1), .int .i64 0, .slice none 0 0]) ?_ 2 _ rfl; (with_reducible repeat (first | refine blk_drewN ?_ _ | refine blk_drew ?_ | refine blk_alloc ?_ _)); refine blk_put (cs := #[.int .i64 (wrap64 (rd l0 3)), .int .i64 0, .int .i64 0, .slice none 0 0]) ?_ 1 _ rfl; (with_reducible repeat (first | refine blk_drewN ?_ _ | refine blk_drew ?_ | refine blk_alloc ?_ _)); refine blk_put (cs := #[.int .i64 0, .int .i64 0, .int .i64 0, .slice none 0 0]) ?_ 0 _ rfl; (with_reducible repeat (first | refine blk_drewN ?_ _ | refine blk_drew ?_ | refine blk_alloc ?_ _)); exact BK303.out⟩, ⟨by repeat (first | (with_reducible first | exact HB.out | apply below_alloc | apply pw_below_drewN | apply below_drew1 | refine below_set ?_ GE278.out | refine below_set ?_ GE303.out) | exact HB.out)⟩⟩
                                        · rw [if_neg c62] at H
                                          exact absurd H (by simp)
                                      · rw [if_neg c61] at H
                                        exact absurd H (by simp)
                                    · rw [if_neg c60] at H
                                      have c60b0 : decide (5 ≤ (wrap64 (rd l0 8))) = false := decide_eq_false c60
                                      clear c60
                                      (first | rw [c60b0] | (simp only [i64_w, i32_w]; rw [c60b0]) | skip)
                                      have H' := Aside0.mk H
                                      clear H
                                      go_wp2
                                      go_meet
                                      case rel => exact ⟨_, ((-1)), H', ⟨by have := HJ7.out; have := HJ23.out; first | omega | exact Nat.le_refl _⟩, ⟨by (with_reducible repeat (first | apply Kd.R_alloc | apply Kd.R_drewN | apply Kd.R_drew)); exact Kd.R_mono (Kd.R_far (p := ⟨gb303, 3, none⟩) (Kd.R_far (p := ⟨gb303, 2, none⟩) (Kd.R_far (p := ⟨gb303, 1, none⟩) (Kd.R_far (p := ⟨gb303, 0, none⟩) (Kd.R_types HO302.out BK303.out (by decide)) (fun _ hk => hk.2) (.int .i64 (wrap64 (rd l0 3)))) (fun _ hk => hk.2) (.int .i64 (-1))) (fun _ hk => hk.2) (.int .i64 (-1))) (fun _ hk => hk.2) (.slice Ao55 y300.length co55)) (fun _ hk => trivial)⟩, ⟨by (with_reducible repeat (first | refine blk_drewN ?_ _ | refine blk_drew ?_ | refine blk_alloc ?_ _)); refine blk_far ?_ NB278_303.out _; (with_reducible repeat (first | refine blk_drewN ?_ _ | refine blk_drew ?_ | refine blk_alloc ?_ _)); refine blk_far ?_ NB278_303.out _; (with_reducible repeat (first | refine blk_drewN ?_ _ | refine blk_drew ?_ | refine blk_alloc ?_ _)); refine blk_far ?_ NB278_303.out _; (with_reducible repeat (first | refine blk_drewN ?_ _ | refine blk_drew ?_ | refine blk_alloc ?_ _)); refine blk_far ?_ NB278_303.out _; (with_reducible repeat (first | refine blk_drewN ?_ _ | refine blk_drew ?_ | refine blk_alloc ?_ _)); exact BK278.out⟩, ⟨by (with_reducible repeat (first | refine blk_drewN ?_ _ | refine blk_drew ?_ | refine blk_alloc ?_ _)); refine blk_put (cs := #[.int .i64 (wrap64 (rd l0 3)), .int .i64 (-1), .int .i64 (-1), .slice none 0 0]) ?_ 3 _ rfl; (with_reducible repeat (first | refine blk_drewN ?_ _ | refine blk_drew ?_ | refine blk_alloc ?_ _)); refine blk_put (cs := #[.int .i64 (wrap64 (rd l0 3)), .int .i64 (-1), .int .i64 0, .slice none 0 0]) ?_ 2 _ rfl; (with_reducible repeat (first | refine blk_drewN ?_ _ | refine blk_drew ?_ | refine blk_alloc ?_ _)); refine blk_put (cs := #[.int .i64 (wrap64 (rd l0 3)), .int .i64 0, .int .i64 0, .slice none 0 0]) ?_ 1 _ rfl; (with_reducible repeat (first | refine blk_drewN ?_ _ | refine blk_drew ?_ | refine blk_alloc ?_ _)); refine blk_put (cs := #[.int .i64 0, .int .i64 0, .int .i64 0, .slice none 0 0]) ?_ 0 _ rfl; (with_reducible repeat (first | refine blk_drewN ?_ _ | refine blk_drew ?_ | refine blk_alloc ?_ _)); exact BK303.out⟩, ⟨by repeat (first | (with_reducible first | exact HB.out | apply below_alloc | apply pw_below_drewN | apply below_drew1 | refine below_set ?_ GE278.out | refine below_set ?_ GE303.out) | exact HB.out)⟩⟩
                                  case rest =>
                                    clear HC46
                                    try clear p2
                                    try clear q2
                                    try clear hx2
                                    try clear qi2
                                    try clear c3
                                    try clear c4
                                    try clear c6
                                    try clear p6
                                    try clear p27
                                    try clear q27
                                    try clear p28
                                    try clear q28
                                    try clear p29
                                    try clear q29
                                    try clear hx29
                                    try clear qi29
                                    try clear c36
                                    try clear c38
                                    try clear c38b0
                                    try clear c40
                                    try clear c40b0
                                    try clear c40b1
                                    try clear c42
                                    try clear c42b0
                                    try clear c42b1
                                    try clear c43
                                    try clear c43b0
                                    try clear c43b1
                                    try clear c44
                                    try clear c44b0
                                    try clear c44b1
                                    try clear c45
                                    try clear c60
                                    try clear c60b0
                                    try clear c61
                                    try clear c61b0
                                    try clear c61b1
                                    try clear c62
                                    try clear c62b0
                                    try clear c62b1
                                    try clear p64
                                    try clear c65
                                    try clear hcz37_0
                                    try clear hcz37_1
                                    try clear hcz37_2
                                    try clear hcz37_3
                                    try clear hcz39_0
                                    try clear hcz39_1
                                    try clear hcz39_2
                                    try clear hcz39_3
                                    try clear hcz66_0
                                    try clear hcz66_1
                                    try clear hcz66_2
                                    try clear hcz66_3
                                    try clear hfz37_0
                                    try clear hfz37_1
                                    try clear hfz37_2
                                    try clear hfz37_3
                                    try clear hfz39_0
                                    try clear hfz39_1
                                    try clear hfz39_2
                                    try clear hfz39_3
                                    try clear hfz66_0
                                    try clear hfz66_1
                                    try clear hfz66_2
                                    try clear hfz66_3
                                    try clear hx293_0
                                    try clear hx294_0
                                    try clear hx295_0
                                    try clear p2
                                    try clear p279
                                    try clear p280
                                    try clear p281
                                    try clear p282
                                    try clear p283
                                    try clear p284
                                    try clear p285
                                    try clear p286
                                    try clear p287
                                    try clear p288
                                    try clear p289
                                    try clear p290
                                    try clear p291
                                    try clear p292
                                    try clear p293
                                    try clear p294
                                    try clear p295
                                    try clear p6
                                    try clear q2
                                    try clear q279
                                    try clear q280
                                    try clear q281
                                    try clear q282
                                    try clear q283
                                    try clear q284
                                    try clear q285
                                    try clear q286
                                    try clear q287
                                    try clear q288
                                    try clear q289
                                    try clear q290
                                    try clear q291
                                    try clear q292
                                    try clear q293
                                    try clear q294
                                    try clear q295
                                    obtain ⟨kq, x304001_45, HA, HJ45, HO_304003, BK278, BK303, HB⟩ := hcut
                                    cases kq with
                                    | zero => exact absurd HA.out (by simp [cutroomref16_Take.j2])
                                    | succ kj45 =>
                                      have H := HA.out
                                      clear HA
                                      simp only [cutroomref16_Take.j2] at H
                                      have HC67 := Aside0.mk H
                                      clear H
                                      go_upto_if 125 with (fail)
                                      go_cut [] (fun wc => ∃ (kq : Nat) (x304002_66 : Int), Aside0 (cutroomref16_Take.j3 kq l0 (Go.bits .or .i64 (wrap64 ((wrap64 (rd l0 4)) * 256)) (wrap64 (rd l0 5))) (wrap64 (rd l0 3)) x304001_45 x304002_66 y300 = some (r1, r2, r3, r4, r5, r6)) ∧ Aside0 (kq ≤ kj45) ∧ Aside0 (Kd.R (Kd.int .u8) 5 wc w.heap.size (fun _ => True) (.slice Ao55 y300.length co55) y300) ∧ Aside0 (wc.heap[gb278]? = some (.cells #[.int .i64 0, .int .i64 0, .int .i64 0, (.slice none 0 0)] 29 (0, 0))) ∧ Aside0 (wc.heap[gb303]? = some (.cells #[.int .i64 (wrap64 (rd l0 3)), .int .i64 x304001_45, .int .i64 x304002_66, (.slice Ao55 y300.length co55)] 29 (0, 0))) ∧ Aside0 (Below w.heap.size w wc))
                                      case first =>
                                        have H := HC67.out
                                        clear HC67
                                        by_cases c68 : (wrap64 (rd l0 8)) = 10
                                        · rw [if_pos c68] at H
                                          have c68b0 : ((wrap64 (rd l0 8)) == 10) = true := beq_iff_eq.mpr c68
                                          have c68b1 : ((wrap64 (rd l0 8)) != 10) = false := bne_eq_false_iff_eq.mpr c68
                                          clear c68
                                          (first | rw [c68b0] | (simp only [i64_w, i32_w]; rw [c68b0]) | skip)
                                          by_cases c69 : 14 ≤ 19
                                          · rw [if_pos c69] at H
                                            have c69b0 := eq_true c69
                                            have c69b1 : decide (14 ≤ 19) = true := decide_eq_true c69
                                            clear c69
                                            by_cases c70 : 19 ≤ (l0.length : Int)
                                            · rw [if_pos c70] at H
                                              have c70b0 := eq_true c70
                                              have c70b1 : decide (19 ≤ (l0.length : Int)) = true := decide_eq_true c70
                                              clear c70
                                              replace H := Option.bind_eq_some_iff.mp H
                                              obtain ⟨t307, A710, H⟩ := H
                                              replace H : (cutroomref16_Take.j3 kj45 l0 (Go.bits .or .i64 (wrap64 ((wrap64 (rd l0 4)) * 256)) (wrap64 (rd l0 5))) (wrap64 (rd l0 3)) x304001_45 t307 y300) = some (r1, r2, r3, r4, r5, r6) := H
                                              have A71 := Aside0.mk A710
                                              clear A710
                                              have H' := Aside0.mk H
                                              clear H
                                              obtain ⟨i072, hi072, _, hsz72, _⟩ := info_parts info5
                                              obtain ⟨A72, hcut72, hA72, hC72⟩ := print_mid_of (P := Try.prog) (Value.int .u8) 0 27 5 .i64 .i64 Try.underlying27 hi072 hsz72 (some ad279) c0 l0 14 19 (by omega) (by first | omega | exact of_decide_eq_true (by first | (with_reducible assumption) | assumption)) (of_decide_eq_true (by first | (with_reducible assumption) | assumption)) HC0.out
                                              have HR306 := Aside0.mk (Kd.C_of_reads (h1 := fun _ => rfl) (hA72 _ (Kd.reads_of_C HR0.out)))
                                              have HC306 := Aside0.mk hC72
                                              clear hA72 hC72 hi072 hsz72
                                              go_wp2_with (first | ((with_reducible refine gate_callee (f := 38) rfl ?_); refine goesL_ (some 128) rfl rfl Try.func38 (by kernel_rfl) rfl #[.slice A72 ((l0.take 19).drop 14).length (c0 - 14)] rfl (by (try simp only [List.map_toArray, List.map_cons, List.map_nil]); first | done | (rw [show ((l0.take 19).drop 14).length = (19 - 14) from (by rw [List.length_drop, List.length_take]; have h_ : (19 : Int) ≤ (l0.length : Int) := of_decide_eq_true (by first | (with_reducible assumption) | assumption); omega)] <;> rfl) | rfl | (simp only [List.length_drop, List.length_take]; rfl)) ?_; (with_reducible refine (cutroomref16_taken.calls _ _ ((l0.take 19).drop 14) t307 _ ?side1 ?side2 A71.out).mono ?_); (case side1 => repeat (first | exact (Kd.C_below HR306.out HB.out) | (with_reducible refine Kd.C_alloc ?_ _) | (with_reducible refine Kd.C_drewN ?_ _) | (with_reducible refine Kd.C_drew ?_))); (case side2 => exact HC306.out); rintro e w' ⟨rfl, ⟨nd, rfl⟩⟩; refine ⟨_, rfl, ?_⟩; (try (rw [drewN_self wc]; generalize hq_ : World.drewN wc _ = wc; have n0_ : Aside0 (Kd.R (Kd.int .u8) 5 wc w.heap.size (fun _ => True) (.slice Ao55 y300.length co55) y300) := ⟨by rw [← hq_]; exact (by (with_reducible repeat (first | apply Kd.R_alloc | apply Kd.R_drewN | apply Kd.R_drew)); exact HO_304003.out)⟩; have n1_ : Aside0 (wc.heap[gb278]? = some (.cells #[.int .i64 0, .int .i64 0, .int .i64 0, .slice none 0 0] 29 (0, 0))) := ⟨by rw [← hq_]; exact (by (with_reducible repeat (first | refine blk_drewN ?_ _ | refine blk_drew ?_ | refine blk_alloc ?_ _)); exact BK278.out)⟩; have n2_ : Aside0 (wc.heap[gb303]? = some (.cells #[.int .i64 (wrap64 (rd l0 3)), .int .i64 x304001_45, .int .i64 (-1), .slice Ao55 y300.length co55] 29 (0, 0))) := ⟨by rw [← hq_]; exact (by (with_reducible repeat (first | refine blk_drewN ?_ _ | refine blk_drew ?_ | refine blk_alloc ?_ _)); exact BK303.out)⟩; have n3_ : Aside0 (Below w.heap.size w wc) := ⟨by rw [← hq_]; exact (by repeat (first | (with_reducible first | exact HB.out | apply below_alloc | apply pw_below_drewN | apply below_drew1 | refine below_set ?_ GE278.out | refine below_set ?_ GE303.out) | exact HB.out))⟩; clear HO_304003 BK278 BK303 HB hq_; have HO_304003 := n0_; have BK278 := n1_; have BK303 := n2_; have HB := n3_; clear n0_ n1_ n2_ n3_)); have hnb73 := NB303_278.out; have hnc73 := NB278_303.out; have hcz74_0 : wc.cell? ⟨gb303, 0, none⟩ = some (.int .i64 (wrap64 (rd l0 3))) := (blk_cell BK303.out 0).trans rfl; have hcz74_1 : wc.cell? ⟨gb303, 1, none⟩ = some (.int .i64 x304001_45) := (blk_cell BK303.out 1).trans rfl; have hcz74_2 : wc.cell? ⟨gb303, 2, none⟩ = some (.int .i64 (-1)) := (blk_cell BK303.out 2).trans rfl; have hcz74_3 : wc.cell? ⟨gb303, 3, none⟩ = some (.slice Ao55 y300.length co55) := (blk_cell BK303.out 3).trans rfl; have hfz74_0 := blk_frozen BK303.out 0; have hfz74_1 := blk_frozen BK303.out 1; have hfz74_2 := blk_frozen BK303.out 2; have hfz74_3 := blk_frozen BK303.out 3))
                                              go_meet
                                              case rel => exact ⟨_, (t307), H', ⟨by have := HJ7.out; have := HJ23.out; have := HJ45.out; first | omega | exact Nat.le_refl _⟩, ⟨by (with_reducible repeat (first | apply Kd.R_alloc | apply Kd.R_drewN | apply Kd.R_drew)); exact Kd.R_mono (Kd.R_far (p := ⟨gb303, 2, none⟩) (Kd.R_types HO_304003.out BK303.out (by decide)) (fun _ hk => hk.2) (.int .i64 t307)) (fun _ hk => trivial)⟩, ⟨by (with_reducible repeat (first | refine blk_drewN ?_ _ | refine blk_drew ?_ | refine blk_alloc ?_ _)); refine blk_far ?_ NB278_303.out _; (with_reducible repeat (first | refine blk_drewN ?_ _ | refine blk_drew ?_ | refine blk_alloc ?_ _)); exact BK278.out⟩, ⟨by (with_reducible repeat (first | refine blk_drewN ?_ _ | refine blk_drew ?_ | refine blk_alloc ?_ _)); refine blk_put (cs := #[.int .i64 (wrap64 (rd l0 3)), .int .i64 x304001_45, .int .i64 (-1), .slice Ao55 y300.length co55]) ?_ 2 _ rfl; (with_reducible repeat (first | refine blk_drewN ?_ _ | refine blk_drew ?_ | refine blk_alloc ?_ _)); exact BK303.out⟩, ⟨by repeat (first | (with_reducible first | exact HB.out | apply below_alloc | apply pw_below_drewN | apply below_drew1 | refine below_set ?_ GE278.out | refine below_set ?_ GE303.out) | exact HB.out)⟩⟩
                                            · rw [if_neg c70] at H
                                              exact absurd H (by simp)
                                          · rw [if_neg c69] at H
                                            exact absurd H (by simp)
                                        · rw [if_neg c68] at H
                                          have c68b0 : ((wrap64 (rd l0 8)) == 10) = false := beq_eq_false_iff_ne.mpr c68
                                          have c68b1 : ((wrap64 (rd l0 8)) != 10) = true := bne_iff_ne.mpr c68
                                          (first | rw [c68b0] | (simp only [i64_w, i32_w]; rw [c68b0]) | skip)
                                          have H' := Aside0.mk H
                                          clear H
                                          go_wp2
                                          go_meet
                                          case rel => exact ⟨_, ((-1)), H', ⟨by have := HJ7.out; have := HJ23.out; have := HJ45.out; first | omega | exact Nat.le_refl _⟩, ⟨by (with_reducible repeat (first | apply Kd.R_alloc | apply Kd.R_drewN | apply Kd.R_drew)); exact HO_304003.out⟩, ⟨by (with_reducible repeat (first | refine blk_drewN ?_ _ | refine blk_drew ?_ | refine blk_alloc ?_ _)); exact BK278.out⟩, ⟨by (with_reducible repeat (first | refine blk_drewN ?_ _ | refine blk_drew ?_ | refine blk_alloc ?_ _)); exact BK303.out⟩, ⟨by repeat (first | (with_reducible first | exact HB.out | apply below_alloc | apply pw_below_drewN | apply below_drew1 | refine below_set ?_ GE278.out | refine below_set ?_ GE303.out) | exact HB.out)⟩⟩
                                      case rest =>
                                        clear HC67
                                        try clear p2
                                        try clear q2
                                        try clear hx2
                                        try clear qi2
                                        try clear c3
                                        try clear c4
                                        try clear c6
                                        try clear p6
                                        try clear c7
                                        try clear p27
                                        try clear q27
                                        try clear p28
                                        try clear q28
                                        try clear p29
                                        try clear q29
                                        try clear hx29
                                        try clear qi29
                                        try clear c36
                                        try clear c38
                                        try clear c38b0
                                        try clear c40
                                        try clear c40b0
                                        try clear c40b1
                                        try clear c42
                                        try clear c42b0
                                        try clear c42b1
                                        try clear c43
                                        try clear c43b0
                                        try clear c43b1
                                        try clear c44
                                        try clear c44b0
                                        try clear c44b1
                                        try clear c45
                                        try clear c60
                                        try clear c60b0
                                        try clear c61
                                        try clear c61b0
                                        try clear c61b1
                                        try clear c62
                                        try clear c62b0
                                        try clear c62b1
                                        try clear p64
                                        try clear c65
                                        try clear c68
                                        try clear c68b0
                                        try clear c68b1
                                        try clear c69
                                        try clear c69b0
                                        try clear c69b1
                                        try clear c70
                                        try clear c70b0
                                        try clear c70b1
                                        try clear c73
                                        try clear hcz37_0
                                        try clear hcz37_1
                                        try clear hcz37_2
                                        try clear hcz37_3
                                        try clear hcz39_0
                                        try clear hcz39_1
                                        try clear hcz39_2
                                        try clear hcz39_3
                                        try clear hcz66_0
                                        try clear hcz66_1
                                        try clear hcz66_2
                                        try clear hcz66_3
                                        try clear hcz74_0
                                        try clear hcz74_1
                                        try clear hcz74_2
                                        try clear hcz74_3
                                        try clear hfz37_0
                                        try clear hfz37_1
                                        try clear hfz37_2
                                        try clear hfz37_3
                                        try clear hfz39_0
                                        try clear hfz39_1
                                        try clear hfz39_2
                                        try clear hfz39_3
                                        try clear hfz66_0
                                        try clear hfz66_1
                                        try clear hfz66_2
                                        try clear hfz66_3
                                        try clear hfz74_0
                                        try clear hfz74_1
                                        try clear hfz74_2
                                        try clear hfz74_3
                                        try clear hx293_0
                                        try clear hx294_0
                                        try clear hx295_0
                                        try clear p2
                                        try clear p27
                                        try clear p279
                                        try clear p28
                                        try clear p280
                                        try clear p281
                                        try clear p282
                                        try clear p283
                                        try clear p284
                                        try clear p285
                                        try clear p286
                                        try clear p287
                                        try clear p288
                                        try clear p289
                                        try clear p29
                                        try clear p290
                                        try clear p291
                                        try clear p292
                                        try clear p293
                                        try clear p294
                                        try clear p295
                                        try clear p6
                                        try clear p64
                                        try clear q2
                                        try clear q27
                                        try clear q279
                                        try clear q28
                                        try clear q280
                                        try clear q281
                                        try clear q282
                                        try clear q283
                                        try clear q284
                                        try clear q285
                                        try clear q286
                                        try clear q287
                                        try clear q288
                                        try clear q289
                                        try clear q29
                                        try clear q290
                                        try clear q291
                                        try clear q292
                                        try clear q293
                                        try clear q294
                                        try clear q295
                                        obtain ⟨kq, x304002_66, HA, HJ66, HO_304003, BK278, BK303, HB⟩ := hcut
                                        cases kq with
                                        | zero => exact absurd HA.out (by simp [cutroomref16_Take.j3])
                                        | succ kj66 =>
                                          have H := HA.out
                                          clear HA
                                          simp only [cutroomref16_Take.j3] at H
                                          replace H := Option.bind_eq_some_iff.mp H
                                          obtain ⟨⟨t308, t311⟩, A750, H⟩ := H
                                          replace H : (if t311 = 0 then (if 0 ≤ (wrap64 (6 + (Go.bits .or .i64 (wrap64 ((wrap64 (rd l0 4)) * 256)) (wrap64 (rd l0 5))))) then (if (wrap64 (6 + (Go.bits .or .i64 (wrap64 ((wrap64 (rd l0 4)) * 256)) (wrap64 (rd l0 5))))) ≤ (l0.length : Int) then ((cutroomref02_SameBytes.f t308 (l0.take ((wrap64 (6 + (Go.bits .or .i64 (wrap64 ((wrap64 (rd l0 4)) * 256)) (wrap64 (rd l0 5))))) : Int).toNat)).bind fun t313 => (if t313 = true then (some ((wrap64 (rd l0 3)), x304001_45, x304002_66, y300, wrap64 (6 + (Go.bits .or .i64 (wrap64 ((wrap64 (rd l0 4)) * 256)) (wrap64 (rd l0 5)))), 0)) else (some (0, 0, 0, ([] : List Int), 0, 3)))) else (none)) else (none)) else (some (0, 0, 0, ([] : List Int), 0, 3))) = some (r1, r2, r3, r4, r5, r6) := H
                                          have A75 := Aside0.mk A750
                                          clear A750
                                          by_cases c76 : t311 = 0
                                          · rw [if_pos c76] at H
                                            have c76b0 : (t311 == 0) = true := beq_iff_eq.mpr c76
                                            have c76b1 : (t311 != 0) = false := bne_eq_false_iff_eq.mpr c76
                                            clear c76
                                            obtain ⟨ji77, hji77⟩ : ∃ j_ : Int, (wrap64 (6 + (Go.bits .or .i64 (wrap64 ((wrap64 (rd l0 4)) * 256)) (wrap64 (rd l0 5))))) = j_ := ⟨_, rfl⟩
                                            replace H : (if 0 ≤ (ji77) then (if (ji77) ≤ (l0.length : Int) then ((cutroomref02_SameBytes.f t308 (l0.take ((ji77) : Int).toNat)).bind fun t313 => (if t313 = true then (some ((wrap64 (rd l0 3)), x304001_45, x304002_66, y300, ji77, 0)) else (some (0, 0, 0, ([] : List Int), 0, 3)))) else (none)) else (none)) = some (r1, r2, r3, r4, r5, r6) := by first | (rw [hji77] at H; exact H) | (simp only [hji77] at H ⊢; exact H)
                                            (try rw [hji77] at c38b0)
                                            (try rw [hji77] at c43b0)
                                            (try rw [hji77] at c43b1)
                                            (try rw [hji77] at c43)
                                            (try rw [hji77] at c44b0)
                                            (try rw [hji77] at c44b1)
                                            (try rw [hji77] at c44)
                                            (try rw [hji77] at A75)
                                            have hji77w : (IntKind.i64.wrap (6 + (Go.bits .or .i64 (wrap64 ((wrap64 (rd l0 4)) * 256)) (wrap64 (rd l0 5))))) = ji77 := (i64_w _).trans hji77
                                            by_cases c78 : 0 ≤ (ji77)
                                            · rw [if_pos c78] at H
                                              have c78b0 := eq_true c78
                                              have c78b1 : decide (0 ≤ (ji77)) = true := decide_eq_true c78
                                              clear c78
                                              by_cases c79 : (ji77) ≤ (l0.length : Int)
                                              · rw [if_pos c79] at H
                                                have c79b0 := eq_true c79
                                                have c79b1 : decide ((ji77) ≤ (l0.length : Int)) = true := decide_eq_true c79
                                                clear c79
                                                replace H := Option.bind_eq_some_iff.mp H
                                                obtain ⟨t313, A800, H⟩ := H
                                                replace H : (if t313 = true then (some ((wrap64 (rd l0 3)), x304001_45, x304002_66, y300, ji77, 0)) else (some (0, 0, 0, ([] : List Int), 0, 3))) = some (r1, r2, r3, r4, r5, r6) := H
                                                have A80 := Aside0.mk A800
                                                clear A800
                                                by_cases c81 : t313 = true
                                                · subst c81
                                                  have H1 : (some ((wrap64 (rd l0 3)), x304001_45, x304002_66, y300, ji77, 0)) = some (r1, r2, r3, r4, r5, r6) := by rw [if_pos rfl] at H; exact H
                                                  clear H
                                                  have H := H1
                                                  clear H1
                                                  simp only [Option.some.injEq, Prod.mk.injEq] at H
                                                  obtain ⟨rfl, rfl, rfl, rfl, rfl, rfl⟩ := H
                                                  have hnb82 := NB303_278.out
                                                  have hnc82 := NB278_303.out
                                                  have hcz83_0 : wc.cell? ⟨gb303, 0, none⟩ = some (.int .i64 (wrap64 (rd l0 3))) := (blk_cell BK303.out 0).trans rfl
                                                  have hcz83_1 : wc.cell? ⟨gb303, 1, none⟩ = some (.int .i64 x304001_45) := (blk_cell BK303.out 1).trans rfl
                                                  have hcz83_2 : wc.cell? ⟨gb303, 2, none⟩ = some (.int .i64 x304002_66) := (blk_cell BK303.out 2).trans rfl
                                                  have hcz83_3 : wc.cell? ⟨gb303, 3, none⟩ = some (.slice Ao55 y300.length co55) := (blk_cell BK303.out 3).trans rfl
                                                  have hfz83_0 := blk_frozen BK303.out 0
                                                  have hfz83_1 := blk_frozen BK303.out 1
                                                  have hfz83_2 := blk_frozen BK303.out 2
                                                  have hfz83_3 := blk_frozen BK303.out 3
                                                  go_wp2_with (first | ((with_reducible refine gate_callee (f := 21) rfl ?_); refine goesL_ (some 132) rfl rfl Try.func21 (by kernel_rfl) rfl #[.agg #[.int .i64 (wrap64 (rd l0 3)), .int .i64 x304001_45, .int .i64 x304002_66, .slice Ao55 y300.length co55]] rfl (by (try simp only [List.map_toArray, List.map_cons, List.map_nil]); first | done | rfl | (simp only [List.length_drop, List.length_take]; rfl)) ?_; (with_reducible refine (cutroomref16_Put.calls kj66 (wrap64 (rd l0 3)) x304001_45 x304002_66 _ _ y300 t308 t311 _ ?side1 ?side2 A75.out).mono ?_); (case side1 => repeat (first | exact (Kd.R_reads' HO_304003.out).2.2 | (with_reducible refine Kd.C_alloc ?_ _) | (with_reducible refine Kd.C_drewN ?_ _) | (with_reducible refine Kd.C_drew ?_))); (case side2 => exact (Kd.R_reads' HO_304003.out).2.1); rintro e w84 ⟨v309, rfl, ho0, hb⟩; refine ⟨_, rfl, ?_⟩; have n0_ := Aside0.mk (Kd.R_elder' (by (with_reducible repeat (first | apply Kd.R_alloc | apply Kd.R_drewN | apply Kd.R_drew)); exact HO_304003.out) (Kd.R_base ho0) hb); have n1_ := Aside0.mk (Kd.R_lower (Kd.R_new' ho0 (Kd.R_lt (by (with_reducible repeat (first | apply Kd.R_alloc | apply Kd.R_drewN | apply Kd.R_drew)); exact HO_304003.out))) (below_size (by repeat (first | (with_reducible first | exact HB.out | apply below_alloc | apply pw_below_drewN | apply below_drew1 | refine below_set ?_ GE278.out | refine below_set ?_ GE303.out) | exact HB.out)))); have n2_ := Aside0.mk (blk_below (g := gb278) (o := .cells #[.int .i64 0, .int .i64 0, .int .i64 0, .slice none 0 0] 29 (0, 0)) (by (with_reducible repeat (first | refine blk_drewN ?_ _ | refine blk_drew ?_ | refine blk_alloc ?_ _)); exact BK278.out) hb); have n3_ := Aside0.mk (blk_below (g := gb303) (o := .cells #[.int .i64 (wrap64 (rd l0 3)), .int .i64 x304001_45, .int .i64 x304002_66, .slice Ao55 y300.length co55] 29 (0, 0)) (by (with_reducible repeat (first | refine blk_drewN ?_ _ | refine blk_drew ?_ | refine blk_alloc ?_ _)); exact BK303.out) hb); have n4_ := Aside0.mk (below_step (by repeat (first | (with_reducible first | exact HB.out | apply below_alloc | apply pw_below_drewN | apply below_drew1 | refine below_set ?_ GE278.out | refine below_set ?_ GE303.out) | exact HB.out)) hb); clear HO_304003; clear BK278; clear BK303; clear HB; have HO_304003 := n0_; have HO310 := n1_; have BK278 := n2_; have BK303 := n3_; have HB := n4_; clear n0_ n1_ n2_ n3_ n4_; (try clear hb); (try clear hb2); (try clear hk); (try clear hi); (try clear ho0); obtain ⟨i085, hi085, _, hsz85, _⟩ := info_parts info5; obtain ⟨hcut85, hA85, hC85⟩ := print_take_of (P := Try.prog) (Value.int .u8) 0 27 5 .i64 Try.underlying27 hi085 hsz85 (some ad279) c0 l0 (ji77) (of_decide_eq_true (by first | (with_reducible assumption) | assumption)) (of_decide_eq_true (by first | (with_reducible assumption) | assumption)) HC0.out; have HR312 := Aside0.mk (Kd.C_of_reads (h1 := fun _ => rfl) (hA85 _ (Kd.reads_of_C HR0.out))); have HC312 := Aside0.mk hC85; clear hA85 hC85 hi085 hsz85; obtain ⟨Ao86, co86, eo86⟩ := Kd.R_slice HO310.out; subst eo86) | (go_at_call 16; refine calls_of_args (args' := #[.slice Ao86 t308.length co86, .slice (some ad279) (l0.take ((ji77) : Int).toNat).length c0]) (by first | rfl | (rw [show (l0.take ((ji77) : Int).toNat).length = (ji77).toNat from (by rw [List.length_take]; have h_ : ((ji77) : Int) ≤ (l0.length : Int) := of_decide_eq_true (by first | (with_reducible assumption) | assumption); omega)]; done) | (simp only [List.length_drop, List.length_take]; done) | (simp only [List.length_drop, List.length_take]; rfl)) ?_; (with_reducible refine (cutroomref02_SameBytes.calls _ _ t308 _ _ (l0.take ((ji77) : Int).toNat) true _ ?side1 ?side2 ?side3 ?side4 A80.out).mono ?_); (case side1 => repeat (first | exact (Kd.R_reads' HO310.out).2.2 | (with_reducible refine Kd.C_alloc ?_ _) | (with_reducible refine Kd.C_drewN ?_ _) | (with_reducible refine Kd.C_drew ?_))); (case side2 => exact (Kd.R_reads' HO310.out).2.1); (case side3 => repeat (first | exact (Kd.C_below HR312.out HB.out) | (with_reducible refine Kd.C_alloc ?_ _) | (with_reducible refine Kd.C_drewN ?_ _) | (with_reducible refine Kd.C_drew ?_))); (case side4 => exact HC312.out); rintro e w' ⟨rfl, ⟨nd, rfl⟩⟩; (try (rw [drewN_self w84]; generalize hq_ : World.drewN w84 _ = w84; have n0_ : Aside0 (Kd.R (Kd.int .u8) 5 w84 w.heap.size (fun k_ => some k_ ≠ (.slice Ao55 y300.length co55 : Value).ownBlock) (.slice Ao86 t308.length co86) t308) := ⟨by rw [← hq_]; exact (by (with_reducible repeat (first | apply Kd.R_alloc | apply Kd.R_drewN | apply Kd.R_drew)); exact Kd.R_mono HO310.out (fun _ hk => hk.2))⟩; have n1_ : Aside0 (Kd.R (Kd.int .u8) 5 w84 w.heap.size (fun k_ => some k_ ≠ (.slice Ao86 t308.length co86 : Value).ownBlock) (.slice Ao55 y300.length co55) y300) := ⟨by rw [← hq_]; exact (by (with_reducible repeat (first | apply Kd.R_alloc | apply Kd.R_drewN | apply Kd.R_drew)); exact Kd.R_mono HO_304003.out (fun _ hk => hk.2))⟩; have n2_ : Aside0 (w84.heap[gb278]? = some (.cells #[.int .i64 0, .int .i64 0, .int .i64 0, .slice none 0 0] 29 (0, 0))) := ⟨by rw [← hq_]; exact (by (with_reducible repeat (first | refine blk_drewN ?_ _ | refine blk_drew ?_ | refine blk_alloc ?_ _)); exact BK278.out)⟩; have n3_ : Aside0 (w84.heap[gb303]? = some (.cells #[.int .i64 (wrap64 (rd l0 3)), .int .i64 x304001_45, .int .i64 x304002_66, .slice Ao55 y300.length co55] 29 (0, 0))) := ⟨by rw [← hq_]; exact (by (with_reducible repeat (first | refine blk_drewN ?_ _ | refine blk_drew ?_ | refine blk_alloc ?_ _)); exact BK303.out)⟩; have n4_ : Aside0 (Below w.heap.size w w84) := ⟨by rw [← hq_]; exact (by repeat (first | (with_reducible first | exact HB.out | apply below_alloc | apply pw_below_drewN | apply below_drew1 | refine below_set ?_ GE278.out | refine below_set ?_ GE303.out) | exact HB.out))⟩; clear HO310 HO_304003 BK278 BK303 HB hq_; have HO310 := n0_; have HO_304003 := n1_; have BK278 := n2_; have BK303 := n3_; have HB := n4_; clear n0_ n1_ n2_ n3_ n4_)); have hcz87_0 : w84.cell? ⟨gb303, 0, none⟩ = some (.int .i64 (wrap64 (rd l0 3))) := (blk_cell BK303.out 0).trans rfl; have hcz87_1 : w84.cell? ⟨gb303, 1, none⟩ = some (.int .i64 x304001_45) := (blk_cell BK303.out 1).trans rfl; have hcz87_2 : w84.cell? ⟨gb303, 2, none⟩ = some (.int .i64 x304002_66) := (blk_cell BK303.out 2).trans rfl; have hcz87_3 : w84.cell? ⟨gb303, 3, none⟩ = some (.slice Ao55 y300.length co55) := (blk_cell BK303.out 3).trans rfl; have hfz87_0 := blk_frozen BK303.out 0; have hfz87_1 := blk_frozen BK303.out 1; have hfz87_2 := blk_frozen BK303.out 2; have hfz87_3 := blk_frozen BK303.out 3; have hcz88_0 : w84.cell? ⟨gb278, 0, none⟩ = some (.int .i64 0) := (blk_cell BK278.out 0).trans rfl; have hcz88_1 : w84.cell? ⟨gb278, 1, none⟩ = some (.int .i64 0) := (blk_cell BK278.out 1).trans rfl; have hcz88_2 : w84.cell? ⟨gb278, 2, none⟩ = some (.int .i64 0) := (blk_cell BK278.out 2).trans rfl; have hcz88_3 : w84.cell? ⟨gb278, 3, none⟩ = some (.slice none 0 0) := (blk_cell BK278.out 3).trans rfl; have hfz88_0 := blk_frozen BK278.out 0; have hfz88_1 := blk_frozen BK278.out 1; have hfz88_2 := blk_frozen BK278.out 2; have hfz88_3 := blk_frozen BK278.out 3))
                                                  refine bodyPost_ret (results_ctt rfl _ _ gb278 29 #[.int .i64 (wrap64 (rd l0 3)), .int .i64 x304001_45, .int .i64 x304002_66, .slice Ao55 y300.length co55] (0, 0) _ rfl (by (with_reducible repeat (first | refine blk_drewN ?_ _ | refine blk_drew ?_ | refine blk_alloc ?_ _)); refine blk_put (cs := #[.int .i64 (wrap64 (rd l0 3)), .int .i64 x304001_45, .int .i64 x304002_66, .slice none 0 0]) ?_ 3 _ rfl; (with_reducible repeat (first | refine blk_drewN ?_ _ | refine blk_drew ?_ | refine blk_alloc ?_ _)); refine blk_put (cs := #[.int .i64 (wrap64 (rd l0 3)), .int .i64 x304001_45, .int .i64 0, .slice none 0 0]) ?_ 2 _ rfl; (with_reducible repeat (first | refine blk_drewN ?_ _ | refine blk_drew ?_ | refine blk_alloc ?_ _)); refine blk_put (cs := #[.int .i64 (wrap64 (rd l0 3)), .int .i64 0, .int .i64 0, .slice none 0 0]) ?_ 1 _ rfl; (with_reducible repeat (first | refine blk_drewN ?_ _ | refine blk_drew ?_ | refine blk_alloc ?_ _)); refine blk_put (cs := #[.int .i64 0, .int .i64 0, .int .i64 0, .slice none 0 0]) ?_ 0 _ rfl; (with_reducible repeat (first | refine blk_drewN ?_ _ | refine blk_drew ?_ | refine blk_alloc ?_ _)); exact BK278.out) Try.underlying29 rfl (by kernel_rfl)) rfl ?_
                                                  exact ⟨_, by first | rfl | (simp [errW_none, errW_some] <;> rfl) | (simp only [← hji41, ← hji77]; first | rfl | (simp [errW_none, errW_some] <;> rfl)) | (simp [*, errW_none, errW_some] <;> rfl), by (with_reducible repeat (first | apply Kd.R_alloc | apply Kd.R_drewN | apply Kd.R_drew)); exact Kd.R_mono (Kd.R_far (p := ⟨gb278, 3, none⟩) (Kd.R_far (p := ⟨gb278, 2, none⟩) (Kd.R_far (p := ⟨gb278, 1, none⟩) (Kd.R_far (p := ⟨gb278, 0, none⟩) (Kd.R_types HO_304003.out BK278.out (by decide)) (fun _ hk => hk.2) (.int .i64 (wrap64 (rd l0 3)))) (fun _ hk => hk.2) (.int .i64 x304001_45)) (fun _ hk => hk.2) (.int .i64 x304002_66)) (fun _ hk => hk.2) (.slice Ao55 y300.length co55)) (fun _ hk => trivial), by repeat (first | (with_reducible first | exact HB.out | apply below_alloc | apply pw_below_drewN | apply below_drew1 | refine below_set ?_ GE278.out | refine below_set ?_ GE303.out) | exact HB.out)⟩
                                                · replace c81 := Bool.eq_false_iff.mpr c81
                                                  subst c81
                                                  have H1 : (some (0, 0, 0, ([] : List Int), 0, 3)) = some (r1, r2, r3, r4, r5, r6) := by rw [if_neg (show ¬ (false = true) by decide)] at H; exact H
                                                  clear H
                                                  have H := H1
                                                  clear H1
                                                  simp only [Option.some.injEq, Prod.mk.injEq] at H
                                                  obtain ⟨rfl, rfl, rfl, rfl, rfl, rfl⟩ := H
                                                  have hnb89 := NB303_278.out
                                                  have hnc89 := NB278_303.out
                                                  have hcz90_0 : wc.cell? ⟨gb303, 0, none⟩ = some (.int .i64 (wrap64 (rd l0 3))) := (blk_cell BK303.out 0).trans rfl
                                                  have hcz90_1 : wc.cell? ⟨gb303, 1, none⟩ = some (.int .i64 x304001_45) := (blk_cell BK303.out 1).trans rfl
                                                  have hcz90_2 : wc.cell? ⟨gb303, 2, none⟩ = some (.int .i64 x304002_66) := (blk_cell BK303.out 2).trans rfl
                                                  have hcz90_3 : wc.cell? ⟨gb303, 3, none⟩ = some (.slice Ao55 y300.length co55) := (blk_cell BK303.out 3).trans rfl
                                                  have hfz90_0 := blk_frozen BK303.out 0
                                                  have hfz90_1 := blk_frozen BK303.out 1
                                                  have hfz90_2 := blk_frozen BK303.out 2
                                                  have hfz90_3 := blk_frozen BK303.out 3
                                                  go_wp2_with (first | ((with_reducible refine gate_callee (f := 21) rfl ?_); refine goesL_ (some 132) rfl rfl Try.func21 (by kernel_rfl) rfl #[.agg #[.int .i64 (wrap64 (rd l0 3)), .int .i64 x304001_45, .int .i64 x304002_66, .slice Ao55 y300.length co55]] rfl (by (try simp only [List.map_toArray, List.map_cons, List.map_nil]); first | done | rfl | (simp only [List.length_drop, List.length_take]; rfl)) ?_; (with_reducible refine (cutroomref16_Put.calls kj66 (wrap64 (rd l0 3)) x304001_45 x304002_66 _ _ y300 t308 t311 _ ?side1 ?side2 A75.out).mono ?_); (case side1 => repeat (first | exact (Kd.R_reads' HO_304003.out).2.2 | (with_reducible refine Kd.C_alloc ?_ _) | (with_reducible refine Kd.C_drewN ?_ _) | (with_reducible refine Kd.C_drew ?_))); (case side2 => exact (Kd.R_reads' HO_304003.out).2.1); rintro e w91 ⟨v309, rfl, ho0, hb⟩; refine ⟨_, rfl, ?_⟩; have n0_ := Aside0.mk (Kd.R_elder' (by (with_reducible repeat (first | apply Kd.R_alloc | apply Kd.R_drewN | apply Kd.R_drew)); exact HO_304003.out) (Kd.R_base ho0) hb); have n1_ := Aside0.mk (Kd.R_lower (Kd.R_new' ho0 (Kd.R_lt (by (with_reducible repeat (first | apply Kd.R_alloc | apply Kd.R_drewN | apply Kd.R_drew)); exact HO_304003.out))) (below_size (by repeat (first | (with_reducible first | exact HB.out | apply below_alloc | apply pw_below_drewN | apply below_drew1 | refine below_set ?_ GE278.out | refine below_set ?_ GE303.out) | exact HB.out)))); have n2_ := Aside0.mk (blk_below (g := gb278) (o := .cells #[.int .i64 0, .int .i64 0, .int .i64 0, .slice none 0 0] 29 (0, 0)) (by (with_reducible repeat (first | refine blk_drewN ?_ _ | refine blk_drew ?_ | refine blk_alloc ?_ _)); exact BK278.out) hb); have n3_ := Aside0.mk (blk_below (g := gb303) (o := .cells #[.int .i64 (wrap64 (rd l0 3)), .int .i64 x304001_45, .int .i64 x304002_66, .slice Ao55 y300.length co55] 29 (0, 0)) (by (with_reducible repeat (first | refine blk_drewN ?_ _ | refine blk_drew ?_ | refine blk_alloc ?_ _)); exact BK303.out) hb); have n4_ := Aside0.mk (below_step (by repeat (first | (with_reducible first | exact HB.out | apply below_alloc | apply pw_below_drewN | apply below_drew1 | refine below_set ?_ GE278.out | refine below_set ?_ GE303.out) | exact HB.out)) hb); clear HO_304003; clear BK278; clear BK303; clear HB; have HO_304003 := n0_; have HO310 := n1_; have BK278 := n2_; have BK303 := n3_; have HB := n4_; clear n0_ n1_ n2_ n3_ n4_; (try clear hb); (try clear hb2); (try clear hk); (try clear hi); (try clear ho0); obtain ⟨i092, hi092, _, hsz92, _⟩ := info_parts info5; obtain ⟨hcut92, hA92, hC92⟩ := print_take_of (P := Try.prog) (Value.int .u8) 0 27 5 .i64 Try.underlying27 hi092 hsz92 (some ad279) c0 l0 (ji77) (of_decide_eq_true (by first | (with_reducible assumption) | assumption)) (of_decide_eq_true (by first | (with_reducible assumption) | assumption)) HC0.out; have HR312 := Aside0.mk (Kd.C_of_reads (h1 := fun _ => rfl) (hA92 _ (Kd.reads_of_C HR0.out))); have HC312 := Aside0.mk hC92; clear hA92 hC92 hi092 hsz92; obtain ⟨Ao93, co93, eo93⟩ := Kd.R_slice HO310.out; subst eo93) | (go_at_call 16; refine calls_of_args (args' := #[.slice Ao93 t308.length co93, .slice (some ad279) (l0.take ((ji77) : Int).toNat).length c0]) (by first | rfl | (rw [show (l0.take ((ji77) : Int).toNat).length = (ji77).toNat from (by rw [List.length_take]; have h_ : ((ji77) : Int) ≤ (l0.length : Int) := of_decide_eq_true (by first | (with_reducible assumption) | assumption); omega)]; done) | (simp only [List.length_drop, List.length_take]; done) | (simp only [List.length_drop, List.length_take]; rfl)) ?_; (with_reducible refine (cutroomref02_SameBytes.calls _ _ t308 _ _ (l0.take ((ji77) : Int).toNat) false _ ?side1 ?side2 ?side3 ?side4 A80.out).mono ?_); (case side1 => repeat (first | exact (Kd.R_reads' HO310.out).2.2 | (with_reducible refine Kd.C_alloc ?_ _) | (with_reducible refine Kd.C_drewN ?_ _) | (with_reducible refine Kd.C_drew ?_))); (case side2 => exact (Kd.R_reads' HO310.out).2.1); (case side3 => repeat (first | exact (Kd.C_below HR312.out HB.out) | (with_reducible refine Kd.C_alloc ?_ _) | (with_reducible refine Kd.C_drewN ?_ _) | (with_reducible refine Kd.C_drew ?_))); (case side4 => exact HC312.out); rintro e w' ⟨rfl, ⟨nd, rfl⟩⟩; (try (rw [drewN_self w91]; generalize hq_ : World.drewN w91 _ = w91; have n0_ : Aside0 (Kd.R (Kd.int .u8) 5 w91 w.heap.size (fun k_ => some k_ ≠ (.slice Ao55 y300.length co55 : Value).ownBlock) (.slice Ao93 t308.length co93) t308) := ⟨by rw [← hq_]; exact (by (with_reducible repeat (first | apply Kd.R_alloc | apply Kd.R_drewN | apply Kd.R_drew)); exact Kd.R_mono HO310.out (fun _ hk => hk.2))⟩; have n1_ : Aside0 (Kd.R (Kd.int .u8) 5 w91 w.heap.size (fun k_ => some k_ ≠ (.slice Ao93 t308.length co93 : Value).ownBlock) (.slice Ao55 y300.length co55) y300) := ⟨by rw [← hq_]; exact (by (with_reducible repeat (first | apply Kd.R_alloc | apply Kd.R_drewN | apply Kd.R_drew)); exact Kd.R_mono HO_304003.out (fun _ hk => hk.2))⟩; have n2_ : Aside0 (w91.heap[gb278]? = some (.cells #[.int .i64 0, .int .i64 0, .int .i64 0, .slice none 0 0] 29 (0, 0))) := ⟨by rw [← hq_]; exact (by (with_reducible repeat (first | refine blk_drewN ?_ _ | refine blk_drew ?_ | refine blk_alloc ?_ _)); exact BK278.out)⟩; have n3_ : Aside0 (w91.heap[gb303]? = some (.cells #[.int .i64 (wrap64 (rd l0 3)), .int .i64 x304001_45, .int .i64 x304002_66, .slice Ao55 y300.length co55] 29 (0, 0))) := ⟨by rw [← hq_]; exact (by (with_reducible repeat (first | refine blk_drewN ?_ _ | refine blk_drew ?_ | refine blk_alloc ?_ _)); exact BK303.out)⟩; have n4_ : Aside0 (Below w.heap.size w w91) := ⟨by rw [← hq_]; exact (by repeat (first | (with_reducible first | exact HB.out | apply below_alloc | apply pw_below_drewN | apply below_drew1 | refine below_set ?_ GE278.out | refine below_set ?_ GE303.out) | exact HB.out))⟩; clear HO310 HO_304003 BK278 BK303 HB hq_; have HO310 := n0_; have HO_304003 := n1_; have BK278 := n2_; have BK303 := n3_; have HB := n4_; clear n0_ n1_ n2_ n3_ n4_)); have hcz94_0 : w91.cell? ⟨gb278, 0, none⟩ = some (.int .i64 0) := (blk_cell BK278.out 0).trans rfl; have hcz94_1 : w91.cell? ⟨gb278, 1, none⟩ = some (.int .i64 0) := (blk_cell BK278.out 1).trans rfl; have hcz94_2 : w91.cell? ⟨gb278, 2, none⟩ = some (.int .i64 0) := (blk_cell BK278.out 2).trans rfl; have hcz94_3 : w91.cell? ⟨gb278, 3, none⟩ = some (.slice none 0 0) := (blk_cell BK278.out 3).trans rfl; have hfz94_0 := blk_frozen BK278.out 0; have hfz94_1 := blk_frozen BK278.out 1; have hfz94_2 := blk_frozen BK278.out 2; have hfz94_3 := blk_frozen BK278.out 3))
                                                  refine bodyPost_ret (results_ctt rfl _ _ gb278 29 #[.int .i64 0, .int .i64 0, .int .i64 0, .slice none 0 0] (0, 0) _ rfl (by (with_reducible repeat (first | refine blk_drewN ?_ _ | refine blk_drew ?_ | refine blk_alloc ?_ _)); refine blk_put (cs := #[.int .i64 0, .int .i64 0, .int .i64 0, .slice none 0 0]) ?_ 3 _ rfl; (with_reducible repeat (first | refine blk_drewN ?_ _ | refine blk_drew ?_ | refine blk_alloc ?_ _)); refine blk_put (cs := #[.int .i64 0, .int .i64 0, .int .i64 0, .slice none 0 0]) ?_ 2 _ rfl; (with_reducible repeat (first | refine blk_drewN ?_ _ | refine blk_drew ?_ | refine blk_alloc ?_ _)); refine blk_put (cs := #[.int .i64 0, .int .i64 0, .int .i64 0, .slice none 0 0]) ?_ 1 _ rfl; (with_reducible repeat (first | refine blk_drewN ?_ _ | refine blk_drew ?_ | refine blk_alloc ?_ _)); refine blk_put (cs := #[.int .i64 0, .int .i64 0, .int .i64 0, .slice none 0 0]) ?_ 0 _ rfl; (with_reducible repeat (first | refine blk_drewN ?_ _ | refine blk_drew ?_ | refine blk_alloc ?_ _)); exact BK278.out) Try.underlying29 rfl (by kernel_rfl)) rfl ?_
                                                  exact ⟨_, by first | rfl | (simp [errW_none, errW_some] <;> rfl) | (simp only [← hji41, ← hji77]; first | rfl | (simp [errW_none, errW_some] <;> rfl)) | (simp [*, errW_none, errW_some] <;> rfl), by first | exact Kd.R_nil _ _ _ _ _ | exact Kd.N_nil _ _ _ _ _ | exact Kd.V_nil _ _ _ _ _ | exact Kd.Q_nil _ _ _ _ _ | exact Kd.S_nil _ _ _ _ _, by repeat (first | (with_reducible first | exact HB.out | apply below_alloc | apply pw_below_drewN | apply below_drew1 | refine below_set ?_ GE278.out | refine below_set ?_ GE303.out) | exact HB.out)⟩
                                              · rw [if_neg c79] at H
                                                exact absurd H (by simp)
                                            · rw [if_neg c78] at H
                                              exact absurd H (by simp)
                                          · rw [if_neg c76] at H
                                            have c76b0 : (t311 == 0) = false := beq_eq_false_iff_ne.mpr c76
                                            have c76b1 : (t311 != 0) = true := bne_iff_ne.mpr c76
                                            simp only [Option.some.injEq, Prod.mk.injEq] at H
                                            obtain ⟨rfl, rfl, rfl, rfl, rfl, rfl⟩ := H
                                            have hnb95 := NB303_278.out
                                            have hnc95 := NB278_303.out
                                            have hcz96_0 : wc.cell? ⟨gb303, 0, none⟩ = some (.int .i64 (wrap64 (rd l0 3))) := (blk_cell BK303.out 0).trans rfl
                                            have hcz96_1 : wc.cell? ⟨gb303, 1, none⟩ = some (.int .i64 x304001_45) := (blk_cell BK303.out 1).trans rfl
                                            have hcz96_2 : wc.cell? ⟨gb303, 2, none⟩ = some (.int .i64 x304002_66) := (blk_cell BK303.out 2).trans rfl
                                            have hcz96_3 : wc.cell? ⟨gb303, 3, none⟩ = some (.slice Ao55 y300.length co55) := (blk_cell BK303.out 3).trans rfl
                                            have hfz96_0 := blk_frozen BK303.out 0
                                            have hfz96_1 := blk_frozen BK303.out 1
                                            have hfz96_2 := blk_frozen BK303.out 2
                                            have hfz96_3 := blk_frozen BK303.out 3
                                            go_wp2_with (first | ((with_reducible refine gate_callee (f := 21) rfl ?_); refine goesL_ (some 132) rfl rfl Try.func21 (by kernel_rfl) rfl #[.agg #[.int .i64 (wrap64 (rd l0 3)), .int .i64 x304001_45, .int .i64 x304002_66, .slice Ao55 y300.length co55]] rfl (by (try simp only [List.map_toArray, List.map_cons, List.map_nil]); first | done | rfl | (simp only [List.length_drop, List.length_take]; rfl)) ?_; (with_reducible refine (cutroomref16_Put.calls kj66 (wrap64 (rd l0 3)) x304001_45 x304002_66 _ _ y300 t308 t311 _ ?side1 ?side2 A75.out).mono ?_); (case side1 => repeat (first | exact (Kd.R_reads' HO_304003.out).2.2 | (with_reducible refine Kd.C_alloc ?_ _) | (with_reducible refine Kd.C_drewN ?_ _) | (with_reducible refine Kd.C_drew ?_))); (case side2 => exact (Kd.R_reads' HO_304003.out).2.1); rintro e w97 ⟨v309, rfl, ho0, hb⟩; refine ⟨_, rfl, ?_⟩; have n0_ := Aside0.mk (Kd.R_elder' (by (with_reducible repeat (first | apply Kd.R_alloc | apply Kd.R_drewN | apply Kd.R_drew)); exact HO_304003.out) (Kd.R_base ho0) hb); have n1_ := Aside0.mk (Kd.R_lower (Kd.R_new' ho0 (Kd.R_lt (by (with_reducible repeat (first | apply Kd.R_alloc | apply Kd.R_drewN | apply Kd.R_drew)); exact HO_304003.out))) (below_size (by repeat (first | (with_reducible first | exact HB.out | apply below_alloc | apply pw_below_drewN | apply below_drew1 | refine below_set ?_ GE278.out | refine below_set ?_ GE303.out) | exact HB.out)))); have n2_ := Aside0.mk (blk_below (g := gb278) (o := .cells #[.int .i64 0, .int .i64 0, .int .i64 0, .slice none 0 0] 29 (0, 0)) (by (with_reducible repeat (first | refine blk_drewN ?_ _ | refine blk_drew ?_ | refine blk_alloc ?_ _)); exact BK278.out) hb); have n3_ := Aside0.mk (blk_below (g := gb303) (o := .cells #[.int .i64 (wrap64 (rd l0 3)), .int .i64 x304001_45, .int .i64 x304002_66, .slice Ao55 y300.length co55] 29 (0, 0)) (by (with_reducible repeat (first | refine blk_drewN ?_ _ | refine blk_drew ?_ | refine blk_alloc ?_ _)); exact BK303.out) hb); have n4_ := Aside0.mk (below_step (by repeat (first | (with_reducible first | exact HB.out | apply below_alloc | apply pw_below_drewN | apply below_drew1 | refine below_set ?_ GE278.out | refine below_set ?_ GE303.out) | exact HB.out)) hb); clear HO_304003; clear BK278; clear BK303; clear HB; have HO_304003 := n0_; have HO310 := n1_; have BK278 := n2_; have BK303 := n3_; have HB := n4_; clear n0_ n1_ n2_ n3_ n4_; (try clear hb); (try clear hb2); (try clear hk); (try clear hi); (try clear ho0); have hcz98_0 : w97.cell? ⟨gb278, 0, none⟩ = some (.int .i64 0) := (blk_cell BK278.out 0).trans rfl; have hcz98_1 : w97.cell? ⟨gb278, 1, none⟩ = some (.int .i64 0) := (blk_cell BK278.out 1).trans rfl; have hcz98_2 : w97.cell? ⟨gb278, 2, none⟩ = some (.int .i64 0) := (blk_cell BK278.out 2).trans rfl; have hcz98_3 : w97.cell? ⟨gb278, 3, none⟩ = some (.slice none 0 0) := (blk_cell BK278.out 3).trans rfl; have hfz98_0 := blk_frozen BK278.out 0; have hfz98_1 := blk_frozen BK278.out 1; have hfz98_2 := blk_frozen BK278.out 2; have hfz98_3 := blk_frozen BK278.out 3))
                                            refine bodyPost_ret (results_ctt rfl _ _ gb278 29 #[.int .i64 0, .int .i64 0, .int .i64 0, .slice none 0 0] (0, 0) _ rfl (by (with_reducible repeat (first | refine blk_drewN ?_ _ | refine blk_drew ?_ | refine blk_alloc ?_ _)); refine blk_put (cs := #[.int .i64 0, .int .i64 0, .int .i64 0, .slice none 0 0]) ?_ 3 _ rfl; (with_reducible repeat (first | refine blk_drewN ?_ _ | refine blk_drew ?_ | refine blk_alloc ?_ _)); refine blk_put (cs := #[.int .i64 0, .int .i64 0, .int .i64 0, .slice none 0 0]) ?_ 2 _ rfl; (with_reducible repeat (first | refine blk_drewN ?_ _ | refine blk_drew ?_ | refine blk_alloc ?_ _)); refine blk_put (cs := #[.int .i64 0, .int .i64 0, .int .i64 0, .slice none 0 0]) ?_ 1 _ rfl; (with_reducible repeat (first | refine blk_drewN ?_ _ | refine blk_drew ?_ | refine blk_alloc ?_ _)); refine blk_put (cs := #[.int .i64 0, .int .i64 0, .int .i64 0, .slice none 0 0]) ?_ 0 _ rfl; (with_reducible repeat (first | refine blk_drewN ?_ _ | refine blk_drew ?_ | refine blk_alloc ?_ _)); exact BK278.out) Try.underlying29 rfl (by kernel_rfl)) rfl ?_
                                            exact ⟨_, by first | rfl | (simp [errW_none, errW_some] <;> rfl) | (simp only [← hji41]; first | rfl | (simp [errW_none, errW_some] <;> rfl)) | (simp [*, errW_none, errW_some] <;> rfl), by first | exact Kd.R_nil _ _ _ _ _ | exact Kd.N_nil _ _ _ _ _ | exact Kd.V_nil _ _ _ _ _ | exact Kd.Q_nil _ _ _ _ _ | exact Kd.S_nil _ _ _ _ _, by repeat (first | (with_reducible first | exact HB.out | apply below_alloc | apply pw_below_drewN | apply below_drew1 | refine below_set ?_ GE278.out | refine below_set ?_ GE303.out) | exact HB.out)⟩
                                · rw [if_neg c45] at H
                                  exact absurd H (by simp)
                              · rw [if_neg c44] at H
                                exact absurd H (by simp)
                            · rw [if_neg c43] at H
                              exact absurd H (by simp)
                          · rw [if_neg c42] at H
                            exact absurd H (by simp)
                        · rw [if_neg c40] at H
                          exact absurd H (by simp)
        · rw [if_neg c7] at H
          exact absurd H (by simp)
      · rw [if_neg c6] at H
        exact absurd H (by simp)
    · rw [if_neg c5] at H
      exact absurd H (by simp)

end Go.Proofs.Ytdkibpdgnocgaaa.PPesTakes
