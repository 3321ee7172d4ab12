-- Written for this claim by a turned copy of the kit's print (wip/printx/mk.py). By an AI agent.
import Derived.Test.YtfdhjnfpppafaaaPTimecodeFormatsx0
import Derived.Test.YtfdhjnfpppafaaaPTimecodeFormatsx3
import Derived.Test.YtfdhjnfpppafaaaPTimecodeFormatsx5
import Derived.Test.YtfdhjnfpppafaaaPTimecodeFormatsx7
namespace Go.Proofs.Ytfdhjnfpppafaaa.PTimecodeFormats
open Go.RowKit Go.Proofs.YtfdhjnfpppafaaaW.PrintWords Go.Proofs.YtfdhjnfpppafaaaW.PrintLast Go.Proofs.YtfdhjnfpppafaaaW.PrintMore
attribute [local go_sem] max2_int min2_int max_two min_two max_three min_three max_four min_four   -- for this text's walks alone
set_option linter.unusedVariables false
set_option linter.unusedSimpArgs false


/-! ### cutroomref19_two: function 46 -/
def cutroomref19_two.f (a0 : Int) : Option (ByteArray) := if 0 ≤ a0 ∧ a0 ≤ 99 then some (strOfNums ([48 + a0 / 10, 48 + a0 % 10] : List Int)) else none
theorem cutroomref19_two.enc1 (n : Int) (h0 : 0 ≤ n) (h1 : n < 128) : Utf8.encode n = ⟨#[UInt8.ofNat n.toNat]⟩ := by
  have hv : Utf8.valid n = true := by unfold Utf8.valid; simp; omega
  unfold Utf8.encode
  simp only [hv, if_true]
  rw [if_pos (by omega)]
theorem cutroomref19_two.two_eq (x y : Int) : (⟨#[UInt8.ofNat x.toNat]⟩ : ByteArray) ++ ⟨#[UInt8.ofNat y.toNat]⟩ = strOfNums [x, y] := by
  apply ByteArray.ext
  simp [strOfNums, ByteArray.data_append]
set_option maxHeartbeats 1000000 in
theorem cutroomref19_two.calls (a0 : Int) (r : ByteArray) (w : World) (h : cutroomref19_two.f a0 = some r) :
    Calls Try.prog 46 #[.int .i64 a0] w fun e w' => e = .returned (.string r) ∧ Drawn0 w w' := by
  unfold cutroomref19_two.f at h
  split at h
  · rename_i hb
    obtain ⟨h0, h1⟩ := hb
    obtain rfl := Option.some.inj h
    have hu3 := Try.underlying3
    have hu9 := Try.underlying9
    have hu21 := Try.underlying21
    have he1 := cutroomref19_two.enc1 (48 + a0 / 10) (by omega) (by omega)
    have he2 := cutroomref19_two.enc1 (48 + a0 % 10) (by omega) (by omega)
    go_enter Try.func46, Try.ntmps46
    go_wp2
    go_ret
    exact ⟨by rw [← cutroomref19_two.two_eq]; rfl, Drawn0.refl _⟩
  · cases h

/-! ### cutroomref19_Format: function 31 -/
def cutroomref19_Format.j0 : Nat → ByteArray → Int → Int → Int → Int → Int → Bool → Option (ByteArray × Int)
  | 0, _, _, _, _, _, _, _ => none
  | k + 1, x6, x181000, x181001, x181002, x181003, x181004, x181005 => (cutroomref19_two.f x181000).bind fun t183 => (if t183.size + 1 ≤ 9223372036854775807 then ((cutroomref19_two.f x181001).bind fun t184 => (if t183.size + 1 + t184.size ≤ 9223372036854775807 then (if t183.size + 1 + t184.size + 1 ≤ 9223372036854775807 then ((cutroomref19_two.f x181002).bind fun t185 => (if t183.size + 1 + t184.size + 1 + t185.size ≤ 9223372036854775807 then (if t183.size + 1 + t184.size + 1 + t185.size + x6.size ≤ 9223372036854775807 then ((cutroomref19_two.f x181003).bind fun t186 => (if t183.size + 1 + t184.size + 1 + t185.size + x6.size + t186.size ≤ 9223372036854775807 then (some ((((((t183 ++ (⟨#[58]⟩ : ByteArray)) ++ t184) ++ (⟨#[58]⟩ : ByteArray)) ++ t185) ++ x6) ++ t186, 0)) else (none))) else (none)) else (none))) else (none)) else (none))) else (none))
def cutroomref19_Format.f (k : Nat) (a0_0 : Int) (a0_1 : Int) (a0_2 : Int) (a0_3 : Int) (a0_4 : Int) (a0_5 : Bool) : Option (ByteArray × Int) := (cutroomref19_Number.f k a0_0 a0_1 a0_2 a0_3 a0_4 a0_5).bind fun bt181 => (if bt181.2 = 0 then (if a0_5 = true then (cutroomref19_Format.j0 k (⟨#[59]⟩ : ByteArray) a0_0 a0_1 a0_2 a0_3 a0_4 a0_5) else (cutroomref19_Format.j0 k (⟨#[58]⟩ : ByteArray) a0_0 a0_1 a0_2 a0_3 a0_4 a0_5)) else (some ((⟨#[]⟩ : ByteArray), bt181.2)))
theorem cutroomref19_Format.mono_l : ∀ k, (∀ y0 y1 y2 y3 y4 y5 y6, LeO (cutroomref19_Format.j0 k y0 y1 y2 y3 y4 y5 y6) (cutroomref19_Format.j0 (k + 1) y0 y1 y2 y3 y4 y5 y6))
  | 0 => fun _ _ _ _ _ _ _ r h => by simp [cutroomref19_Format.j0] at h
  | k + 1 => by
    have ih0 := cutroomref19_Format.mono_l k
    · intro y0 y1 y2 y3 y4 y5 y6
      unfold cutroomref19_Format.j0
      repeat' first
      | (with_reducible exact ih0 _ _ _ _ _ _ _)
      | (with_reducible exact cutroomref19_Number.mono _ _ _ _ _ _ _)
      | (with_reducible exact LeO.refl _)
      | (with_reducible exact LeO.none _)
      | (with_reducible refine LeO.ite ?_ ?_)
      | (with_reducible refine LeO.bind ?_ (fun _ => ?_))
      | exact ih0 _ _ _ _ _ _ _
      | exact cutroomref19_Number.mono _ _ _ _ _ _ _
      | exact LeO.none _
      | refine LeO.ite ?_ ?_
      | refine LeO.bind ?_ (fun _ => ?_)
theorem cutroomref19_Format.mono : ∀ a0 a1 a2 a3 a4 a5 k, LeO (cutroomref19_Format.f k a0 a1 a2 a3 a4 a5) (cutroomref19_Format.f (k + 1) a0 a1 a2 a3 a4 a5) := by
  intro a0 a1 a2 a3 a4 a5 k
  have ih0 := cutroomref19_Format.mono_l k
  unfold cutroomref19_Format.f
  repeat' first
      | (with_reducible exact ih0 _ _ _ _ _ _ _)
      | (with_reducible exact cutroomref19_Number.mono _ _ _ _ _ _ _)
      | (with_reducible exact LeO.refl _)
      | (with_reducible exact LeO.none _)
      | (with_reducible refine LeO.ite ?_ ?_)
      | (with_reducible refine LeO.bind ?_ (fun _ => ?_))
      | exact ih0 _ _ _ _ _ _ _
      | exact cutroomref19_Number.mono _ _ _ _ _ _ _
      | exact LeO.none _
      | refine LeO.ite ?_ ?_
      | refine LeO.bind ?_ (fun _ => ?_)
set_option maxHeartbeats 8000000 in
set_option maxRecDepth 100000 in
theorem cutroomref19_Format.calls (k : Nat) (a0_0 : Int) (a0_1 : Int) (a0_2 : Int) (a0_3 : Int) (a0_4 : Int) (a0_5 : Bool) (r1 : ByteArray) (r2 : Int) (w : World) (h : cutroomref19_Format.f k a0_0 a0_1 a0_2 a0_3 a0_4 a0_5 = some (r1, r2)) :
    Calls Try.prog 31 #[.agg #[.int .i64 a0_0, .int .i64 a0_1, .int .i64 a0_2, .int .i64 a0_3, .int .i64 a0_4, .bool a0_5]] w fun e w' => e = .returned (.tuple #[.string r1, .int .i64 r2]) ∧ Below w.heap.size w w' := by
  have hu34 := Try.underlying34
  have HB := Aside0.mk (Below.refl w.heap.size w)
  have H : ((cutroomref19_Number.f k a0_0 a0_1 a0_2 a0_3 a0_4 a0_5).bind fun bt181 => (if bt181.2 = 0 then (if a0_5 = true then (cutroomref19_Format.j0 k (⟨#[59]⟩ : ByteArray) a0_0 a0_1 a0_2 a0_3 a0_4 a0_5) else (cutroomref19_Format.j0 k (⟨#[58]⟩ : ByteArray) a0_0 a0_1 a0_2 a0_3 a0_4 a0_5)) else (some ((⟨#[]⟩ : ByteArray), bt181.2)))) = some (r1, r2) := h
  clear h
  replace H := Option.bind_eq_some_iff.mp H
  obtain ⟨⟨t181, t182⟩, A20, H⟩ := H
  replace H : (if t182 = 0 then (if a0_5 = true then (cutroomref19_Format.j0 k (⟨#[59]⟩ : ByteArray) a0_0 a0_1 a0_2 a0_3 a0_4 a0_5) else (cutroomref19_Format.j0 k (⟨#[58]⟩ : ByteArray) a0_0 a0_1 a0_2 a0_3 a0_4 a0_5)) else (some ((⟨#[]⟩ : ByteArray), t182))) = some (r1, r2) := H
  have A2 := Aside0.mk A20
  clear A20
  by_cases c3 : t182 = 0
  · rw [if_pos c3] at H
    have c3b0 : (t182 == 0) = true := beq_iff_eq.mpr c3
    have c3b1 : (t182 != 0) = false := bne_eq_false_iff_eq.mpr c3
    clear c3
    have HC4 := Aside0.mk H
    clear H
    go_enter Try.func31, Try.ntmps31
    go_upto_if 16 with (first | ((with_reducible refine gate_dst (N := 1) rfl ?_); refine box_event ?hg (N := 1) ?hd (cs := #[.int .i64 a0_0, .int .i64 a0_1, .int .i64 a0_2, .int .i64 a0_3, .int .i64 a0_4, .bool a0_5]) (t := 34) ?hr ?_; (case hd => rfl); (case hg => rfl); (case hr => first | (go_simp; done) | (go_simp; rfl)); intro gb180 hg w5 hbox hb; have n0_ := Aside0.mk (below_step (by repeat (first | (with_reducible first | exact HB.out | apply below_alloc | apply pw_below_drewN | apply below_drew1) | exact HB.out)) hb); have n1_ := Aside0.mk (hbox); have n2_ := Aside0.mk ((by rw [hg]; exact (below_size (by repeat (first | (with_reducible first | exact HB.out | apply below_alloc | apply pw_below_drewN | apply below_drew1) | exact HB.out))) : w.heap.size ≤ gb180)); have n3_ := Aside0.mk ((by rw [hg]; exact (below_size (by repeat (first | (with_reducible first | exact HB.out | apply below_alloc | apply pw_below_drewN | apply below_drew1) | exact HB.out))) : w.heap.size ≤ gb180)); clear HB; have HB := n0_; have BK180 := n1_; have GW180 := n2_; have GE180 := n3_; clear n0_ n1_ n2_ n3_; clear hb hbox hg; have hcz6_0 : w5.cell? ⟨gb180, 0, none⟩ = some (.int .i64 a0_0) := (blk_cell BK180.out 0).trans rfl; have hcz6_1 : w5.cell? ⟨gb180, 1, none⟩ = some (.int .i64 a0_1) := (blk_cell BK180.out 1).trans rfl; have hcz6_2 : w5.cell? ⟨gb180, 2, none⟩ = some (.int .i64 a0_2) := (blk_cell BK180.out 2).trans rfl; have hcz6_3 : w5.cell? ⟨gb180, 3, none⟩ = some (.int .i64 a0_3) := (blk_cell BK180.out 3).trans rfl; have hcz6_4 : w5.cell? ⟨gb180, 4, none⟩ = some (.int .i64 a0_4) := (blk_cell BK180.out 4).trans rfl; have hcz6_5 : w5.cell? ⟨gb180, 5, none⟩ = some (.bool a0_5) := (blk_cell BK180.out 5).trans rfl; have hfz6_0 := blk_frozen BK180.out 0; have hfz6_1 := blk_frozen BK180.out 1; have hfz6_2 := blk_frozen BK180.out 2; have hfz6_3 := blk_frozen BK180.out 3; have hfz6_4 := blk_frozen BK180.out 4; have hfz6_5 := blk_frozen BK180.out 5) | (go_at_call 26; (with_reducible refine (cutroomref19_Number.calls k a0_0 a0_1 a0_2 a0_3 a0_4 a0_5 t181 t182 _ A2.out).mono ?_); rintro e w7 ⟨rfl, hb⟩; have n0_ := Aside0.mk (blk_below (g := gb180) (o := .cells #[.int .i64 a0_0, .int .i64 a0_1, .int .i64 a0_2, .int .i64 a0_3, .int .i64 a0_4, .bool a0_5] 34 (0, 0)) (by (with_reducible repeat (first | refine blk_drewN ?_ _ | refine blk_drew ?_ | refine blk_alloc ?_ _)); exact BK180.out) hb); have n1_ := Aside0.mk (below_step (by repeat (first | (with_reducible first | exact HB.out | apply below_alloc | apply pw_below_drewN | apply below_drew1 | refine below_set ?_ GE180.out) | exact HB.out)) hb); clear BK180; clear HB; have BK180 := n0_; have HB := n1_; clear n0_ n1_; (try clear hb); (try clear hb2); (try clear hk); (try clear hi); have hcz8_0 : w7.cell? ⟨gb180, 0, none⟩ = some (.int .i64 a0_0) := (blk_cell BK180.out 0).trans rfl; have hcz8_1 : w7.cell? ⟨gb180, 1, none⟩ = some (.int .i64 a0_1) := (blk_cell BK180.out 1).trans rfl; have hcz8_2 : w7.cell? ⟨gb180, 2, none⟩ = some (.int .i64 a0_2) := (blk_cell BK180.out 2).trans rfl; have hcz8_3 : w7.cell? ⟨gb180, 3, none⟩ = some (.int .i64 a0_3) := (blk_cell BK180.out 3).trans rfl; have hcz8_4 : w7.cell? ⟨gb180, 4, none⟩ = some (.int .i64 a0_4) := (blk_cell BK180.out 4).trans rfl; have hcz8_5 : w7.cell? ⟨gb180, 5, none⟩ = some (.bool a0_5) := (blk_cell BK180.out 5).trans rfl; have hfz8_0 := blk_frozen BK180.out 0; have hfz8_1 := blk_frozen BK180.out 1; have hfz8_2 := blk_frozen BK180.out 2; have hfz8_3 := blk_frozen BK180.out 3; have hfz8_4 := blk_frozen BK180.out 4; have hfz8_5 := blk_frozen BK180.out 5))
    repeat (go_quiet (first | ((with_reducible refine gate_dst (N := 1) rfl ?_); refine box_event ?hg (N := 1) ?hd (cs := #[.int .i64 a0_0, .int .i64 a0_1, .int .i64 a0_2, .int .i64 a0_3, .int .i64 a0_4, .bool a0_5]) (t := 34) ?hr ?_; (case hd => rfl); (case hg => rfl); (case hr => first | (go_simp; done) | (go_simp; rfl)); intro gb180 hg w5 hbox hb; have n0_ := Aside0.mk (below_step (by repeat (first | (with_reducible first | exact HB.out | apply below_alloc | apply pw_below_drewN | apply below_drew1) | exact HB.out)) hb); have n1_ := Aside0.mk (hbox); have n2_ := Aside0.mk ((by rw [hg]; exact (below_size (by repeat (first | (with_reducible first | exact HB.out | apply below_alloc | apply pw_below_drewN | apply below_drew1) | exact HB.out))) : w.heap.size ≤ gb180)); have n3_ := Aside0.mk ((by rw [hg]; exact (below_size (by repeat (first | (with_reducible first | exact HB.out | apply below_alloc | apply pw_below_drewN | apply below_drew1) | exact HB.out))) : w.heap.size ≤ gb180)); clear HB; have HB := n0_; have BK180 := n1_; have GW180 := n2_; have GE180 := n3_; clear n0_ n1_ n2_ n3_; clear hb hbox hg; have hcz6_0 : w5.cell? ⟨gb180, 0, none⟩ = some (.int .i64 a0_0) := (blk_cell BK180.out 0).trans rfl; have hcz6_1 : w5.cell? ⟨gb180, 1, none⟩ = some (.int .i64 a0_1) := (blk_cell BK180.out 1).trans rfl; have hcz6_2 : w5.cell? ⟨gb180, 2, none⟩ = some (.int .i64 a0_2) := (blk_cell BK180.out 2).trans rfl; have hcz6_3 : w5.cell? ⟨gb180, 3, none⟩ = some (.int .i64 a0_3) := (blk_cell BK180.out 3).trans rfl; have hcz6_4 : w5.cell? ⟨gb180, 4, none⟩ = some (.int .i64 a0_4) := (blk_cell BK180.out 4).trans rfl; have hcz6_5 : w5.cell? ⟨gb180, 5, none⟩ = some (.bool a0_5) := (blk_cell BK180.out 5).trans rfl; have hfz6_0 := blk_frozen BK180.out 0; have hfz6_1 := blk_frozen BK180.out 1; have hfz6_2 := blk_frozen BK180.out 2; have hfz6_3 := blk_frozen BK180.out 3; have hfz6_4 := blk_frozen BK180.out 4; have hfz6_5 := blk_frozen BK180.out 5) | (go_at_call 26; (with_reducible refine (cutroomref19_Number.calls k a0_0 a0_1 a0_2 a0_3 a0_4 a0_5 t181 t182 _ A2.out).mono ?_); rintro e w7 ⟨rfl, hb⟩; have n0_ := Aside0.mk (blk_below (g := gb180) (o := .cells #[.int .i64 a0_0, .int .i64 a0_1, .int .i64 a0_2, .int .i64 a0_3, .int .i64 a0_4, .bool a0_5] 34 (0, 0)) (by (with_reducible repeat (first | refine blk_drewN ?_ _ | refine blk_drew ?_ | refine blk_alloc ?_ _)); exact BK180.out) hb); have n1_ := Aside0.mk (below_step (by repeat (first | (with_reducible first | exact HB.out | apply below_alloc | apply pw_below_drewN | apply below_drew1 | refine below_set ?_ GE180.out) | exact HB.out)) hb); clear BK180; clear HB; have BK180 := n0_; have HB := n1_; clear n0_ n1_; (try clear hb); (try clear hb2); (try clear hk); (try clear hi); have hcz8_0 : w7.cell? ⟨gb180, 0, none⟩ = some (.int .i64 a0_0) := (blk_cell BK180.out 0).trans rfl; have hcz8_1 : w7.cell? ⟨gb180, 1, none⟩ = some (.int .i64 a0_1) := (blk_cell BK180.out 1).trans rfl; have hcz8_2 : w7.cell? ⟨gb180, 2, none⟩ = some (.int .i64 a0_2) := (blk_cell BK180.out 2).trans rfl; have hcz8_3 : w7.cell? ⟨gb180, 3, none⟩ = some (.int .i64 a0_3) := (blk_cell BK180.out 3).trans rfl; have hcz8_4 : w7.cell? ⟨gb180, 4, none⟩ = some (.int .i64 a0_4) := (blk_cell BK180.out 4).trans rfl; have hcz8_5 : w7.cell? ⟨gb180, 5, none⟩ = some (.bool a0_5) := (blk_cell BK180.out 5).trans rfl; have hfz8_0 := blk_frozen BK180.out 0; have hfz8_1 := blk_frozen BK180.out 1; have hfz8_2 := blk_frozen BK180.out 2; have hfz8_3 := blk_frozen BK180.out 3; have hfz8_4 := blk_frozen BK180.out 4; have hfz8_5 := blk_frozen BK180.out 5)); go_upto_if 16 with (first | ((with_reducible refine gate_dst (N := 1) rfl ?_); refine box_event ?hg (N := 1) ?hd (cs := #[.int .i64 a0_0, .int .i64 a0_1, .int .i64 a0_2, .int .i64 a0_3, .int .i64 a0_4, .bool a0_5]) (t := 34) ?hr ?_; (case hd => rfl); (case hg => rfl); (case hr => first | (go_simp; done) | (go_simp; rfl)); intro gb180 hg w5 hbox hb; have n0_ := Aside0.mk (below_step (by repeat (first | (with_reducible first | exact HB.out | apply below_alloc | apply pw_below_drewN | apply below_drew1) | exact HB.out)) hb); have n1_ := Aside0.mk (hbox); have n2_ := Aside0.mk ((by rw [hg]; exact (below_size (by repeat (first | (with_reducible first | exact HB.out | apply below_alloc | apply pw_below_drewN | apply below_drew1) | exact HB.out))) : w.heap.size ≤ gb180)); have n3_ := Aside0.mk ((by rw [hg]; exact (below_size (by repeat (first | (with_reducible first | exact HB.out | apply below_alloc | apply pw_below_drewN | apply below_drew1) | exact HB.out))) : w.heap.size ≤ gb180)); clear HB; have HB := n0_; have BK180 := n1_; have GW180 := n2_; have GE180 := n3_; clear n0_ n1_ n2_ n3_; clear hb hbox hg; have hcz6_0 : w5.cell? ⟨gb180, 0, none⟩ = some (.int .i64 a0_0) := (blk_cell BK180.out 0).trans rfl; have hcz6_1 : w5.cell? ⟨gb180, 1, none⟩ = some (.int .i64 a0_1) := (blk_cell BK180.out 1).trans rfl; have hcz6_2 : w5.cell? ⟨gb180, 2, none⟩ = some (.int .i64 a0_2) := (blk_cell BK180.out 2).trans rfl; have hcz6_3 : w5.cell? ⟨gb180, 3, none⟩ = some (.int .i64 a0_3) := (blk_cell BK180.out 3).trans rfl; have hcz6_4 : w5.cell? ⟨gb180, 4, none⟩ = some (.int .i64 a0_4) := (blk_cell BK180.out 4).trans rfl; have hcz6_5 : w5.cell? ⟨gb180, 5, none⟩ = some (.bool a0_5) := (blk_cell BK180.out 5).trans rfl; have hfz6_0 := blk_frozen BK180.out 0; have hfz6_1 := blk_frozen BK180.out 1; have hfz6_2 := blk_frozen BK180.out 2; have hfz6_3 := blk_frozen BK180.out 3; have hfz6_4 := blk_frozen BK180.out 4; have hfz6_5 := blk_frozen BK180.out 5) | (go_at_call 26; (with_reducible refine (cutroomref19_Number.calls k a0_0 a0_1 a0_2 a0_3 a0_4 a0_5 t181 t182 _ A2.out).mono ?_); rintro e w7 ⟨rfl, hb⟩; have n0_ := Aside0.mk (blk_below (g := gb180) (o := .cells #[.int .i64 a0_0, .int .i64 a0_1, .int .i64 a0_2, .int .i64 a0_3, .int .i64 a0_4, .bool a0_5] 34 (0, 0)) (by (with_reducible repeat (first | refine blk_drewN ?_ _ | refine blk_drew ?_ | refine blk_alloc ?_ _)); exact BK180.out) hb); have n1_ := Aside0.mk (below_step (by repeat (first | (with_reducible first | exact HB.out | apply below_alloc | apply pw_below_drewN | apply below_drew1 | refine below_set ?_ GE180.out) | exact HB.out)) hb); clear BK180; clear HB; have BK180 := n0_; have HB := n1_; clear n0_ n1_; (try clear hb); (try clear hb2); (try clear hk); (try clear hi); have hcz8_0 : w7.cell? ⟨gb180, 0, none⟩ = some (.int .i64 a0_0) := (blk_cell BK180.out 0).trans rfl; have hcz8_1 : w7.cell? ⟨gb180, 1, none⟩ = some (.int .i64 a0_1) := (blk_cell BK180.out 1).trans rfl; have hcz8_2 : w7.cell? ⟨gb180, 2, none⟩ = some (.int .i64 a0_2) := (blk_cell BK180.out 2).trans rfl; have hcz8_3 : w7.cell? ⟨gb180, 3, none⟩ = some (.int .i64 a0_3) := (blk_cell BK180.out 3).trans rfl; have hcz8_4 : w7.cell? ⟨gb180, 4, none⟩ = some (.int .i64 a0_4) := (blk_cell BK180.out 4).trans rfl; have hcz8_5 : w7.cell? ⟨gb180, 5, none⟩ = some (.bool a0_5) := (blk_cell BK180.out 5).trans rfl; have hfz8_0 := blk_frozen BK180.out 0; have hfz8_1 := blk_frozen BK180.out 1; have hfz8_2 := blk_frozen BK180.out 2; have hfz8_3 := blk_frozen BK180.out 3; have hfz8_4 := blk_frozen BK180.out 4; have hfz8_5 := blk_frozen BK180.out 5)))
    (try simp only [Act.put, List.setIfInBounds_toArray, List.set_cons_zero, List.set_cons_succ])
    go_cut [6] (fun v6 wc => ∃ (kq : Nat) (x6_3 : ByteArray), v6 = .string x6_3 ∧ Aside0 (cutroomref19_Format.j0 kq x6_3 a0_0 a0_1 a0_2 a0_3 a0_4 a0_5 = some (r1, r2)) ∧ Aside0 (kq ≤ k) ∧ Aside0 (wc.heap[gb180]? = some (.cells #[.int .i64 a0_0, .int .i64 a0_1, .int .i64 a0_2, .int .i64 a0_3, .int .i64 a0_4, .bool a0_5] 34 (0, 0))) ∧ Aside0 (Below w.heap.size w wc))
    case first =>
      have H := HC4.out
      clear HC4
      by_cases c9 : a0_5 = true
      · subst c9
        have H1 : (cutroomref19_Format.j0 k (⟨#[59]⟩ : ByteArray) a0_0 a0_1 a0_2 a0_3 a0_4 true) = some (r1, r2) := by rw [if_pos rfl] at H; exact H
        clear H
        have H := H1
        clear H1
        have H' := Aside0.mk H
        clear H
        go_wp2
        repeat (go_quiet (fail); try go_wp2)
        go_meet
        case rel => exact ⟨_, ((⟨#[59]⟩ : ByteArray)), (by first | rfl | (simp; done) | (simp [*]; done)), H', ⟨by first | omega | exact Nat.le_refl _⟩, ⟨by (with_reducible repeat (first | refine blk_drewN ?_ _ | refine blk_drew ?_ | refine blk_alloc ?_ _)); exact BK180.out⟩, ⟨by repeat (first | (with_reducible first | exact HB.out | apply below_alloc | apply pw_below_drewN | apply below_drew1 | refine below_set ?_ GE180.out) | exact HB.out)⟩⟩
      · replace c9 := Bool.eq_false_iff.mpr c9
        subst c9
        have H1 : (cutroomref19_Format.j0 k (⟨#[58]⟩ : ByteArray) a0_0 a0_1 a0_2 a0_3 a0_4 false) = some (r1, r2) := by rw [if_neg (show ¬ (false = true) by decide)] at H; exact H
        clear H
        have H := H1
        clear H1
        have H' := Aside0.mk H
        clear H
        go_wp2
        repeat (go_quiet (fail); try go_wp2)
        go_meet
        case rel => exact ⟨_, ((⟨#[58]⟩ : ByteArray)), (by first | rfl | (simp; done) | (simp [*]; done)), H', ⟨by first | omega | exact Nat.le_refl _⟩, ⟨by (with_reducible repeat (first | refine blk_drewN ?_ _ | refine blk_drew ?_ | refine blk_alloc ?_ _)); exact BK180.out⟩, ⟨by repeat (first | (with_reducible first | exact HB.out | apply below_alloc | apply pw_below_drewN | apply below_drew1 | refine below_set ?_ GE180.out) | exact HB.out)⟩⟩
    case rest =>
      clear HC4
      try clear p2
      try clear c3
      try clear c3b0
      try clear c3b1
      try clear c9
      try clear hcz6_0
      try clear hcz6_1
      try clear hcz6_2
      try clear hcz6_3
      try clear hcz6_4
      try clear hcz6_5
      try clear hcz8_0
      try clear hcz8_1
      try clear hcz8_2
      try clear hcz8_3
      try clear hcz8_4
      try clear hcz8_5
      try clear hfz6_0
      try clear hfz6_1
      try clear hfz6_2
      try clear hfz6_3
      try clear hfz6_4
      try clear hfz6_5
      try clear hfz8_0
      try clear hfz8_1
      try clear hfz8_2
      try clear hfz8_3
      try clear hfz8_4
      try clear hfz8_5
      obtain ⟨kq, x6_3, rfl, HA, HJ3, BK180, HB⟩ := hcut
      cases kq with
      | zero => exact absurd HA.out (by simp [cutroomref19_Format.j0])
      | succ kj3 =>
        have H := HA.out
        clear HA
        simp only [cutroomref19_Format.j0] at H
        replace H := Option.bind_eq_some_iff.mp H
        obtain ⟨t183, A100, H⟩ := H
        replace H : (if t183.size + 1 ≤ 9223372036854775807 then ((cutroomref19_two.f a0_1).bind fun t184 => (if t183.size + 1 + t184.size ≤ 9223372036854775807 then (if t183.size + 1 + t184.size + 1 ≤ 9223372036854775807 then ((cutroomref19_two.f a0_2).bind fun t185 => (if t183.size + 1 + t184.size + 1 + t185.size ≤ 9223372036854775807 then (if t183.size + 1 + t184.size + 1 + t185.size + x6_3.size ≤ 9223372036854775807 then ((cutroomref19_two.f a0_3).bind fun t186 => (if t183.size + 1 + t184.size + 1 + t185.size + x6_3.size + t186.size ≤ 9223372036854775807 then (some ((((((t183 ++ (⟨#[58]⟩ : ByteArray)) ++ t184) ++ (⟨#[58]⟩ : ByteArray)) ++ t185) ++ x6_3) ++ t186, 0)) else (none))) else (none)) else (none))) else (none)) else (none))) else (none)) = some (r1, r2) := H
        have A10 := Aside0.mk A100
        clear A100
        by_cases c11 : t183.size + 1 ≤ 9223372036854775807
        · rw [if_pos c11] at H
          have c11b0 := eq_true c11
          have c11b1 : decide (t183.size + 1 ≤ 9223372036854775807) = true := decide_eq_true c11
          try have c11b2 : (9223372036854775807 < t183.size + 1) = False := eq_false (Nat.not_lt.2 c11)
          replace H := Option.bind_eq_some_iff.mp H
          obtain ⟨t184, A120, H⟩ := H
          replace H : (if t183.size + 1 + t184.size ≤ 9223372036854775807 then (if t183.size + 1 + t184.size + 1 ≤ 9223372036854775807 then ((cutroomref19_two.f a0_2).bind fun t185 => (if t183.size + 1 + t184.size + 1 + t185.size ≤ 9223372036854775807 then (if t183.size + 1 + t184.size + 1 + t185.size + x6_3.size ≤ 9223372036854775807 then ((cutroomref19_two.f a0_3).bind fun t186 => (if t183.size + 1 + t184.size + 1 + t185.size + x6_3.size + t186.size ≤ 9223372036854775807 then (some ((((((t183 ++ (⟨#[58]⟩ : ByteArray)) ++ t184) ++ (⟨#[58]⟩ : ByteArray)) ++ t185) ++ x6_3) ++ t186, 0)) else (none))) else (none)) else (none))) else (none)) else (none)) = some (r1, r2) := H
          have A12 := Aside0.mk A120
          clear A120
          by_cases c13 : t183.size + 1 + t184.size ≤ 9223372036854775807
          · rw [if_pos c13] at H
            have c13b0 := eq_true c13
            have c13b1 : decide (t183.size + 1 + t184.size ≤ 9223372036854775807) = true := decide_eq_true c13
            try have c13b2 : (9223372036854775807 < t183.size + 1 + t184.size) = False := eq_false (Nat.not_lt.2 c13)
            by_cases c14 : t183.size + 1 + t184.size + 1 ≤ 9223372036854775807
            · rw [if_pos c14] at H
              have c14b0 := eq_true c14
              have c14b1 : decide (t183.size + 1 + t184.size + 1 ≤ 9223372036854775807) = true := decide_eq_true c14
              try have c14b2 : (9223372036854775807 < t183.size + 1 + t184.size + 1) = False := eq_false (Nat.not_lt.2 c14)
              replace H := Option.bind_eq_some_iff.mp H
              obtain ⟨t185, A150, H⟩ := H
              replace H : (if t183.size + 1 + t184.size + 1 + t185.size ≤ 9223372036854775807 then (if t183.size + 1 + t184.size + 1 + t185.size + x6_3.size ≤ 9223372036854775807 then ((cutroomref19_two.f a0_3).bind fun t186 => (if t183.size + 1 + t184.size + 1 + t185.size + x6_3.size + t186.size ≤ 9223372036854775807 then (some ((((((t183 ++ (⟨#[58]⟩ : ByteArray)) ++ t184) ++ (⟨#[58]⟩ : ByteArray)) ++ t185) ++ x6_3) ++ t186, 0)) else (none))) else (none)) else (none)) = some (r1, r2) := H
              have A15 := Aside0.mk A150
              clear A150
              by_cases c16 : t183.size + 1 + t184.size + 1 + t185.size ≤ 9223372036854775807
              · rw [if_pos c16] at H
                have c16b0 := eq_true c16
                have c16b1 : decide (t183.size + 1 + t184.size + 1 + t185.size ≤ 9223372036854775807) = true := decide_eq_true c16
                try have c16b2 : (9223372036854775807 < t183.size + 1 + t184.size + 1 + t185.size) = False := eq_false (Nat.not_lt.2 c16)
                by_cases c17 : t183.size + 1 + t184.size + 1 + t185.size + x6_3.size ≤ 9223372036854775807
                · rw [if_pos c17] at H
                  have c17b0 := eq_true c17
                  have c17b1 : decide (t183.size + 1 + t184.size + 1 + t185.size + x6_3.size ≤ 9223372036854775807) = true := decide_eq_true c17
                  try have c17b2 : (9223372036854775807 < t183.size + 1 + t184.size + 1 + t185.size + x6_3.size) = False := eq_false (Nat.not_lt.2 c17)
                  replace H := Option.bind_eq_some_iff.mp H
                  obtain ⟨t186, A180, H⟩ := H
                  replace H : (if t183.size + 1 + t184.size + 1 + t185.size + x6_3.size + t186.size ≤ 9223372036854775807 then (some ((((((t183 ++ (⟨#[58]⟩ : ByteArray)) ++ t184) ++ (⟨#[58]⟩ : ByteArray)) ++ t185) ++ x6_3) ++ t186, 0)) else (none)) = some (r1, r2) := H
                  have A18 := Aside0.mk A180
                  clear A180
                  by_cases c19 : t183.size + 1 + t184.size + 1 + t185.size + x6_3.size + t186.size ≤ 9223372036854775807
                  · rw [if_pos c19] at H
                    have c19b0 := eq_true c19
                    have c19b1 : decide (t183.size + 1 + t184.size + 1 + t185.size + x6_3.size + t186.size ≤ 9223372036854775807) = true := decide_eq_true c19
                    try have c19b2 : (9223372036854775807 < t183.size + 1 + t184.size + 1 + t185.size + x6_3.size + t186.size) = False := eq_false (Nat.not_lt.2 c19)
                    simp only [Option.some.injEq, Prod.mk.injEq] at H
                    obtain ⟨rfl, rfl⟩ := H
                    have hcz20_0 : wc.cell? ⟨gb180, 0, none⟩ = some (.int .i64 a0_0) := (blk_cell BK180.out 0).trans rfl
                    have hcz20_1 : wc.cell? ⟨gb180, 1, none⟩ = some (.int .i64 a0_1) := (blk_cell BK180.out 1).trans rfl
                    have hcz20_2 : wc.cell? ⟨gb180, 2, none⟩ = some (.int .i64 a0_2) := (blk_cell BK180.out 2).trans rfl
                    have hcz20_3 : wc.cell? ⟨gb180, 3, none⟩ = some (.int .i64 a0_3) := (blk_cell BK180.out 3).trans rfl
                    have hcz20_4 : wc.cell? ⟨gb180, 4, none⟩ = some (.int .i64 a0_4) := (blk_cell BK180.out 4).trans rfl
                    have hcz20_5 : wc.cell? ⟨gb180, 5, none⟩ = some (.bool a0_5) := (blk_cell BK180.out 5).trans rfl
                    have hfz20_0 := blk_frozen BK180.out 0
                    have hfz20_1 := blk_frozen BK180.out 1
                    have hfz20_2 := blk_frozen BK180.out 2
                    have hfz20_3 := blk_frozen BK180.out 3
                    have hfz20_4 := blk_frozen BK180.out 4
                    have hfz20_5 := blk_frozen BK180.out 5
                    go_wp2_with (first | (go_at_call 46; (with_reducible refine (cutroomref19_two.calls a0_0 t183 _ A10.out).mono ?_); rintro e w' ⟨rfl, ⟨nd, rfl⟩⟩; (try first | exact ⟨rfl, _, World.drewN_drewN _ _ _⟩ | exact ⟨rfl, _, Eq.trans (World.drewN_drewN _ _ _) (congrArg (World.drewN _) (Nat.add_assoc _ _ _))⟩)) | (go_at_call 46; (with_reducible refine (cutroomref19_two.calls a0_1 t184 _ A12.out).mono ?_); rintro e w' ⟨rfl, ⟨nd, rfl⟩⟩; (try first | exact ⟨rfl, _, World.drewN_drewN _ _ _⟩ | exact ⟨rfl, _, Eq.trans (World.drewN_drewN _ _ _) (congrArg (World.drewN _) (Nat.add_assoc _ _ _))⟩)) | (go_at_call 46; (with_reducible refine (cutroomref19_two.calls a0_2 t185 _ A15.out).mono ?_); rintro e w' ⟨rfl, ⟨nd, rfl⟩⟩; (try first | exact ⟨rfl, _, World.drewN_drewN _ _ _⟩ | exact ⟨rfl, _, Eq.trans (World.drewN_drewN _ _ _) (congrArg (World.drewN _) (Nat.add_assoc _ _ _))⟩)) | (go_at_call 46; (with_reducible refine (cutroomref19_two.calls a0_3 t186 _ A18.out).mono ?_); rintro e w' ⟨rfl, ⟨nd, rfl⟩⟩; (try first | exact ⟨rfl, _, World.drewN_drewN _ _ _⟩ | exact ⟨rfl, _, Eq.trans (World.drewN_drewN _ _ _) (congrArg (World.drewN _) (Nat.add_assoc _ _ _))⟩)))
                    repeat (go_quiet (first | (go_at_call 46; (with_reducible refine (cutroomref19_two.calls a0_0 t183 _ A10.out).mono ?_); rintro e w' ⟨rfl, ⟨nd, rfl⟩⟩; (try first | exact ⟨rfl, _, World.drewN_drewN _ _ _⟩ | exact ⟨rfl, _, Eq.trans (World.drewN_drewN _ _ _) (congrArg (World.drewN _) (Nat.add_assoc _ _ _))⟩)) | (go_at_call 46; (with_reducible refine (cutroomref19_two.calls a0_1 t184 _ A12.out).mono ?_); rintro e w' ⟨rfl, ⟨nd, rfl⟩⟩; (try first | exact ⟨rfl, _, World.drewN_drewN _ _ _⟩ | exact ⟨rfl, _, Eq.trans (World.drewN_drewN _ _ _) (congrArg (World.drewN _) (Nat.add_assoc _ _ _))⟩)) | (go_at_call 46; (with_reducible refine (cutroomref19_two.calls a0_2 t185 _ A15.out).mono ?_); rintro e w' ⟨rfl, ⟨nd, rfl⟩⟩; (try first | exact ⟨rfl, _, World.drewN_drewN _ _ _⟩ | exact ⟨rfl, _, Eq.trans (World.drewN_drewN _ _ _) (congrArg (World.drewN _) (Nat.add_assoc _ _ _))⟩)) | (go_at_call 46; (with_reducible refine (cutroomref19_two.calls a0_3 t186 _ A18.out).mono ?_); rintro e w' ⟨rfl, ⟨nd, rfl⟩⟩; (try first | exact ⟨rfl, _, World.drewN_drewN _ _ _⟩ | exact ⟨rfl, _, Eq.trans (World.drewN_drewN _ _ _) (congrArg (World.drewN _) (Nat.add_assoc _ _ _))⟩))); try go_wp2_with (first | (go_at_call 46; (with_reducible refine (cutroomref19_two.calls a0_0 t183 _ A10.out).mono ?_); rintro e w' ⟨rfl, ⟨nd, rfl⟩⟩; (try first | exact ⟨rfl, _, World.drewN_drewN _ _ _⟩ | exact ⟨rfl, _, Eq.trans (World.drewN_drewN _ _ _) (congrArg (World.drewN _) (Nat.add_assoc _ _ _))⟩)) | (go_at_call 46; (with_reducible refine (cutroomref19_two.calls a0_1 t184 _ A12.out).mono ?_); rintro e w' ⟨rfl, ⟨nd, rfl⟩⟩; (try first | exact ⟨rfl, _, World.drewN_drewN _ _ _⟩ | exact ⟨rfl, _, Eq.trans (World.drewN_drewN _ _ _) (congrArg (World.drewN _) (Nat.add_assoc _ _ _))⟩)) | (go_at_call 46; (with_reducible refine (cutroomref19_two.calls a0_2 t185 _ A15.out).mono ?_); rintro e w' ⟨rfl, ⟨nd, rfl⟩⟩; (try first | exact ⟨rfl, _, World.drewN_drewN _ _ _⟩ | exact ⟨rfl, _, Eq.trans (World.drewN_drewN _ _ _) (congrArg (World.drewN _) (Nat.add_assoc _ _ _))⟩)) | (go_at_call 46; (with_reducible refine (cutroomref19_two.calls a0_3 t186 _ A18.out).mono ?_); rintro e w' ⟨rfl, ⟨nd, rfl⟩⟩; (try first | exact ⟨rfl, _, World.drewN_drewN _ _ _⟩ | exact ⟨rfl, _, Eq.trans (World.drewN_drewN _ _ _) (congrArg (World.drewN _) (Nat.add_assoc _ _ _))⟩))))
                    go_ret2
                    exact ⟨by first | rfl | (simp [errW_none, errW_some] <;> rfl) | (simp [*, errW_none, errW_some] <;> rfl), by repeat (first | (with_reducible first | exact HB.out | apply below_alloc | apply pw_below_drewN | apply below_drew1 | refine below_set ?_ GE180.out) | exact HB.out)⟩
                  · rw [if_neg c19] at H
                    exact absurd H (by simp)
                · rw [if_neg c17] at H
                  exact absurd H (by simp)
              · rw [if_neg c16] at H
                exact absurd H (by simp)
            · rw [if_neg c14] at H
              exact absurd H (by simp)
          · rw [if_neg c13] at H
            exact absurd H (by simp)
        · rw [if_neg c11] at H
          exact absurd H (by simp)
  · rw [if_neg c3] at H
    have c3b0 : (t182 == 0) = false := beq_eq_false_iff_ne.mpr c3
    have c3b1 : (t182 != 0) = true := bne_iff_ne.mpr c3
    simp only [Option.some.injEq, Prod.mk.injEq] at H
    obtain ⟨rfl, rfl⟩ := H
    go_enter Try.func31, Try.ntmps31
    go_wp2_with (first | ((with_reducible refine gate_dst (N := 1) rfl ?_); refine box_event ?hg (N := 1) ?hd (cs := #[.int .i64 a0_0, .int .i64 a0_1, .int .i64 a0_2, .int .i64 a0_3, .int .i64 a0_4, .bool a0_5]) (t := 34) ?hr ?_; (case hd => rfl); (case hg => rfl); (case hr => first | (go_simp; done) | (go_simp; rfl)); intro gb180 hg w21 hbox hb; have n0_ := Aside0.mk (below_step (by repeat (first | (with_reducible first | exact HB.out | apply below_alloc | apply pw_below_drewN | apply below_drew1) | exact HB.out)) hb); have n1_ := Aside0.mk (hbox); have n2_ := Aside0.mk ((by rw [hg]; exact (below_size (by repeat (first | (with_reducible first | exact HB.out | apply below_alloc | apply pw_below_drewN | apply below_drew1) | exact HB.out))) : w.heap.size ≤ gb180)); have n3_ := Aside0.mk ((by rw [hg]; exact (below_size (by repeat (first | (with_reducible first | exact HB.out | apply below_alloc | apply pw_below_drewN | apply below_drew1) | exact HB.out))) : w.heap.size ≤ gb180)); clear HB; have HB := n0_; have BK180 := n1_; have GW180 := n2_; have GE180 := n3_; clear n0_ n1_ n2_ n3_; clear hb hbox hg; have hcz22_0 : w21.cell? ⟨gb180, 0, none⟩ = some (.int .i64 a0_0) := (blk_cell BK180.out 0).trans rfl; have hcz22_1 : w21.cell? ⟨gb180, 1, none⟩ = some (.int .i64 a0_1) := (blk_cell BK180.out 1).trans rfl; have hcz22_2 : w21.cell? ⟨gb180, 2, none⟩ = some (.int .i64 a0_2) := (blk_cell BK180.out 2).trans rfl; have hcz22_3 : w21.cell? ⟨gb180, 3, none⟩ = some (.int .i64 a0_3) := (blk_cell BK180.out 3).trans rfl; have hcz22_4 : w21.cell? ⟨gb180, 4, none⟩ = some (.int .i64 a0_4) := (blk_cell BK180.out 4).trans rfl; have hcz22_5 : w21.cell? ⟨gb180, 5, none⟩ = some (.bool a0_5) := (blk_cell BK180.out 5).trans rfl; have hfz22_0 := blk_frozen BK180.out 0; have hfz22_1 := blk_frozen BK180.out 1; have hfz22_2 := blk_frozen BK180.out 2; have hfz22_3 := blk_frozen BK180.out 3; have hfz22_4 := blk_frozen BK180.out 4; have hfz22_5 := blk_frozen BK180.out 5) | (go_at_call 26; (with_reducible refine (cutroomref19_Number.calls k a0_0 a0_1 a0_2 a0_3 a0_4 a0_5 t181 t182 _ A2.out).mono ?_); rintro e w23 ⟨rfl, hb⟩; have n0_ := Aside0.mk (blk_below (g := gb180) (o := .cells #[.int .i64 a0_0, .int .i64 a0_1, .int .i64 a0_2, .int .i64 a0_3, .int .i64 a0_4, .bool a0_5] 34 (0, 0)) (by (with_reducible repeat (first | refine blk_drewN ?_ _ | refine blk_drew ?_ | refine blk_alloc ?_ _)); exact BK180.out) hb); have n1_ := Aside0.mk (below_step (by repeat (first | (with_reducible first | exact HB.out | apply below_alloc | apply pw_below_drewN | apply below_drew1 | refine below_set ?_ GE180.out) | exact HB.out)) hb); clear BK180; clear HB; have BK180 := n0_; have HB := n1_; clear n0_ n1_; (try clear hb); (try clear hb2); (try clear hk); (try clear hi)))
    repeat (go_quiet (first | ((with_reducible refine gate_dst (N := 1) rfl ?_); refine box_event ?hg (N := 1) ?hd (cs := #[.int .i64 a0_0, .int .i64 a0_1, .int .i64 a0_2, .int .i64 a0_3, .int .i64 a0_4, .bool a0_5]) (t := 34) ?hr ?_; (case hd => rfl); (case hg => rfl); (case hr => first | (go_simp; done) | (go_simp; rfl)); intro gb180 hg w21 hbox hb; have n0_ := Aside0.mk (below_step (by repeat (first | (with_reducible first | exact HB.out | apply below_alloc | apply pw_below_drewN | apply below_drew1) | exact HB.out)) hb); have n1_ := Aside0.mk (hbox); have n2_ := Aside0.mk ((by rw [hg]; exact (below_size (by repeat (first | (with_reducible first | exact HB.out | apply below_alloc | apply pw_below_drewN | apply below_drew1) | exact HB.out))) : w.heap.size ≤ gb180)); have n3_ := Aside0.mk ((by rw [hg]; exact (below_size (by repeat (first | (with_reducible first | exact HB.out | apply below_alloc | apply pw_below_drewN | apply below_drew1) | exact HB.out))) : w.heap.size ≤ gb180)); clear HB; have HB := n0_; have BK180 := n1_; have GW180 := n2_; have GE180 := n3_; clear n0_ n1_ n2_ n3_; clear hb hbox hg; have hcz22_0 : w21.cell? ⟨gb180, 0, none⟩ = some (.int .i64 a0_0) := (blk_cell BK180.out 0).trans rfl; have hcz22_1 : w21.cell? ⟨gb180, 1, none⟩ = some (.int .i64 a0_1) := (blk_cell BK180.out 1).trans rfl; have hcz22_2 : w21.cell? ⟨gb180, 2, none⟩ = some (.int .i64 a0_2) := (blk_cell BK180.out 2).trans rfl; have hcz22_3 : w21.cell? ⟨gb180, 3, none⟩ = some (.int .i64 a0_3) := (blk_cell BK180.out 3).trans rfl; have hcz22_4 : w21.cell? ⟨gb180, 4, none⟩ = some (.int .i64 a0_4) := (blk_cell BK180.out 4).trans rfl; have hcz22_5 : w21.cell? ⟨gb180, 5, none⟩ = some (.bool a0_5) := (blk_cell BK180.out 5).trans rfl; have hfz22_0 := blk_frozen BK180.out 0; have hfz22_1 := blk_frozen BK180.out 1; have hfz22_2 := blk_frozen BK180.out 2; have hfz22_3 := blk_frozen BK180.out 3; have hfz22_4 := blk_frozen BK180.out 4; have hfz22_5 := blk_frozen BK180.out 5) | (go_at_call 26; (with_reducible refine (cutroomref19_Number.calls k a0_0 a0_1 a0_2 a0_3 a0_4 a0_5 t181 t182 _ A2.out).mono ?_); rintro e w23 ⟨rfl, hb⟩; have n0_ := Aside0.mk (blk_below (g := gb180) (o := .cells #[.int .i64 a0_0, .int .i64 a0_1, .int .i64 a0_2, .int .i64 a0_3, .int .i64 a0_4, .bool a0_5] 34 (0, 0)) (by (with_reducible repeat (first | refine blk_drewN ?_ _ | refine blk_drew ?_ | refine blk_alloc ?_ _)); exact BK180.out) hb); have n1_ := Aside0.mk (below_step (by repeat (first | (with_reducible first | exact HB.out | apply below_alloc | apply pw_below_drewN | apply below_drew1 | refine below_set ?_ GE180.out) | exact HB.out)) hb); clear BK180; clear HB; have BK180 := n0_; have HB := n1_; clear n0_ n1_; (try clear hb); (try clear hb2); (try clear hk); (try clear hi))); try go_wp2_with (first | ((with_reducible refine gate_dst (N := 1) rfl ?_); refine box_event ?hg (N := 1) ?hd (cs := #[.int .i64 a0_0, .int .i64 a0_1, .int .i64 a0_2, .int .i64 a0_3, .int .i64 a0_4, .bool a0_5]) (t := 34) ?hr ?_; (case hd => rfl); (case hg => rfl); (case hr => first | (go_simp; done) | (go_simp; rfl)); intro gb180 hg w21 hbox hb; have n0_ := Aside0.mk (below_step (by repeat (first | (with_reducible first | exact HB.out | apply below_alloc | apply pw_below_drewN | apply below_drew1) | exact HB.out)) hb); have n1_ := Aside0.mk (hbox); have n2_ := Aside0.mk ((by rw [hg]; exact (below_size (by repeat (first | (with_reducible first | exact HB.out | apply below_alloc | apply pw_below_drewN | apply below_drew1) | exact HB.out))) : w.heap.size ≤ gb180)); have n3_ := Aside0.mk ((by rw [hg]; exact (below_size (by repeat (first | (with_reducible first | exact HB.out | apply below_alloc | apply pw_below_drewN | apply below_drew1) | exact HB.out))) : w.heap.size ≤ gb180)); clear HB; have HB := n0_; have BK180 := n1_; have GW180 := n2_; have GE180 := n3_; clear n0_ n1_ n2_ n3_; clear hb hbox hg; have hcz22_0 : w21.cell? ⟨gb180, 0, none⟩ = some (.int .i64 a0_0) := (blk_cell BK180.out 0).trans rfl; have hcz22_1 : w21.cell? ⟨gb180, 1, none⟩ = some (.int .i64 a0_1) := (blk_cell BK180.out 1).trans rfl; have hcz22_2 : w21.cell? ⟨gb180, 2, none⟩ = some (.int .i64 a0_2) := (blk_cell BK180.out 2).trans rfl; have hcz22_3 : w21.cell? ⟨gb180, 3, none⟩ = some (.int .i64 a0_3) := (blk_cell BK180.out 3).trans rfl; have hcz22_4 : w21.cell? ⟨gb180, 4, none⟩ = some (.int .i64 a0_4) := (blk_cell BK180.out 4).trans rfl; have hcz22_5 : w21.cell? ⟨gb180, 5, none⟩ = some (.bool a0_5) := (blk_cell BK180.out 5).trans rfl; have hfz22_0 := blk_frozen BK180.out 0; have hfz22_1 := blk_frozen BK180.out 1; have hfz22_2 := blk_frozen BK180.out 2; have hfz22_3 := blk_frozen BK180.out 3; have hfz22_4 := blk_frozen BK180.out 4; have hfz22_5 := blk_frozen BK180.out 5) | (go_at_call 26; (with_reducible refine (cutroomref19_Number.calls k a0_0 a0_1 a0_2 a0_3 a0_4 a0_5 t181 t182 _ A2.out).mono ?_); rintro e w23 ⟨rfl, hb⟩; have n0_ := Aside0.mk (blk_below (g := gb180) (o := .cells #[.int .i64 a0_0, .int .i64 a0_1, .int .i64 a0_2, .int .i64 a0_3, .int .i64 a0_4, .bool a0_5] 34 (0, 0)) (by (with_reducible repeat (first | refine blk_drewN ?_ _ | refine blk_drew ?_ | refine blk_alloc ?_ _)); exact BK180.out) hb); have n1_ := Aside0.mk (below_step (by repeat (first | (with_reducible first | exact HB.out | apply below_alloc | apply pw_below_drewN | apply below_drew1 | refine below_set ?_ GE180.out) | exact HB.out)) hb); clear BK180; clear HB; have BK180 := n0_; have HB := n1_; clear n0_ n1_; (try clear hb); (try clear hb2); (try clear hk); (try clear hi))))
    go_ret2
    exact ⟨by first | rfl | (simp [errW_none, errW_some] <;> rfl) | (simp [*, errW_none, errW_some] <;> rfl), by repeat (first | (with_reducible first | exact HB.out | apply below_alloc | apply pw_below_drewN | apply below_drew1 | refine below_set ?_ GE180.out) | exact HB.out)⟩

/-! ### timecode_digits: function 47 -/
def timecode_digits.f (a0 : ByteArray) : Option (Int × Bool) := if 0 < (a0.size : Int) then (if 1 < (a0.size : Int) then (if (bt a0 0) < 48 then (some (0, false)) else (if (bt a0 0) > 57 then (some (0, false)) else (if (bt a0 1) < 48 then (some (0, false)) else (if (bt a0 1) > 57 then (some (0, false)) else (some (((((bt a0 0) - 48) % 256) * 10) + (((bt a0 1) - 48) % 256), true)))))) else (none)) else (none)
set_option maxHeartbeats 8000000 in
set_option maxRecDepth 100000 in
theorem timecode_digits.calls (a0 : ByteArray) (r1 : Int) (r2 : Bool) (w : World) (h : timecode_digits.f a0 = some (r1, r2)) :
    Calls Try.prog 47 #[.string a0] w fun e w' => e = .returned (.tuple #[.int .i64 r1, .bool r2]) ∧ Drawn0 w w' := by
  have H : (if 0 < (a0.size : Int) then (if 1 < (a0.size : Int) then (if (bt a0 0) < 48 then (some (0, false)) else (if (bt a0 0) > 57 then (some (0, false)) else (if (bt a0 1) < 48 then (some (0, false)) else (if (bt a0 1) > 57 then (some (0, false)) else (some (((((bt a0 0) - 48) % 256) * 10) + (((bt a0 1) - 48) % 256), true)))))) else (none)) else (none)) = some (r1, r2) := h
  clear h
  by_cases c2 : 0 < (a0.size : Int)
  · rw [if_pos c2] at H
    have c2b0 : decide (0 < (a0.size : Int)) = true := decide_eq_true c2
    have c2b1 : decide (0 < a0.size) = true := decide_eq_true (by omega)
    clear c2
    by_cases c4 : 1 < (a0.size : Int)
    · rw [if_pos c4] at H
      have c4b0 : decide (1 < (a0.size : Int)) = true := decide_eq_true c4
      have c4b1 : decide (1 < a0.size) = true := decide_eq_true (by omega)
      clear c4
      by_cases c6 : (bt a0 0) < 48
      · rw [if_pos c6] at H
        have c6b0 : decide ((bt a0 0) < 48) = true := decide_eq_true c6
        clear c6
        simp only [Option.some.injEq, Prod.mk.injEq] at H
        obtain ⟨rfl, rfl⟩ := H
        have p3 : 0 ≤ (0 : Int) := (by omega)
        have q3 : 0 < a0.size := (by have : (0 : Int) < (a0.size : Int) := of_decide_eq_true (by first | (with_reducible assumption) | assumption); omega)
        have hx3 : ∀ h : 0 < a0.size, ((a0[0]'h).toNat : Int) = bt a0 0 := bt_at a0 0
        clear p3
        have qi3 : (0 < (a0.size : Int)) = True := eq_true (of_decide_eq_true (by first | (with_reducible assumption) | assumption))
        replace q3 := eq_true q3
        have p5 : 0 ≤ (1 : Int) := (by omega)
        have q5 : 1 < a0.size := (by have : (1 : Int) < (a0.size : Int) := of_decide_eq_true (by first | (with_reducible assumption) | assumption); omega)
        have hx5 : ∀ h : 1 < a0.size, ((a0[1]'h).toNat : Int) = bt a0 1 := bt_at a0 1
        clear p5
        have qi5 : (1 < (a0.size : Int)) = True := eq_true (of_decide_eq_true (by first | (with_reducible assumption) | assumption))
        replace q5 := eq_true q5
        go_enter Try.func47, Try.ntmps47
        go_wp2
        repeat (go_quiet (fail); try go_wp2)
        go_ret2
        exact ⟨by first | rfl | (simp; done) | (simp [*]; done), by repeat (first | exact Drawn0.refl _ | apply Drawn0.step)⟩
      · rw [if_neg c6] at H
        have c6b0 : decide ((bt a0 0) < 48) = false := decide_eq_false c6
        clear c6
        by_cases c7 : (bt a0 0) > 57
        · rw [if_pos c7] at H
          have c7b0 : decide (57 < (bt a0 0)) = true := decide_eq_true c7
          clear c7
          simp only [Option.some.injEq, Prod.mk.injEq] at H
          obtain ⟨rfl, rfl⟩ := H
          have p3 : 0 ≤ (0 : Int) := (by omega)
          have q3 : 0 < a0.size := (by have : (0 : Int) < (a0.size : Int) := of_decide_eq_true (by first | (with_reducible assumption) | assumption); omega)
          have hx3 : ∀ h : 0 < a0.size, ((a0[0]'h).toNat : Int) = bt a0 0 := bt_at a0 0
          clear p3
          have qi3 : (0 < (a0.size : Int)) = True := eq_true (of_decide_eq_true (by first | (with_reducible assumption) | assumption))
          replace q3 := eq_true q3
          have p5 : 0 ≤ (1 : Int) := (by omega)
          have q5 : 1 < a0.size := (by have : (1 : Int) < (a0.size : Int) := of_decide_eq_true (by first | (with_reducible assumption) | assumption); omega)
          have hx5 : ∀ h : 1 < a0.size, ((a0[1]'h).toNat : Int) = bt a0 1 := bt_at a0 1
          clear p5
          have qi5 : (1 < (a0.size : Int)) = True := eq_true (of_decide_eq_true (by first | (with_reducible assumption) | assumption))
          replace q5 := eq_true q5
          go_enter Try.func47, Try.ntmps47
          go_wp2
          repeat (go_quiet (fail); try go_wp2)
          go_ret2
          exact ⟨by first | rfl | (simp; done) | (simp [*]; done), by repeat (first | exact Drawn0.refl _ | apply Drawn0.step)⟩
        · rw [if_neg c7] at H
          have c7b0 : decide (57 < (bt a0 0)) = false := decide_eq_false c7
          clear c7
          by_cases c8 : (bt a0 1) < 48
          · rw [if_pos c8] at H
            have c8b0 : decide ((bt a0 1) < 48) = true := decide_eq_true c8
            clear c8
            simp only [Option.some.injEq, Prod.mk.injEq] at H
            obtain ⟨rfl, rfl⟩ := H
            have p3 : 0 ≤ (0 : Int) := (by omega)
            have q3 : 0 < a0.size := (by have : (0 : Int) < (a0.size : Int) := of_decide_eq_true (by first | (with_reducible assumption) | assumption); omega)
            have hx3 : ∀ h : 0 < a0.size, ((a0[0]'h).toNat : Int) = bt a0 0 := bt_at a0 0
            clear p3
            have qi3 : (0 < (a0.size : Int)) = True := eq_true (of_decide_eq_true (by first | (with_reducible assumption) | assumption))
            replace q3 := eq_true q3
            have p5 : 0 ≤ (1 : Int) := (by omega)
            have q5 : 1 < a0.size := (by have : (1 : Int) < (a0.size : Int) := of_decide_eq_true (by first | (with_reducible assumption) | assumption); omega)
            have hx5 : ∀ h : 1 < a0.size, ((a0[1]'h).toNat : Int) = bt a0 1 := bt_at a0 1
            clear p5
            have qi5 : (1 < (a0.size : Int)) = True := eq_true (of_decide_eq_true (by first | (with_reducible assumption) | assumption))
            replace q5 := eq_true q5
            go_enter Try.func47, Try.ntmps47
            go_wp2
            repeat (go_quiet (fail); try go_wp2)
            go_ret2
            exact ⟨by first | rfl | (simp; done) | (simp [*]; done), by repeat (first | exact Drawn0.refl _ | apply Drawn0.step)⟩
          · rw [if_neg c8] at H
            have c8b0 : decide ((bt a0 1) < 48) = false := decide_eq_false c8
            clear c8
            by_cases c9 : (bt a0 1) > 57
            · rw [if_pos c9] at H
              have c9b0 : decide (57 < (bt a0 1)) = true := decide_eq_true c9
              clear c9
              simp only [Option.some.injEq, Prod.mk.injEq] at H
              obtain ⟨rfl, rfl⟩ := H
              have p3 : 0 ≤ (0 : Int) := (by omega)
              have q3 : 0 < a0.size := (by have : (0 : Int) < (a0.size : Int) := of_decide_eq_true (by first | (with_reducible assumption) | assumption); omega)
              have hx3 : ∀ h : 0 < a0.size, ((a0[0]'h).toNat : Int) = bt a0 0 := bt_at a0 0
              clear p3
              have qi3 : (0 < (a0.size : Int)) = True := eq_true (of_decide_eq_true (by first | (with_reducible assumption) | assumption))
              replace q3 := eq_true q3
              have p5 : 0 ≤ (1 : Int) := (by omega)
              have q5 : 1 < a0.size := (by have : (1 : Int) < (a0.size : Int) := of_decide_eq_true (by first | (with_reducible assumption) | assumption); omega)
              have hx5 : ∀ h : 1 < a0.size, ((a0[1]'h).toNat : Int) = bt a0 1 := bt_at a0 1
              clear p5
              have qi5 : (1 < (a0.size : Int)) = True := eq_true (of_decide_eq_true (by first | (with_reducible assumption) | assumption))
              replace q5 := eq_true q5
              go_enter Try.func47, Try.ntmps47
              go_wp2
              repeat (go_quiet (fail); try go_wp2)
              go_ret2
              exact ⟨by first | rfl | (simp; done) | (simp [*]; done), by repeat (first | exact Drawn0.refl _ | apply Drawn0.step)⟩
            · rw [if_neg c9] at H
              have c9b0 : decide (57 < (bt a0 1)) = false := decide_eq_false c9
              clear c9
              simp only [Option.some.injEq, Prod.mk.injEq] at H
              obtain ⟨rfl, rfl⟩ := H
              have p3 : 0 ≤ (0 : Int) := (by omega)
              have q3 : 0 < a0.size := (by have : (0 : Int) < (a0.size : Int) := of_decide_eq_true (by first | (with_reducible assumption) | assumption); omega)
              have hx3 : ∀ h : 0 < a0.size, ((a0[0]'h).toNat : Int) = bt a0 0 := bt_at a0 0
              clear p3
              have qi3 : (0 < (a0.size : Int)) = True := eq_true (of_decide_eq_true (by first | (with_reducible assumption) | assumption))
              replace q3 := eq_true q3
              have p5 : 0 ≤ (1 : Int) := (by omega)
              have q5 : 1 < a0.size := (by have : (1 : Int) < (a0.size : Int) := of_decide_eq_true (by first | (with_reducible assumption) | assumption); omega)
              have hx5 : ∀ h : 1 < a0.size, ((a0[1]'h).toNat : Int) = bt a0 1 := bt_at a0 1
              clear p5
              have qi5 : (1 < (a0.size : Int)) = True := eq_true (of_decide_eq_true (by first | (with_reducible assumption) | assumption))
              replace q5 := eq_true q5
              go_enter Try.func47, Try.ntmps47
              go_wp2
              repeat (go_quiet (fail); try go_wp2)
              go_ret2
              exact ⟨by first | rfl | (simp; done) | (simp [*]; done), by repeat (first | exact Drawn0.refl _ | apply Drawn0.step)⟩
    · rw [if_neg c4] at H
      exact absurd H (by simp)
  · rw [if_neg c2] at H
    exact absurd H (by simp)


/-! ### timecode_Parse: function 32 -/
def timecode_Parse.f (k : Nat) (a0 : ByteArray) (a1 : Int) : Option (Int × Int × Int × Int × Int × Bool × Int) :=
  if a0.size = 11 then (if bt a0 2 = 58 then (if bt a0 5 = 58 then (
    (timecode_isBase.f k a1).bind fun t => (if t = true then (
    (timecode_digits.f (a0.extract 0 2)).bind fun p0 => (if p0.2 = true then (
    (timecode_digits.f (a0.extract 3 5)).bind fun p1 => (if p1.2 = true then (
    (timecode_digits.f (a0.extract 6 8)).bind fun p2 => (if p2.2 = true then (
    (timecode_digits.f (a0.extract 9 11)).bind fun p3 => (if p3.2 = true then (
    if bt a0 8 = 59 then ((timecode_Number.f k p0.1 p1.1 p2.1 p3.1 a1 true).bind fun q => (if q.2 = 0 then (some (p0.1, p1.1, p2.1, p3.1, a1, true, 0)) else (none)))
    else (if bt a0 8 = 58 then ((timecode_Number.f k p0.1 p1.1 p2.1 p3.1 a1 false).bind fun q => (if q.2 = 0 then (some (p0.1, p1.1, p2.1, p3.1, a1, false, 0)) else (none))) else (none))) else (none))) else (none))) else (none))) else (none))) else (none))) else (none)) else (none)) else (none)
theorem timecode_Parse.mono : ∀ a0 a1 k, LeO (timecode_Parse.f k a0 a1) (timecode_Parse.f (k + 1) a0 a1) := by
  intro a0 a1 k
  unfold timecode_Parse.f
  repeat' first
      | (with_reducible exact timecode_Number.mono _ _ _ _ _ _ _)
      | (with_reducible exact timecode_isBase.mono _ _)
      | (with_reducible exact LeO.refl _)
      | (with_reducible exact LeO.none _)
      | (with_reducible refine LeO.ite ?_ ?_)
      | (with_reducible refine LeO.bind ?_ (fun _ => ?_))
set_option maxHeartbeats 2000000 in
set_option maxRecDepth 100000 in
theorem timecode_Parse.way0 (k : Nat) (s : ByteArray) (b d0 d1 d2 d3 : Int) (w : World) (hsz : s.size = 11) (hb : timecode_isBase.f k b = some true)
    (c2 : (bt s 2 != 58) = false) (c5 : (bt s 5 != 58) = false) (c8 : (bt s 8 != 58) = false) (c8'' : (bt s 8 == 59) = false)
    (e0 : timecode_digits.f (s.extract 0 2) = some (d0, true)) (e1 : timecode_digits.f (s.extract 3 5) = some (d1, true)) (e2 : timecode_digits.f (s.extract 6 8) = some (d2, true)) (e3 : timecode_digits.f (s.extract 9 11) = some (d3, true))
    (n : Int) (hn : timecode_Number.f k d0 d1 d2 d3 b false = some (n, 0)) :
    Calls Try.prog 32 #[.string s, .int .i64 b] w fun e w' => e = .returned (.tuple #[.agg #[.int .i64 d0, .int .i64 d1, .int .i64 d2, .int .i64 d3, .int .i64 b, .bool false], .int .i64 0]) ∧ Below w.heap.size w w' := by
  have hu34 := Try.underlying34
  have HB := Aside0.mk hb
  have E0 := Aside0.mk e0
  have E1 := Aside0.mk e1
  have E2 := Aside0.mk e2
  have E3 := Aside0.mk e3
  have HN := Aside0.mk hn
  have hx2 : ∀ h : 2 < s.size, ((s[2]'h).toNat : Int) = bt s 2 := bt_at s 2
  have hx5 : ∀ h : 5 < s.size, ((s[5]'h).toNat : Int) = bt s 5 := bt_at s 5
  have hx8 : ∀ h : 8 < s.size, ((s[8]'h).toNat : Int) = bt s 8 := bt_at s 8
  clear hb e0 e1 e2 e3 hn
  go_enter Try.func32, Try.ntmps32
  go_wp2_with (go_at_call 39; refine (timecode_isBase.calls k b true _ HB.out).mono ?_; rintro e w1 ⟨rfl, hd1⟩)
  refine wp_loop_rounds 5 ?_
  rw [rounds_succ]
  go_wp2_with (go_at_call 47; refine (timecode_digits.calls (s.extract 0 2) d0 true _ E0.out).mono ?_; rintro e w2 ⟨rfl, hd⟩; obtain ⟨n0, rfl⟩ := hd.out; clear hd)
  rw [rounds_succ]
  go_wp2_with (go_at_call 47; refine (timecode_digits.calls (s.extract 3 5) d1 true _ E1.out).mono ?_; rintro e w2 ⟨rfl, hd⟩; obtain ⟨n1, rfl⟩ := hd.out; clear hd)
  rw [rounds_succ]
  go_wp2_with (go_at_call 47; refine (timecode_digits.calls (s.extract 6 8) d2 true _ E2.out).mono ?_; rintro e w2 ⟨rfl, hd⟩; obtain ⟨n2, rfl⟩ := hd.out; clear hd)
  rw [rounds_succ]
  go_wp2_with (go_at_call 47; refine (timecode_digits.calls (s.extract 9 11) d3 true _ E3.out).mono ?_; rintro e w2 ⟨rfl, hd⟩; obtain ⟨n3, rfl⟩ := hd.out; clear hd)
  rw [rounds_succ]
  go_wp2
  have hs1 := hd1.size
  obtain ⟨W, hW⟩ : ∃ W : World, W = ((((((((w1.alloc (Obj.cells #[Value.int IntKind.i64 0, Value.int IntKind.i64 0, Value.int IntKind.i64 0, Value.int IntKind.i64 0] 63)).drewN n0).setCell { block := w1.heap.size, off := 0 } (Value.int IntKind.i64 d0)).drewN n1).setCell { block := w1.heap.size, off := 1 } (Value.int IntKind.i64 d1)).drewN n2).setCell { block := w1.heap.size, off := 2 } (Value.int IntKind.i64 d2)).drewN n3).setCell { block := w1.heap.size, off := 3 } (Value.int IntKind.i64 d3) := ⟨_, rfl⟩
  have q0 : W.cell? ⟨w1.heap.size, 0, none⟩ = some (.int .i64 d0) := by rw [hW]; go_simp
  have q1 : W.cell? ⟨w1.heap.size, 1, none⟩ = some (.int .i64 d1) := by rw [hW]; go_simp
  have q2 : W.cell? ⟨w1.heap.size, 2, none⟩ = some (.int .i64 d2) := by rw [hW]; go_simp
  have q3 : W.cell? ⟨w1.heap.size, 3, none⟩ = some (.int .i64 d3) := by rw [hW]; go_simp
  have q8 : W.heap.size = w1.heap.size + 1 := by rw [hW]; simp
  have b0 := blk_below (blk_new w (Obj.cells #[Value.int .i64 0, .int .i64 0, .int .i64 0, .int .i64 0, .int .i64 0, .bool false] 34)) hd1
  have hne : w.heap.size ≠ w1.heap.size := by simp at hs1; omega
  have BT : W.heap[w.heap.size]? = some (.cells #[Value.int .i64 0, .int .i64 0, .int .i64 0, .int .i64 0, .int .i64 0, .bool false] 34 (0, 0)) := by
    rw [hW]
    exact blk_far (blk_drewN (blk_far (blk_drewN (blk_far (blk_drewN (blk_far (blk_drewN (blk_alloc b0 _) _) hne _) _) hne _) _) hne _) _) hne _
  have hBW : Below w.heap.size w W := by
    rw [hW]
    have hle : w.heap.size ≤ w1.heap.size := by simp at hs1; omega
    exact below_set (pw_below_drewN (below_set (pw_below_drewN (below_set (pw_below_drewN (below_set (pw_below_drewN (below_alloc (below_step (below_alloc (Below.refl _ _) _) hd1) _) _) hle) _) hle) _) hle) _) hle
  rw [← hW]
  clear hW
  go_region
  go_wp2_with fail
  have hB2 : Below w.heap.size w (W.alloc (Obj.cells #[.int .i64 d0, .int .i64 d1, .int .i64 d2, .int .i64 d3, .int .i64 b, .bool false] 34)).drew := below_drew (below_alloc hBW _)
  have BT2 := blk_drew (blk_alloc BT (Obj.cells #[.int .i64 d0, .int .i64 d1, .int .i64 d2, .int .i64 d3, .int .i64 b, .bool false] 34))
  have BN2 := blk_drew (blk_new W (Obj.cells #[.int .i64 d0, .int .i64 d1, .int .i64 d2, .int .i64 d3, .int .i64 b, .bool false] 34))
  rw [q8] at BN2
  refine (timecode_Number.calls k d0 d1 d2 d3 b false n 0 _ HN.out).mono ?_
  rintro e w3 ⟨rfl, hb3⟩
  have hB3 := below_step hB2 hb3
  have BT3 := blk_below BT2 hb3
  have BN3 := blk_below BN2 hb3
  have n0 := blk_cell BN3 0
  have n1 := blk_cell BN3 1
  have n2 := blk_cell BN3 2
  have n3 := blk_cell BN3 3
  have n4 := blk_cell BN3 4
  have n5 := blk_cell BN3 5
  have z0 := blk_cell BT3 0
  have z1 := blk_cell BT3 1
  have z2 := blk_cell BT3 2
  have z3 := blk_cell BT3 3
  have z4 := blk_cell BT3 4
  have z5 := blk_cell BT3 5
  have f0 := blk_frozen BT3 0
  have f1 := blk_frozen BT3 1
  have f2 := blk_frozen BT3 2
  have f3 := blk_frozen BT3 3
  have f4 := blk_frozen BT3 4
  have f5 := blk_frozen BT3 5
  simp only [List.getElem?_toArray, List.getElem?_cons_zero, List.getElem?_cons_succ] at n0 n1 n2 n3 n4 n5 z0 z1 z2 z3 z4 z5
  clear BT2 BN2 BN3 q0 q1 q2 q3 q8 BT hBW hB2 hb3 b0
  go_wp2
  refine bodyPost_ret (results_ct rfl _ _ w.heap.size 34 #[.int .i64 d0, .int .i64 d1, .int .i64 d2, .int .i64 d3, .int .i64 b, .bool false] (0, 0) _ rfl (blk_put (blk_put (blk_put (blk_put (blk_put (blk_put BT3 0 _ rfl) 1 _ rfl) 2 _ rfl) 3 _ rfl) 4 _ rfl) 5 _ rfl) hu34 rfl (by kernel_rfl)) rfl ⟨rfl, ?_⟩
  exact (below_set (below_set (below_set (below_set (below_set (below_set hB3 (Nat.le_refl _)) (Nat.le_refl _)) (Nat.le_refl _)) (Nat.le_refl _)) (Nat.le_refl _)) (Nat.le_refl _))
set_option maxHeartbeats 2000000 in
set_option maxRecDepth 100000 in
theorem timecode_Parse.way1 (k : Nat) (s : ByteArray) (b d0 d1 d2 d3 : Int) (w : World) (hsz : s.size = 11) (hb : timecode_isBase.f k b = some true)
    (c2 : (bt s 2 != 58) = false) (c5 : (bt s 5 != 58) = false) (c8 : (bt s 8 != 58) = true) (c8' : (bt s 8 != 59) = false) (c8'' : (bt s 8 == 59) = true)
    (e0 : timecode_digits.f (s.extract 0 2) = some (d0, true)) (e1 : timecode_digits.f (s.extract 3 5) = some (d1, true)) (e2 : timecode_digits.f (s.extract 6 8) = some (d2, true)) (e3 : timecode_digits.f (s.extract 9 11) = some (d3, true))
    (n : Int) (hn : timecode_Number.f k d0 d1 d2 d3 b true = some (n, 0)) :
    Calls Try.prog 32 #[.string s, .int .i64 b] w fun e w' => e = .returned (.tuple #[.agg #[.int .i64 d0, .int .i64 d1, .int .i64 d2, .int .i64 d3, .int .i64 b, .bool true], .int .i64 0]) ∧ Below w.heap.size w w' := by
  have hu34 := Try.underlying34
  have HB := Aside0.mk hb
  have E0 := Aside0.mk e0
  have E1 := Aside0.mk e1
  have E2 := Aside0.mk e2
  have E3 := Aside0.mk e3
  have HN := Aside0.mk hn
  have hx2 : ∀ h : 2 < s.size, ((s[2]'h).toNat : Int) = bt s 2 := bt_at s 2
  have hx5 : ∀ h : 5 < s.size, ((s[5]'h).toNat : Int) = bt s 5 := bt_at s 5
  have hx8 : ∀ h : 8 < s.size, ((s[8]'h).toNat : Int) = bt s 8 := bt_at s 8
  clear hb e0 e1 e2 e3 hn
  go_enter Try.func32, Try.ntmps32
  go_wp2_with (go_at_call 39; refine (timecode_isBase.calls k b true _ HB.out).mono ?_; rintro e w1 ⟨rfl, hd1⟩)
  refine wp_loop_rounds 5 ?_
  rw [rounds_succ]
  go_wp2_with (go_at_call 47; refine (timecode_digits.calls (s.extract 0 2) d0 true _ E0.out).mono ?_; rintro e w2 ⟨rfl, hd⟩; obtain ⟨n0, rfl⟩ := hd.out; clear hd)
  rw [rounds_succ]
  go_wp2_with (go_at_call 47; refine (timecode_digits.calls (s.extract 3 5) d1 true _ E1.out).mono ?_; rintro e w2 ⟨rfl, hd⟩; obtain ⟨n1, rfl⟩ := hd.out; clear hd)
  rw [rounds_succ]
  go_wp2_with (go_at_call 47; refine (timecode_digits.calls (s.extract 6 8) d2 true _ E2.out).mono ?_; rintro e w2 ⟨rfl, hd⟩; obtain ⟨n2, rfl⟩ := hd.out; clear hd)
  rw [rounds_succ]
  go_wp2_with (go_at_call 47; refine (timecode_digits.calls (s.extract 9 11) d3 true _ E3.out).mono ?_; rintro e w2 ⟨rfl, hd⟩; obtain ⟨n3, rfl⟩ := hd.out; clear hd)
  rw [rounds_succ]
  go_wp2
  have hs1 := hd1.size
  obtain ⟨W, hW⟩ : ∃ W : World, W = ((((((((w1.alloc (Obj.cells #[Value.int IntKind.i64 0, Value.int IntKind.i64 0, Value.int IntKind.i64 0, Value.int IntKind.i64 0] 63)).drewN n0).setCell { block := w1.heap.size, off := 0 } (Value.int IntKind.i64 d0)).drewN n1).setCell { block := w1.heap.size, off := 1 } (Value.int IntKind.i64 d1)).drewN n2).setCell { block := w1.heap.size, off := 2 } (Value.int IntKind.i64 d2)).drewN n3).setCell { block := w1.heap.size, off := 3 } (Value.int IntKind.i64 d3) := ⟨_, rfl⟩
  have q0 : W.cell? ⟨w1.heap.size, 0, none⟩ = some (.int .i64 d0) := by rw [hW]; go_simp
  have q1 : W.cell? ⟨w1.heap.size, 1, none⟩ = some (.int .i64 d1) := by rw [hW]; go_simp
  have q2 : W.cell? ⟨w1.heap.size, 2, none⟩ = some (.int .i64 d2) := by rw [hW]; go_simp
  have q3 : W.cell? ⟨w1.heap.size, 3, none⟩ = some (.int .i64 d3) := by rw [hW]; go_simp
  have q8 : W.heap.size = w1.heap.size + 1 := by rw [hW]; simp
  have b0 := blk_below (blk_new w (Obj.cells #[Value.int .i64 0, .int .i64 0, .int .i64 0, .int .i64 0, .int .i64 0, .bool false] 34)) hd1
  have hne : w.heap.size ≠ w1.heap.size := by simp at hs1; omega
  have BT : W.heap[w.heap.size]? = some (.cells #[Value.int .i64 0, .int .i64 0, .int .i64 0, .int .i64 0, .int .i64 0, .bool false] 34 (0, 0)) := by
    rw [hW]
    exact blk_far (blk_drewN (blk_far (blk_drewN (blk_far (blk_drewN (blk_far (blk_drewN (blk_alloc b0 _) _) hne _) _) hne _) _) hne _) _) hne _
  have hBW : Below w.heap.size w W := by
    rw [hW]
    have hle : w.heap.size ≤ w1.heap.size := by simp at hs1; omega
    exact below_set (pw_below_drewN (below_set (pw_below_drewN (below_set (pw_below_drewN (below_set (pw_below_drewN (below_alloc (below_step (below_alloc (Below.refl _ _) _) hd1) _) _) hle) _) hle) _) hle) _) hle
  rw [← hW]
  clear hW
  go_region
  go_wp2_with fail
  have hB2 : Below w.heap.size w (W.alloc (Obj.cells #[.int .i64 d0, .int .i64 d1, .int .i64 d2, .int .i64 d3, .int .i64 b, .bool true] 34)).drew := below_drew (below_alloc hBW _)
  have BT2 := blk_drew (blk_alloc BT (Obj.cells #[.int .i64 d0, .int .i64 d1, .int .i64 d2, .int .i64 d3, .int .i64 b, .bool true] 34))
  have BN2 := blk_drew (blk_new W (Obj.cells #[.int .i64 d0, .int .i64 d1, .int .i64 d2, .int .i64 d3, .int .i64 b, .bool true] 34))
  rw [q8] at BN2
  refine (timecode_Number.calls k d0 d1 d2 d3 b true n 0 _ HN.out).mono ?_
  rintro e w3 ⟨rfl, hb3⟩
  have hB3 := below_step hB2 hb3
  have BT3 := blk_below BT2 hb3
  have BN3 := blk_below BN2 hb3
  have n0 := blk_cell BN3 0
  have n1 := blk_cell BN3 1
  have n2 := blk_cell BN3 2
  have n3 := blk_cell BN3 3
  have n4 := blk_cell BN3 4
  have n5 := blk_cell BN3 5
  have z0 := blk_cell BT3 0
  have z1 := blk_cell BT3 1
  have z2 := blk_cell BT3 2
  have z3 := blk_cell BT3 3
  have z4 := blk_cell BT3 4
  have z5 := blk_cell BT3 5
  have f0 := blk_frozen BT3 0
  have f1 := blk_frozen BT3 1
  have f2 := blk_frozen BT3 2
  have f3 := blk_frozen BT3 3
  have f4 := blk_frozen BT3 4
  have f5 := blk_frozen BT3 5
  simp only [List.getElem?_toArray, List.getElem?_cons_zero, List.getElem?_cons_succ] at n0 n1 n2 n3 n4 n5 z0 z1 z2 z3 z4 z5
  clear BT2 BN2 BN3 q0 q1 q2 q3 q8 BT hBW hB2 hb3 b0
  go_wp2
  refine bodyPost_ret (results_ct rfl _ _ w.heap.size 34 #[.int .i64 d0, .int .i64 d1, .int .i64 d2, .int .i64 d3, .int .i64 b, .bool true] (0, 0) _ rfl (blk_put (blk_put (blk_put (blk_put (blk_put (blk_put BT3 0 _ rfl) 1 _ rfl) 2 _ rfl) 3 _ rfl) 4 _ rfl) 5 _ rfl) hu34 rfl (by kernel_rfl)) rfl ⟨rfl, ?_⟩
  exact (below_set (below_set (below_set (below_set (below_set (below_set hB3 (Nat.le_refl _)) (Nat.le_refl _)) (Nat.le_refl _)) (Nat.le_refl _)) (Nat.le_refl _)) (Nat.le_refl _))
theorem timecode_Parse.calls (k : Nat) (a0 : ByteArray) (a1 : Int) (r1 : Int) (r2 : Int) (r3 : Int) (r4 : Int) (r5 : Int) (r6 : Bool) (r7 : Int) (w : World) (h : timecode_Parse.f k a0 a1 = some (r1, r2, r3, r4, r5, r6, r7)) :
    Calls Try.prog 32 #[.string a0, .int .i64 a1] w fun e w' => e = .returned (.tuple #[.agg #[.int .i64 r1, .int .i64 r2, .int .i64 r3, .int .i64 r4, .int .i64 r5, .bool r6], .int .i64 r7]) ∧ Below w.heap.size w w' := by
  unfold timecode_Parse.f at h
  by_cases hsz : a0.size = 11
  · rw [if_pos hsz] at h
    by_cases c2 : bt a0 2 = 58
    · rw [if_pos c2] at h
      by_cases c5 : bt a0 5 = 58
      · rw [if_pos c5] at h
        obtain ⟨t, hb, h⟩ := Option.bind_eq_some_iff.mp h
        cases t
        · simp at h
        rw [if_pos rfl] at h
        obtain ⟨⟨d0, x0⟩, e0, h⟩ := Option.bind_eq_some_iff.mp h
        cases x0
        · simp at h
        rw [if_pos rfl] at h
        obtain ⟨⟨d1, x1⟩, e1, h⟩ := Option.bind_eq_some_iff.mp h
        cases x1
        · simp at h
        rw [if_pos rfl] at h
        obtain ⟨⟨d2, x2⟩, e2, h⟩ := Option.bind_eq_some_iff.mp h
        cases x2
        · simp at h
        rw [if_pos rfl] at h
        obtain ⟨⟨d3, x3⟩, e3, h⟩ := Option.bind_eq_some_iff.mp h
        cases x3
        · simp at h
        rw [if_pos rfl] at h
        have c2' : (bt a0 2 != 58) = false := bne_eq_false_iff_eq.mpr c2
        have c5' : (bt a0 5 != 58) = false := bne_eq_false_iff_eq.mpr c5
        by_cases c8 : bt a0 8 = 59
        · rw [if_pos c8] at h
          obtain ⟨⟨n, y⟩, hn, h⟩ := Option.bind_eq_some_iff.mp h
          by_cases hy : y = 0
          · subst hy
            simp only [if_true, Option.some.injEq, Prod.mk.injEq] at h
            obtain ⟨rfl, rfl, rfl, rfl, rfl, rfl, rfl⟩ := h
            exact timecode_Parse.way1 k a0 a1 d0 d1 d2 d3 w hsz hb c2' c5' (by rw [c8]; decide) (by rw [c8]; decide) (by rw [c8]; decide) e0 e1 e2 e3 n hn
          · simp [hy] at h
        · rw [if_neg c8] at h
          by_cases c8' : bt a0 8 = 58
          · rw [if_pos c8'] at h
            obtain ⟨⟨n, y⟩, hn, h⟩ := Option.bind_eq_some_iff.mp h
            by_cases hy : y = 0
            · subst hy
              simp only [if_true, Option.some.injEq, Prod.mk.injEq] at h
              obtain ⟨rfl, rfl, rfl, rfl, rfl, rfl, rfl⟩ := h
              exact timecode_Parse.way0 k a0 a1 d0 d1 d2 d3 w hsz hb c2' c5' (by rw [c8']; decide) (by rw [c8']; decide) e0 e1 e2 e3 n hn
            · simp [hy] at h
          · rw [if_neg c8'] at h
            cases h
      · rw [if_neg c5] at h
        cases h
    · rw [if_neg c2] at h
      cases h
  · rw [if_neg hsz] at h
    cases h

end Go.Proofs.Ytfdhjnfpppafaaa.PTimecodeFormats
