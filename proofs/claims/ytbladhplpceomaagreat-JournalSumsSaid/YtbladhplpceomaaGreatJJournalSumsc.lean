/- The contract of the journal's writer for a clip. No conditions but on sizes. -/
import Derived.Test.YtbladhplpceomaaGreatJJournalSumsb
set_option linter.unusedVariables false
set_option linter.unusedSimpArgs false
namespace Go.Proofs.YtbladhplpceomaaGreat.PJournalSums
open Go.RowKit Go.Proofs.YtbladhplpceomaaGreatW.PrintWords Go.Proofs.YtbladhplpceomaaGreatW.PrintLast Go.Proofs.YtbladhplpceomaaGreatW.PrintMore
/-- A writer, beside a variable at block b. -/
def WL (P : Nat → Prop) (w0 w W : World) (g b : Nat) (o : Obj) (l : List Int) (bad : Bool) : Prop :=
  WS (fun k => P k ∧ k ≠ b) w0 W g l bad ∧ W.heap[b]? = some o ∧ Kept w W (fun k => k = g ∨ P k) ∧ b < W.heap.size ∧ w.heap.size ≤ b ∧ g < w.heap.size
theorem WL.begin {P : Nat → Prop} {w0 w : World} {g : Nat} {l : List Int} {bad : Bool} (h : WS P w0 w g l bad) (o : Obj) : WL P w0 w (w.alloc o) g w.heap.size o l bad :=
  ⟨h.but o, blk_new w o, Kept.alloc (Kept.refl w _) o, by simp, Nat.le_refl _, by obtain ⟨_, _, _, hb, _⟩ := h; exact blk_lt hb⟩
theorem WL.hP {P : Nat → Prop} {w0 w W : World} {g b : Nat} {o : Obj} {l : List Int} {bad : Bool} (h : WL P w0 w W g b o l bad) (hP : ∀ k, w.heap.size ≤ k → P k) : ∀ k, W.heap.size ≤ k → P k ∧ k ≠ b := fun k hk => by
  obtain ⟨_, _, h3, h4, h5, _⟩ := h
  exact ⟨hP k (by omega), by omega⟩
theorem WL.step {P : Nat → Prop} {w0 w W W1 : World} {g b : Nat} {o : Obj} {l l1 : List Int} {bad bad1 : Bool} {e : Ending} (h : WL P w0 w W g b o l bad) (h1 : WPost (fun k => P k ∧ k ≠ b) w0 W g l1 bad1 e W1) : e = .returned (.tuple #[]) ∧ WL P w0 w W1 g b o l1 bad1 := by
  obtain ⟨h2, h3, h4, h5, h6, h7⟩ := h
  obtain ⟨e1, e2, e3⟩ := h1
  refine ⟨e1, e2, (e3.2 b h5 ?_).trans h3, h4.then_ e3 ?_, Nat.lt_of_lt_of_le h5 e3.1, h6, h7⟩
  · intro hh
    rcases hh with hh | hh
    · omega
    · exact hh.2 rfl
  · intro k hk
    rcases hk with hk | hk
    · exact .inl (.inl hk)
    · exact .inl (.inr hk.1)
theorem WL.done {P : Nat → Prop} {w0 w W : World} {g b : Nat} {o : Obj} {l : List Int} {bad : Bool} (h : WL P w0 w W g b o l bad) : WPost P w0 w g l bad (.returned (.tuple #[])) W :=
  ⟨rfl, h.1.mono (fun _ hk => hk.1), h.2.2.1⟩
/-- What a clip is written as. -/
def clipB (x : S99) : List Int := b8 x.f0 ++ b8 x.f1 ++ srcB x.f2.f0 x.f2.f1 x.f2.f2.f0 x.f2.f2.f1 x.f2.f3.f0 x.f2.f3.f1 x.f2.f4 ++ srcB x.f3.f0 x.f3.f1 x.f3.f2.f0 x.f3.f2.f1 x.f3.f3.f0 x.f3.f3.f1 x.f3.f4 ++ b8 x.f4 ++ b8 x.f5 ++ b8 x.f6 ++ txt x.f7 ++ b8 x.f8 ++ [(x.f9.length : Int) % 256] ++ x.f9.flatMap b8
def clipBad (x : S99) (bad : Bool) : Bool := bad || decide (255 < (x.f2.f1.size : Int)) || decide (255 < (x.f3.f1.size : Int)) || decide (255 < (x.f7.size : Int)) || decide (255 < (x.f9.length : Int))
theorem flat8_len (xs : List Int) : (xs.flatMap b8).length = 8 * xs.length := by
  induction xs with
  | nil => rfl
  | cons x xs ih => rw [List.flatMap_cons, List.length_append, b8_len, ih, List.length_cons]; omega
theorem clipB_len (x : S99) : (clipB x).length = 134 + x.f2.f1.size + x.f3.f1.size + x.f7.size + 8 * x.f9.length := by
  simp only [clipB, List.length_append, b8_len, srcB_len, txt_len, flat8_len, List.length_cons, List.length_nil]; omega
theorem take_flat (xs : List Int) (i : Nat) (h : i < xs.length) : (xs.take (i + 1)).flatMap b8 = (xs.take i).flatMap b8 ++ b8 (rd xs i) := by
  rw [List.take_succ_eq_append_getElem h, List.flatMap_append]
  congr 1
  simp [rd, List.getD_eq_getElem?_getD, h]
set_option maxHeartbeats 2000000 in
set_option maxRecDepth 100000 in
theorem writer_clip.calls (P : Nat → Prop) (w0 w : World) (g : Nat) (l : List Int) (bad : Bool) (x : S99) (A : Option Addr) (c : Nat) (hC : Kd.C (Kd.int .i64) w0 A x.f9.length x.f9) (hP : ∀ k, w.heap.size ≤ k → P k) (hW : WS P w0 w g l bad) (hl : l.length + (134 + x.f2.f1.size + x.f3.f1.size + x.f7.size + 8 * x.f9.length) ≤ 140737488355328) :
    Calls Tryz.prog 45 #[.pointer (some ⟨g, 0, none⟩), .agg #[.int .i64 x.f0, .int .i64 x.f1, .int .i64 x.f2.f0, .string x.f2.f1, .int .i64 x.f2.f2.f0, .int .i64 x.f2.f2.f1, .int .i64 x.f2.f3.f0, .int .i64 x.f2.f3.f1, .bool x.f2.f4, .int .i64 x.f3.f0, .string x.f3.f1, .int .i64 x.f3.f2.f0, .int .i64 x.f3.f2.f1, .int .i64 x.f3.f3.f0, .int .i64 x.f3.f3.f1, .bool x.f3.f4, .int .i64 x.f4, .int .i64 x.f5, .int .i64 x.f6, .string x.f7, .int .i64 x.f8, .slice A x.f9.length c]] w (WPost P w0 w g (l ++ clipB x) (clipBad x bad)) := by
  have hu99 := Tryz.underlying99
  have HP := Aside0.mk hP
  have HL := Aside0.mk hl
  have HC := Aside0.mk hC
  have HW := Aside0.mk (WL.begin hW (.cells #[.int .i64 x.f0, .int .i64 x.f1, .int .i64 x.f2.f0, .string x.f2.f1, .int .i64 x.f2.f2.f0, .int .i64 x.f2.f2.f1, .int .i64 x.f2.f3.f0, .int .i64 x.f2.f3.f1, .bool x.f2.f4, .int .i64 x.f3.f0, .string x.f3.f1, .int .i64 x.f3.f2.f0, .int .i64 x.f3.f2.f1, .int .i64 x.f3.f3.f0, .int .i64 x.f3.f3.f1, .bool x.f3.f4, .int .i64 x.f4, .int .i64 x.f5, .int .i64 x.f6, .string x.f7, .int .i64 x.f8, .slice A x.f9.length c] 99))
  clear hW hP hl hC
  go_enter Tryz.func45, Tryz.ntmps45
  go_wp2_with (first | (go_at_call 42; go_must (refine (writer_n8 _ w0 _ g _ _ _ (HW.out.hP HP.out) HW.out.1 (by have := HL.out; (try simp only [List.length_append, b8_len, txt_len, srcB_len, List.length_cons, List.length_nil]); omega)).mono ?_); intro e w1 h; obtain ⟨rfl, h1⟩ := HW.out.step h; have h2 := h1.2.1; clear HW h; have HW := Aside0.mk h1; (try clear hc); (try clear hf); have hc := blk_cell h2; have hf := blk_frozen h2; clear h1 h2) | (go_at_call 43; go_must (refine (writer_txt _ w0 _ g _ _ _ (HW.out.hP HP.out) HW.out.1 (by have := HL.out; (try simp only [List.length_append, b8_len, txt_len, srcB_len, List.length_cons, List.length_nil]); omega)).mono ?_); intro e w1 h; obtain ⟨rfl, h1⟩ := HW.out.step h; have h2 := h1.2.1; clear HW h; have HW := Aside0.mk h1; (try clear hc); (try clear hf); have hc := blk_cell h2; have hf := blk_frozen h2; clear h1 h2) | (go_at_call 44; go_must (refine (writer_count.calls _ w0 _ g _ _ _ (HW.out.hP HP.out) HW.out.1 (by have := HL.out; (try simp only [List.length_append, b8_len, txt_len, srcB_len, List.length_cons, List.length_nil]); omega)).mono ?_); intro e w1 h; obtain ⟨rfl, h1⟩ := HW.out.step h; have h2 := h1.2.1; clear HW h; have HW := Aside0.mk h1; (try clear hc); (try clear hf); have hc := blk_cell h2; have hf := blk_frozen h2; clear h1 h2) | (go_at_call 70; go_must (refine (writer_source.calls _ w0 _ g _ _ _ _ _ _ _ _ _ (HW.out.hP HP.out) HW.out.1 (by have := HL.out; (try simp only [List.length_append, b8_len, txt_len, srcB_len, List.length_cons, List.length_nil]); omega)).mono ?_); intro e w1 h; obtain ⟨rfl, h1⟩ := HW.out.step h; have h2 := h1.2.1; clear HW h; have HW := Aside0.mk h1; (try clear hc); (try clear hf); have hc := blk_cell h2; have hf := blk_frozen h2; clear h1 h2))
  generalize hl1 : l ++ b8 x.f0 ++ b8 x.f1 ++ srcB x.f2.f0 x.f2.f1 x.f2.f2.f0 x.f2.f2.f1 x.f2.f3.f0 x.f2.f3.f1 x.f2.f4 ++ srcB x.f3.f0 x.f3.f1 x.f3.f2.f0 x.f3.f2.f1 x.f3.f3.f0 x.f3.f3.f1 x.f3.f4 ++ b8 x.f4 ++ b8 x.f5 ++ b8 x.f6 ++ txt x.f7 ++ b8 x.f8 ++ [(x.f9.length : Int) % 256] = l1 at *
  have hll : l1.length + 8 * x.f9.length ≤ 140737488355328 := by
    rw [← hl1]; have := HL.out; simp only [List.length_append, b8_len, txt_len, srcB_len, List.length_cons, List.length_nil]; omega
  have H1 := Aside0.mk hl1
  have HLL := Aside0.mk hll
  clear hc hf hl1 hll HL
  go_loopw [50] (fun v50 W => ∃ i : Nat, v50 = .int .i64 i ∧ i ≤ x.f9.length ∧ Aside0 (WL P w0 w W g w.heap.size (.cells #[.int .i64 x.f0, .int .i64 x.f1, .int .i64 x.f2.f0, .string x.f2.f1, .int .i64 x.f2.f2.f0, .int .i64 x.f2.f2.f1, .int .i64 x.f2.f3.f0, .int .i64 x.f2.f3.f1, .bool x.f2.f4, .int .i64 x.f3.f0, .string x.f3.f1, .int .i64 x.f3.f2.f0, .int .i64 x.f3.f2.f1, .int .i64 x.f3.f3.f0, .int .i64 x.f3.f3.f1, .bool x.f3.f4, .int .i64 x.f4, .int .i64 x.f5, .int .i64 x.f6, .string x.f7, .int .i64 x.f8, .slice A x.f9.length c] 99) (l1 ++ (x.f9.take i).flatMap b8) (clipBad x bad))) (fun v50 _ => x.f9.length - (intOf v50).toNat)
  case atStart => exact ⟨0, rfl, Nat.zero_le _, ⟨by simpa [clipBad] using HW.out⟩⟩
  case round =>
    obtain ⟨i, rfl, hi, HW⟩ := hrel
    by_cases hlt : i < x.f9.length
    · obtain ⟨ad, rfl, hx⟩ := Kd.at_int HC.out i (by omega) (by omega)
      have hx1 := (HW.out.1.1.cell (World.block_lt_of_cell? w0 _ hx)).trans hx
      rw [Int.toNat_natCast] at hx1
      have HT := Aside0.mk (take_flat x.f9 i hlt)
      clear hx
      go_wp2_with (go_at_call 42; go_must (refine (writer_n8 _ w0 _ g _ _ _ (HW.out.hP HP.out) HW.out.1 (by have := HLL.out; rw [List.length_append, flat8_len, List.length_take]; omega)).mono ?_); intro e w1 h; obtain ⟨rfl, h1⟩ := HW.out.step h; have h2 := h1.2.1; clear HW h; have HW := Aside0.mk h1; (try clear hc); (try clear hf); clear h1 h2)
      have hm := Kd.C_max HC.out
      have e1 : wrap64 ((i : Int) + 1) = ((i + 1 : Nat) : Int) := by unfold wrap64; omega
      rw [e1]
      refine ⟨⟨i + 1, rfl, by omega, ⟨by rw [HT.out, ← List.append_assoc]; exact HW.out⟩⟩, by simp only [intOf]; omega⟩
    · go_wp2
      go_end0
      have h := HW.out.done
      rw [List.take_of_length_le (by omega)] at h
      have e : l ++ clipB x = l1 ++ x.f9.flatMap b8 := by rw [← H1.out]; simp only [clipB, List.append_assoc]
      rw [e]
      exact h
end Go.Proofs.YtbladhplpceomaaGreat.PJournalSums
