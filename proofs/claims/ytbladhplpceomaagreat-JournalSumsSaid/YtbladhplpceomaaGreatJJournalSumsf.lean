/- The law JournalSums: the walks of its sanity check and of the law itself. No conditions. -/
import Derived.Test.YtbladhplpceomaaGreatJJournalSumse
import Derived.Lib.SlBytesConst
set_option linter.unusedVariables false
set_option linter.unusedSimpArgs false
namespace Go.Proofs.YtbladhplpceomaaGreat.PJournalSums
open Go.RowKit Go.Proofs.YtbladhplpceomaaGreatW.PrintWords Go.Proofs.YtbladhplpceomaaGreatW.PrintLast Go.Proofs.YtbladhplpceomaaGreatW.PrintMore
set_option maxHeartbeats 1000000 in
theorem decode_nil (w : World) : Calls Tryz.prog 20 #[.slice none 0 0] w fun e w' => e = .returned (.tuple #[.agg #[.int .i64 0, .string (⟨#[]⟩ : ByteArray), .string (⟨#[]⟩ : ByteArray), .int .i64 0, .int .i64 0, .slice none 0 0], .int .i64 0, .bool false]) ∧ Below w.heap.size w w' := by
  have hu30 := Tryz.underlying30
  go_enter Tryz.func20, Tryz.ntmps20
  go_wp2
  exact bodyPost_ret (v := .tuple #[.agg #[.int .i64 0, .string (⟨#[]⟩ : ByteArray), .string (⟨#[]⟩ : ByteArray), .int .i64 0, .int .i64 0, .slice none 0 0], .int .i64 0, .bool false]) (by simp [results, Tryz.results20, go_sem]) rfl ⟨rfl, below_alloc (Below.refl _ _) _⟩
set_option maxHeartbeats 1000000 in
set_option maxRecDepth 100000 in
theorem clone_nil (w : World) : Calls Tryz.prog 61 #[.slice none 0 0] w fun e w' => e = .returned (.slice none 0 0) ∧ w = w' := by
  have hq : ∀ W, (binOp .eql 22 (.slice none 0 0) (.slice none 0 0)).run Tryz.prog W = .ok (.bool true) W := fun W => Lib.run_eql_slice_nil W 22 5 none 0 0 0 0 Tryz.underlying22
  go_enter Tryz.func61, Tryz.ntmps61
  go_wp2
  go_ret
  exact ⟨rfl, rfl⟩
set_option maxHeartbeats 1000000 in
set_option maxRecDepth 100000 in
theorem open_nil (w : World) : Calls Tryz.prog 24 #[.slice none 0 0] w fun e w' => e = .returned (.tuple #[.agg #[.int .i64 0, .slice none 0 0, .int .i64 0, .int .i64 0, .slice none 0 0], .int .i64 0]) ∧ Below w.heap.size w w' := by
  have hu30 := Tryz.underlying30
  have hu55 := Tryz.underlying55
  have hu50 := Tryz.underlying50
  go_enter Tryz.func24, Tryz.ntmps24
  go_wp2
  refine wp_loop_rounds 1 ?_
  rw [rounds_succ]
  go_wp2_with (first | (go_at_call 20; go_must ((refine (decode_nil _).mono ?_); rintro e w1 ⟨rfl, hb⟩; have hb1 := blk_below (blk_alloc (blk_new w (.cells #[.int .i64 0, .slice none 0 0, .int .i64 0, .int .i64 0, .slice none 0 0] 55)) (.cells #[.int .i64 0, .slice none 0 0, .int .i64 0, .int .i64 0, .slice none 0 0] 55)) hb; have hb2 := blk_below (blk_new (w.alloc (.cells #[.int .i64 0, .slice none 0 0, .int .i64 0, .int .i64 0, .slice none 0 0] 55)) (.cells #[.int .i64 0, .slice none 0 0, .int .i64 0, .int .i64 0, .slice none 0 0] 55)) hb; have hs := hb.size; simp only [World.size_alloc] at hb2 hs; have hc1 := blk_cell hb1; have hf1 := blk_frozen hb1; have hc2 := blk_cell hb2; have hf2 := blk_frozen hb2; have HB := Aside0.mk hb; have hs2 : w.heap.size < w1.heap.size := (by omega); have hs3 : w.heap.size + 1 < w1.heap.size := (by omega); have hs4 : ¬ w.heap.size + 1 = w1.heap.size := (by omega); have hs5 : ¬ w.heap.size = w1.heap.size := (by omega); clear hs; clear hb hb1 hb2)) | (go_at_call 61; go_must ((refine (clone_nil _).mono ?_); rintro e w2 ⟨rfl, rfl⟩)))
  have HBB : Below w.heap.size w w1 := below_then (below_alloc (below_alloc (Below.refl _ _) _) _) (by simp; omega) HB.out
  clear HB
  refine bodyPost_ret (v := .tuple #[.agg #[.int .i64 0, .slice none 0 0, .int .i64 0, .int .i64 0, .slice none 0 0], .int .i64 0]) (by simp [results, Tryz.results24, go_sem, *]) rfl ⟨rfl, ?_⟩
  repeat (first | (with_reducible exact HBB) | (with_reducible refine below_set ?_ (by simp)) | (with_reducible refine below_alloc ?_ _))
theorem C_bytes {W : World} {g t : Nat} {fr : Nat × Nat} {xs : List Int} (hn : xs.length ≤ 9223372036854775807) (h : W.heap[g]? = some (.cells (xs.map (Value.int .u8)).toArray t fr)) : Kd.C (Kd.int .u8) W (some ⟨g, 0, none⟩) xs.length xs :=
  Kd.C_of_reads (d := (0 : Int)) ⟨rfl, hn, fun _ => ⟨_, rfl, fun j hj => by
    rw [add_plain, cell_of_row W g j _ t fr h]
    simp [List.getD_eq_getElem?_getD, List.getElem?_eq_getElem hj]⟩⟩
theorem sum_nine : journal_Sum.f 200 [49, 50, 51, 52, 53, 54, 55, 56, 57] = some 3421780262 := by decide +kernel
theorem tick_sum : (journal_Sum.f 400 (evB 7 ⟨#[]⟩ ⟨#[]⟩ 0 1 [])).isSome = true := by decide +kernel
theorem tick_len : (evB 7 ⟨#[]⟩ ⟨#[]⟩ 0 1 []).length = 27 := by decide +kernel
theorem tick_bad : evBad ⟨#[]⟩ ⟨#[]⟩ [] = false := by decide +kernel
/-- The Encode of the chapter's example. -/
theorem encode_tick (w : World) : Calls Tryz.prog 18 #[.agg #[.int .i64 7, .string (⟨#[]⟩ : ByteArray), .string (⟨#[]⟩ : ByteArray), .int .i64 0, .int .i64 1, .slice none 0 0]] w fun e w' => ∃ (A : Option Addr) (c : Nat), e = .returned (.tuple #[.slice A 39 c, .int .i64 0]) ∧ Below w.heap.size w w' := by
  obtain ⟨crc, hs⟩ := Option.isSome_iff_exists.1 tick_sum
  refine (journal_Encode.core w 7 ⟨#[]⟩ ⟨#[]⟩ 0 1 none 0 [] 400 crc (Kd.C_nil k99 w) (Nat.le_refl _) (by rw [tick_len]; decide) hs).mono ?_
  rintro e w' ⟨v, rfl, hR, hB⟩
  obtain ⟨A, c, rfl⟩ := Kd.R_slice hR
  have h1 : (encV 7 ⟨#[]⟩ ⟨#[]⟩ 0 1 [] crc).length = 39 := by
    unfold encV
    rw [tick_bad, if_neg (by decide)]
    simp only [recB, List.length_append, be_len, List.length_reverse, tick_len]
  have h2 : encE ⟨#[]⟩ ⟨#[]⟩ [] = 0 := by
    unfold encE
    rw [tick_bad]
    rfl
  exact ⟨A, c, by rw [h1, h2], hB⟩
set_option maxHeartbeats 1000000 in
set_option maxRecDepth 100000 in
theorem awake_true (w : World) : Calls Tryz.prog 16 #[] w fun e w' => e = .returned (.bool true) ∧ Below w.heap.size w w' := by
  have hu55 := Tryz.underlying55
  have hu50 := Tryz.underlying50
  have hu30 := Tryz.underlying30
  have hcv := fun w C => Lib.run_convert_bytes_const (P := Tryz.prog) w 22 5 C 9 9 Tryz.underlying22 Tryz.underlying5
  go_enter Tryz.func16, Tryz.ntmps16
  go_wp2_with (first | (go_at_call 24; go_must ((refine (open_nil _).mono ?_); rintro e w1 ⟨rfl, hb⟩; have HB := Aside0.mk hb; clear hb)) | (go_at_call 18; go_must ((refine (encode_tick _).mono ?_); rintro e w2 ⟨A, c, rfl, hb2⟩; have hk := blk_below (blk_new w1 (.cells #[.int .i64 0, .slice none 0 0, .int .i64 0, .int .i64 0, .slice none 0 0] 55)) hb2; have hs := hb2.size; simp only [World.size_alloc] at hs; have hs2 : w1.heap.size < w2.heap.size := (by omega); have hc := blk_cell hk; have HB2 := Aside0.mk (below_then (below_alloc HB.out _) (by simp; have := HB.out.size; omega) hb2); clear hb2 hk hs)) | (go_at_call 14; go_must ((refine (journal_Sum.calls 200 _ 9 [49, 50, 51, 52, 53, 54, 55, 56, 57] _ _ (C_bytes (xs := [49, 50, 51, 52, 53, 54, 55, 56, 57]) (by decide) (blk_new w2 _)) (Nat.le_refl 9) sum_nine).mono ?_); rintro e w3 ⟨rfl, hd⟩; obtain ⟨m, rfl⟩ := hd.out; clear hd)))
  go_ret
  exact ⟨rfl, pw_below_drewN (below_alloc HB2.out _) _⟩
set_option maxHeartbeats 1000000 in
set_option maxRecDepth 100000 in
theorem JournalSums_calls (A : Option Addr) (c : Nat) (l : List Int) (w : World) (hr : Kd.C (Kd.int .u8) w A l.length l) (hc : l.length ≤ c) (hl : l.length ≤ 140737488351232) :
    Calls Tryz.prog 3 #[.slice A l.length c] w fun e w' => e = .returned (.bool true) ∧ Below w.heap.size w w' := by
  have key : ∀ ll : List Int, ll.length ≤ 140737488351232 → ∃ s k, journal_Sum.f k ll = some s ∧ cutroomref35_Sum.f k ll = some s := fun ll h => ⟨_, _, sum_some ll (by omega), ref_some ll (by omega)⟩
  by_cases h2 : l.length > 2000
  · obtain ⟨ll, hll⟩ : ∃ ll, ll = l.take 2000 := ⟨_, rfl⟩
    have hlen : ll.length = 2000 := by rw [hll, List.length_take]; omega
    obtain ⟨i0, hi, _⟩ := info_parts info5
    have hcut : ∀ W, (Instr.slice 22 (.slice A l.length c) none (some (.int .i64 2000)) none).run Tryz.prog W = .ok (.slice A ll.length c) W := by
      rw [hlen]
      exact cut_to (P := Tryz.prog) 22 5 .i64 Tryz.underlying22 hi A l.length c 2000 (by omega) (by omega) hc
    have hr2 : Kd.C (Kd.int .u8) w A ll.length ll := by
      rw [hlen, hll]
      exact Kd.C_of_reads (d := (0 : Int)) ((Kd.reads_of_C (d := (0 : Int)) hr).take_ 2000 (by omega))
    have hd : decide ((2000 : Int) < (l.length : Int)) = true := decide_eq_true (by omega)
    obtain ⟨s, k, k1, k2⟩ := key ll (by omega)
    have HR := Aside0.mk hr2
    have HC := Aside0.mk (show ll.length ≤ c by omega)
    have K1 := Aside0.mk k1
    have K2 := Aside0.mk k2
    clear key hr hr2 hc k1 k2 hll hi hlen
    go_enter Tryz.func3, Tryz.ntmps3
    go_wp2_with (first | (go_at_call 14; go_must ((refine (journal_Sum.calls k A c ll s _ HR.out HC.out K1.out).mono ?_); rintro e w1 ⟨rfl, hd⟩; obtain ⟨m, rfl⟩ := hd.out; clear hd)) | (go_at_call 15; go_must ((refine (cutroomref35_Sum.calls k A c ll s _ (Kd.C_drewN HR.out _) HC.out K2.out).mono ?_); rintro e w1 ⟨rfl, hd⟩; obtain ⟨m2, rfl⟩ := hd.out; clear hd)) | (go_at_call 16; go_must ((refine (awake_true _).mono ?_); rintro e w1 ⟨rfl, hb⟩; have HB := Aside0.mk hb; clear hb)))
    go_ret
    exact ⟨rfl, below_then (pw_below_drewN (Below.refl _ _) _) (by simp) HB.out⟩
  · have hd : decide ((2000 : Int) < (l.length : Int)) = false := decide_eq_false (by omega)
    obtain ⟨s, k, k1, k2⟩ := key l hl
    have HR := Aside0.mk hr
    have HC := Aside0.mk hc
    have K1 := Aside0.mk k1
    have K2 := Aside0.mk k2
    clear key hr hc k1 k2
    go_enter Tryz.func3, Tryz.ntmps3
    go_wp2_with (first | (go_at_call 14; go_must ((refine (journal_Sum.calls k A c l s _ HR.out HC.out K1.out).mono ?_); rintro e w1 ⟨rfl, hd⟩; obtain ⟨m, rfl⟩ := hd.out; clear hd)) | (go_at_call 15; go_must ((refine (cutroomref35_Sum.calls k A c l s _ (Kd.C_drewN HR.out _) HC.out K2.out).mono ?_); rintro e w1 ⟨rfl, hd⟩; obtain ⟨m2, rfl⟩ := hd.out; clear hd)) | (go_at_call 16; go_must ((refine (awake_true _).mono ?_); rintro e w1 ⟨rfl, hb⟩; have HB := Aside0.mk hb; clear hb)))
    go_ret
    exact ⟨rfl, below_then (pw_below_drewN (Below.refl _ _) _) (by simp) HB.out⟩
end Go.Proofs.YtbladhplpceomaaGreat.PJournalSums
