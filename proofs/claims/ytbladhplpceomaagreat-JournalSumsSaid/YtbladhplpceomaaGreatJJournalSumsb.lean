/- The contract of the journal's writer for a source. No conditions but on sizes. -/
import Derived.Test.YtbladhplpceomaaGreatJJournalSumsa
set_option linter.unusedVariables false
set_option linter.unusedSimpArgs false
namespace Go.Proofs.YtbladhplpceomaaGreat.PJournalSums
open Go.RowKit Go.Proofs.YtbladhplpceomaaGreatW.PrintWords Go.Proofs.YtbladhplpceomaaGreatW.PrintLast Go.Proofs.YtbladhplpceomaaGreatW.PrintMore
/-- The last n bytes of a number, the most significant one first. -/
def be (x : Int) : Nat → List Int
  | 0 => []
  | n + 1 => (shr .u64 x (8 * n)) % 256 :: be x n
theorem be_len (x : Int) : ∀ n, (be x n).length = n
  | 0 => rfl
  | n + 1 => by rw [be, List.length_cons, be_len x n]
theorem app_l0 (x : Int) : ∀ (n : Nat) (l : List Int) (k : Nat), n ≤ 8 → n < k → l.length + n ≤ 140737488355328 → journal_appended.l0 k l x ((n : Int) - 1) = some (l ++ be x n) := by
  intro n
  induction n with
  | zero =>
    intro l k _ hk _
    obtain ⟨k, rfl⟩ : ∃ m, k = m + 1 := ⟨k - 1, by omega⟩
    rw [journal_appended.l0, if_neg (by omega), be, List.append_nil]
  | succ n ih =>
    intro l k h8 hk hl
    obtain ⟨k, rfl⟩ : ∃ m, k = m + 1 := ⟨k - 1, by omega⟩
    have e1 : wrap64 (8 * (((n + 1 : Nat) : Int) - 1)) = 8 * (n : Int) := by unfold wrap64; omega
    have e2 : wrap64 ((((n + 1 : Nat) : Int) - 1) - 1) = (n : Int) - 1 := by unfold wrap64; omega
    rw [journal_appended.l0, if_pos (by omega), e1, if_pos (by omega), if_pos (by omega), e2, ih _ k (by omega) (by omega) (by rw [List.length_append]; simp; omega), List.append_assoc]
    rfl
theorem app_some (x : Int) (n : Nat) (l : List Int) (h8 : n ≤ 8) (hl : l.length + n ≤ 140737488355328) : journal_appended.f 9 l x (n : Int) = some (l ++ be x n) := by
  unfold journal_appended.f
  rw [show wrap64 ((n : Int) - 1) = (n : Int) - 1 by unfold wrap64; omega]
  exact app_l0 x n l 9 h8 (by omega) hl
/-- Eight bytes of an int64. -/
def b8 (n : Int) : List Int := be (IntKind.u64.wrap n) 8
theorem b8_len (n : Int) : (b8 n).length = 8 := be_len _ _
theorem writer_n8 (P : Nat → Prop) (w0 w : World) (g : Nat) (l : List Int) (bad : Bool) (n : Int) (hP : ∀ k, w.heap.size ≤ k → P k) (hW : WS P w0 w g l bad) (hl : l.length + 8 ≤ 140737488355328) :
    Calls Tryz.prog 42 #[.pointer (some ⟨g, 0, none⟩), .int .i64 n] w (WPost P w0 w g (l ++ b8 n) bad) := writer_number.calls P 9 w0 w g l bad n _ hP hW (app_some _ 8 l (by omega) hl)
def txt (s : ByteArray) : List Int := [(s.size : Int) % 256] ++ bytesOf s
theorem txt_len (s : ByteArray) : (txt s).length = 1 + s.size := by simp [txt, bytesOf_length]; omega
theorem writer_txt (P : Nat → Prop) (w0 w : World) (g : Nat) (l : List Int) (bad : Bool) (s : ByteArray) (hP : ∀ k, w.heap.size ≤ k → P k) (hW : WS P w0 w g l bad) (hl : l.length + 1 + s.size ≤ 140737488355328) :
    Calls Tryz.prog 43 #[.pointer (some ⟨g, 0, none⟩), .string s] w (WPost P w0 w g (l ++ txt s) (bad || decide (255 < (s.size : Int)))) := by
  have h := writer_text.calls P w0 w g l bad s hP hW hl
  rw [List.append_assoc] at h
  exact h
/-- What a source is written as. -/
def srcB (k : Int) (s : ByteArray) (a b c d : Int) (m : Bool) : List Int := b8 k ++ txt s ++ b8 a ++ b8 b ++ b8 c ++ b8 d ++ [if m then 1 else 0]
theorem srcB_len (k : Int) (s : ByteArray) (a b c d : Int) (m : Bool) : (srcB k s a b c d m).length = 42 + s.size := by simp [srcB, b8_len, txt_len]; omega
set_option maxHeartbeats 2000000 in
set_option maxRecDepth 100000 in
theorem writer_source.calls (P : Nat → Prop) (w0 w : World) (g : Nat) (l : List Int) (bad : Bool) (k : Int) (s : ByteArray) (a b c d : Int) (m : Bool) (hP : ∀ k, w.heap.size ≤ k → P k) (hW : WS P w0 w g l bad) (hl : l.length + 42 + s.size ≤ 140737488355328) :
    Calls Tryz.prog 70 #[.pointer (some ⟨g, 0, none⟩), .agg #[.int .i64 k, .string s, .int .i64 a, .int .i64 b, .int .i64 c, .int .i64 d, .bool m]] w (WPost P w0 w g (l ++ srcB k s a b c d m) (bad || decide (255 < (s.size : Int)))) := by
  have hgl : g < w.heap.size := by obtain ⟨_, _, _, hb, _⟩ := hW; exact blk_lt hb
  have hu97 := Tryz.underlying97
  have hu95 := Tryz.underlying95
  have HP := Aside0.mk hP
  have HL := Aside0.mk hl
  have HW := Aside0.mk (hW.but (.cells #[.int .i64 k, .string s, .int .i64 a, .int .i64 b, .int .i64 c, .int .i64 d, .bool m] 97))
  have HB := Aside0.mk (blk_new w (.cells #[.int .i64 k, .string s, .int .i64 a, .int .i64 b, .int .i64 c, .int .i64 d, .bool m] 97))
  have HK := Aside0.mk (Kept.alloc (Kept.refl w (fun k => k = g ∨ P k)) (.cells #[.int .i64 k, .string s, .int .i64 a, .int .i64 b, .int .i64 c, .int .i64 d, .bool m] 97))
  have HS := Aside0.mk (show w.heap.size < (w.alloc (.cells #[.int .i64 k, .string s, .int .i64 a, .int .i64 b, .int .i64 c, .int .i64 d, .bool m] 97)).heap.size by simp)
  clear hW hP hl
  go_enter Tryz.func70, Tryz.ntmps70
  go_wp2_with (first
    | (go_at_call 42; go_must (refine (writer_n8 (fun k => P k ∧ k ≠ w.heap.size) w0 _ g _ _ _ (fun k hk => ⟨HP.out k (by have := HS.out; omega), by have := HS.out; omega⟩) HW.out (by have := HL.out; (try simp only [List.length_append, b8_len, txt_len]); omega)).mono ?_); rintro e w1 ⟨rfl, hW1, hk1⟩; have n0 := Aside0.mk hW1; have n1 := (hk1.2 _ (blk_lt HB.out) (by intro h; rcases h with h | h; (omega); exact h.2 rfl)).trans HB.out; have n2 := Aside0.mk (HK.out.then_ hk1 (fun k hk => by rcases hk with h | h; (exact .inl (.inl h)); exact .inl (.inr h.1))); have n3 := Aside0.mk (Nat.lt_of_lt_of_le HS.out hk1.1); clear HW HB HK HS; have HW := n0; have HB := Aside0.mk n1; have HK := n2; have HS := n3; (try clear hc); (try clear hf); have hc := blk_cell n1; have hf := blk_frozen n1; clear n0 n1 n2 n3 hW1 hk1)
    | (go_at_call 43; go_must (refine (writer_txt (fun k => P k ∧ k ≠ w.heap.size) w0 _ g _ _ _ (fun k hk => ⟨HP.out k (by have := HS.out; omega), by have := HS.out; omega⟩) HW.out (by have := HL.out; (try simp only [List.length_append, b8_len, txt_len]); omega)).mono ?_); rintro e w1 ⟨rfl, hW1, hk1⟩; have n0 := Aside0.mk hW1; have n1 := (hk1.2 _ (blk_lt HB.out) (by intro h; rcases h with h | h; (omega); exact h.2 rfl)).trans HB.out; have n2 := Aside0.mk (HK.out.then_ hk1 (fun k hk => by rcases hk with h | h; (exact .inl (.inl h)); exact .inl (.inr h.1))); have n3 := Aside0.mk (Nat.lt_of_lt_of_le HS.out hk1.1); clear HW HB HK HS; have HW := n0; have HB := Aside0.mk n1; have HK := n2; have HS := n3; (try clear hc); (try clear hf); have hc := blk_cell n1; have hf := blk_frozen n1; clear n0 n1 n2 n3 hW1 hk1))
  have n0 := HW.out.but (.cells #[.int .i64 a, .int .i64 b, .int .i64 c, .int .i64 d] 2)
  have n1 := blk_alloc HB.out (.cells #[.int .i64 a, .int .i64 b, .int .i64 c, .int .i64 d] 2)
  have n2 := HK.out.alloc (.cells #[.int .i64 a, .int .i64 b, .int .i64 c, .int .i64 d] 2)
  have n3 : w.heap.size < (w1.alloc (.cells #[.int .i64 a, .int .i64 b, .int .i64 c, .int .i64 d] 2)).heap.size := by have := HS.out; simp; omega
  have n4 := blk_new w1 (.cells #[.int .i64 a, .int .i64 b, .int .i64 c, .int .i64 d] 2)
  have n5 : w1.heap.size < (w1.alloc (.cells #[.int .i64 a, .int .i64 b, .int .i64 c, .int .i64 d] 2)).heap.size := by simp
  have n6 : g < w1.heap.size := by have := HS.out; omega
  clear HW HB HK hc hf
  have HS0 := HS
  clear HS
  generalize w1.heap.size = bl at *
  generalize w1.alloc (.cells #[.int .i64 a, .int .i64 b, .int .i64 c, .int .i64 d] 2) = W at *
  have HW := Aside0.mk n0
  have HB := Aside0.mk n1
  have HK := Aside0.mk n2
  have HS := Aside0.mk n3
  have HB2 := Aside0.mk n4
  have HS2 := Aside0.mk n5
  have HG := Aside0.mk n6
  have hc := blk_cell n1
  have hf := blk_frozen n1
  have hc2 := blk_cell n4
  have hf2 := blk_frozen n4
  clear n0 n1 n2 n3 n4 n5 n6 HS0
  refine wp_loop_rounds 5 ?_
  rw [rounds_succ]
  go_wp2_with (go_at_call 42; go_must (refine (writer_n8 (fun k => (P k ∧ k ≠ w.heap.size) ∧ k ≠ bl) w0 _ g _ _ _ (fun k hk => ⟨⟨HP.out k (by have := HS.out; omega), by have := HS.out; omega⟩, by have := HS2.out; omega⟩) HW.out (by have := HL.out; (try simp only [List.length_append, b8_len, txt_len]); omega)).mono ?_); rintro e w1 ⟨rfl, hW1, hk1⟩; have n0 := Aside0.mk hW1; have n1 := (hk1.2 _ (blk_lt HB.out) (by intro h; rcases h with h | h; (omega); exact h.1.2 rfl)).trans HB.out; have n4 := (hk1.2 _ (blk_lt HB2.out) (by intro h; rcases h with h | h; (have := HG.out; omega); exact h.2 rfl)).trans HB2.out; have n2 := Aside0.mk (HK.out.then_ hk1 (fun k hk => by rcases hk with h | h; (exact .inl (.inl h)); exact .inl (.inr h.1.1))); have n3 := Aside0.mk (Nat.lt_of_lt_of_le HS.out hk1.1); have n5 := Aside0.mk (Nat.lt_of_lt_of_le HS2.out hk1.1); clear HW HB HK HS HB2 HS2; have HW := n0; have HB := Aside0.mk n1; have HK := n2; have HS := n3; have HB2 := Aside0.mk n4; have HS2 := n5; (try clear hc); (try clear hf); (try clear hc2); (try clear hf2); have hc2 := blk_cell n4; have hf2 := blk_frozen n4; have hc := blk_cell n1; have hf := blk_frozen n1; clear n0 n1 n2 n3 n4 n5 hW1 hk1)
  rw [rounds_succ]
  go_wp2_with (go_at_call 42; go_must (refine (writer_n8 (fun k => (P k ∧ k ≠ w.heap.size) ∧ k ≠ bl) w0 _ g _ _ _ (fun k hk => ⟨⟨HP.out k (by have := HS.out; omega), by have := HS.out; omega⟩, by have := HS2.out; omega⟩) HW.out (by have := HL.out; (try simp only [List.length_append, b8_len, txt_len]); omega)).mono ?_); rintro e w1 ⟨rfl, hW1, hk1⟩; have n0 := Aside0.mk hW1; have n1 := (hk1.2 _ (blk_lt HB.out) (by intro h; rcases h with h | h; (omega); exact h.1.2 rfl)).trans HB.out; have n4 := (hk1.2 _ (blk_lt HB2.out) (by intro h; rcases h with h | h; (have := HG.out; omega); exact h.2 rfl)).trans HB2.out; have n2 := Aside0.mk (HK.out.then_ hk1 (fun k hk => by rcases hk with h | h; (exact .inl (.inl h)); exact .inl (.inr h.1.1))); have n3 := Aside0.mk (Nat.lt_of_lt_of_le HS.out hk1.1); have n5 := Aside0.mk (Nat.lt_of_lt_of_le HS2.out hk1.1); clear HW HB HK HS HB2 HS2; have HW := n0; have HB := Aside0.mk n1; have HK := n2; have HS := n3; have HB2 := Aside0.mk n4; have HS2 := n5; (try clear hc); (try clear hf); (try clear hc2); (try clear hf2); have hc2 := blk_cell n4; have hf2 := blk_frozen n4; have hc := blk_cell n1; have hf := blk_frozen n1; clear n0 n1 n2 n3 n4 n5 hW1 hk1)
  rw [rounds_succ]
  go_wp2_with (go_at_call 42; go_must (refine (writer_n8 (fun k => (P k ∧ k ≠ w.heap.size) ∧ k ≠ bl) w0 _ g _ _ _ (fun k hk => ⟨⟨HP.out k (by have := HS.out; omega), by have := HS.out; omega⟩, by have := HS2.out; omega⟩) HW.out (by have := HL.out; (try simp only [List.length_append, b8_len, txt_len]); omega)).mono ?_); rintro e w1 ⟨rfl, hW1, hk1⟩; have n0 := Aside0.mk hW1; have n1 := (hk1.2 _ (blk_lt HB.out) (by intro h; rcases h with h | h; (omega); exact h.1.2 rfl)).trans HB.out; have n4 := (hk1.2 _ (blk_lt HB2.out) (by intro h; rcases h with h | h; (have := HG.out; omega); exact h.2 rfl)).trans HB2.out; have n2 := Aside0.mk (HK.out.then_ hk1 (fun k hk => by rcases hk with h | h; (exact .inl (.inl h)); exact .inl (.inr h.1.1))); have n3 := Aside0.mk (Nat.lt_of_lt_of_le HS.out hk1.1); have n5 := Aside0.mk (Nat.lt_of_lt_of_le HS2.out hk1.1); clear HW HB HK HS HB2 HS2; have HW := n0; have HB := Aside0.mk n1; have HK := n2; have HS := n3; have HB2 := Aside0.mk n4; have HS2 := n5; (try clear hc); (try clear hf); (try clear hc2); (try clear hf2); have hc2 := blk_cell n4; have hf2 := blk_frozen n4; have hc := blk_cell n1; have hf := blk_frozen n1; clear n0 n1 n2 n3 n4 n5 hW1 hk1)
  rw [rounds_succ]
  go_wp2_with (go_at_call 42; go_must (refine (writer_n8 (fun k => (P k ∧ k ≠ w.heap.size) ∧ k ≠ bl) w0 _ g _ _ _ (fun k hk => ⟨⟨HP.out k (by have := HS.out; omega), by have := HS.out; omega⟩, by have := HS2.out; omega⟩) HW.out (by have := HL.out; (try simp only [List.length_append, b8_len, txt_len]); omega)).mono ?_); rintro e w1 ⟨rfl, hW1, hk1⟩; have n0 := Aside0.mk hW1; have n1 := (hk1.2 _ (blk_lt HB.out) (by intro h; rcases h with h | h; (omega); exact h.1.2 rfl)).trans HB.out; have n4 := (hk1.2 _ (blk_lt HB2.out) (by intro h; rcases h with h | h; (have := HG.out; omega); exact h.2 rfl)).trans HB2.out; have n2 := Aside0.mk (HK.out.then_ hk1 (fun k hk => by rcases hk with h | h; (exact .inl (.inl h)); exact .inl (.inr h.1.1))); have n3 := Aside0.mk (Nat.lt_of_lt_of_le HS.out hk1.1); have n5 := Aside0.mk (Nat.lt_of_lt_of_le HS2.out hk1.1); clear HW HB HK HS HB2 HS2; have HW := n0; have HB := Aside0.mk n1; have HK := n2; have HS := n3; have HB2 := Aside0.mk n4; have HS2 := n5; (try clear hc); (try clear hf); (try clear hc2); (try clear hf2); have hc2 := blk_cell n4; have hf2 := blk_frozen n4; have hc := blk_cell n1; have hf := blk_frozen n1; clear n0 n1 n2 n3 n4 n5 hW1 hk1)
  have hW := HW.out
  obtain ⟨hB, hg, v, hb, hR⟩ := hW
  generalize hl2 : l ++ b8 k ++ txt s ++ b8 a ++ b8 b ++ b8 c ++ b8 d = l2 at *
  have hlen : l2.length + 1 ≤ 140737488355328 := by rw [← hl2]; have := HL.out; simp only [List.length_append, b8_len, txt_len]; omega
  have H2 := Aside0.mk hl2
  clear HW hl2
  have hown := hR.1
  obtain ⟨A, cp, rfl⟩ := Kd.R_slice hR
  have hlt := blk_lt hb
  have hc3 := blk_cell hb
  have hf3 := blk_frozen hb
  have HR := Aside0.mk hR
  have HBB := Aside0.mk hB
  have HGB := Aside0.mk hb
  have HO := Aside0.mk hown
  have HLL := Aside0.mk hlen
  clear hR hB hb hown hlen
  rw [rounds_succ]
  generalize hx : (if m then (1 : Int) else 0) = x
  have HX : Aside0 ((if m then (1 : Int) else 0) = x) := ⟨hx⟩
  clear hx
  cases m
  all_goals
    obtain rfl := HX.out
    simp only [Bool.false_eq_true, if_false, if_true] at *
    go_wp2_with ((with_reducible refine gate_builtin (b := .append) (xs := #[.tmp 43, .tmp 45]) rfl ?_); at_builtin; go_must (refine Kd.R_append (Kd.int .u8) (w0 := w0) w0.heap.size rfl (.tmp 43) (.tmp 45) 22 5 (.int .u8 0) 1 rfl Tryz.underlying22 info5 rfl (by decide) (by omega) (.slice A l2.length cp) l2 _ [.int .u8 _] (fun k => (P k ∧ k ≠ g) ∨ w1.heap.size ≤ k) (fun _ => False) rfl rfl rfl (fun _ hk => hk.elim) (fun k hk => .inr hk) (Kd.R_mono HR.out (fun _ h => .inl ⟨h.1.1.1, h.2⟩)) HBB.out HBB.out.size (by have := HLL.out; omega) ?_); intro v1 w2 ho hb hg1 hat; have hne : some g ≠ (Value.slice A l2.length cp).ownBlock := (fun e => (HO.out g e.symm).2 rfl); have hb1 := blk_grown HGB.out hg1 hne; have hk1 := Kept.of_grown (S := fun k => k = g ∨ P k) hg1 (Kept.refl w1 _) (fun k e => .inl (.inr (HO.out k e).1.1.1)); obtain ⟨A1, c1, rfl⟩ := Kd.R_slice ho; have hc1 := blk_cell hb1; have hf1 := blk_frozen hb1; have HB1 := Aside0.mk hb; have HR1 := Aside0.mk ho; have HG1 := Aside0.mk hb1; have HK1 := Aside0.mk hk1; clear hb ho hb1 hg1 hat hne hk1)
    go_end0
    obtain ⟨_, h2, h3⟩ := WS.put (P := P) (fun k hk => HP.out k (by have := HS.out; omega)) HB1.out hg HG1.out hlt (by have h := HR1.out; rw [List.length_append] at h; exact h) HK1.out
    refine ⟨rfl, ?_, HK.out.then_ h3 (fun k hk => .inl hk)⟩
    have e : ∀ y : Int, l ++ (b8 k ++ txt s ++ b8 a ++ b8 b ++ b8 c ++ b8 d ++ [y]) = l2 ++ [y] := fun y => by rw [← H2.out]; simp only [List.append_assoc]
    simp only [srcB, Bool.false_eq_true, if_false, if_true, e]
    exact h2
end Go.Proofs.YtbladhplpceomaaGreat.PJournalSums
