/- Pure part of PesJoins: what the printed Go functions compute answers true, for every input. No conditions. -/
import Derived.Test.YtdkibpdgnocgaaaPPesJoinsx2
import Derived.Lib.Bytes
set_option linter.unusedVariables false
set_option linter.unusedSimpArgs false
namespace Go.Proofs.Ytdkibpdgnocgaaa.Pure
open Go.RowKit Go.Proofs.Ytdkibpdgnocgaaa.PPesJoins Go.Proofs.YtdkibpdgnocgaaaW.PrintWords Go.Proofs.YtdkibpdgnocgaaaW.PrintLast

/-- The bounds of an int64. -/
theorem b64 {n : Int} (h : (Lit.int .i64 n).wf = true) : -9223372036854775808 ≤ n ∧ n ≤ 9223372036854775807 := by
  simpa [Lit.wf, IntKind.min, IntKind.max, IntKind.signed, IntKind.bits] using h
theorem w64 (n : Int) (h1 : -9223372036854775808 ≤ n) (h2 : n ≤ 9223372036854775807) : wrap64 n = n := by unfold wrap64; omega
theorem tdv (a b : Int) (h : 0 ≤ a) : Int.tdiv a b = a / b := Int.tdiv_eq_ediv_of_nonneg h
theorem tmd (a b : Int) (h : 0 ≤ a) : Int.tmod a b = a % b := Int.tmod_eq_emod_of_nonneg h
theorem ev_of {α : Type} {o : Option α} {r : α} (h : o = some r) : Ev (fun _ => o) r := ⟨0, fun _ _ => h⟩
theorem tmod_bd (n m : Int) (h0 : 0 < m) : -m < Int.tmod n m ∧ Int.tmod n m < m ∧ (Int.tmod n m = n % m ∨ Int.tmod n m = n % m - m) := by
  have a1 : Int.tmod n m < m := Int.tmod_lt_of_pos n h0
  have a2 : -m < Int.tmod n m := by
    have := Int.tmod_lt_of_pos (-n) h0
    rw [Int.neg_tmod] at this; omega
  refine ⟨a2, a1, ?_⟩
  have h3 := Int.tmod_add_mul_tdiv n m
  have h4 : n % m = (Int.tmod n m) % m := by
    conv => lhs; rw [← h3]
    rw [Int.add_mul_emod_self_left]
  by_cases hz : 0 ≤ Int.tmod n m
  · left; rw [h4, Int.emod_eq_of_lt hz a1]
  · right
    rw [h4, ← Int.add_emod_right, Int.emod_eq_of_lt (by omega) (by omega)]; omega

theorem awake_ev : Ev (fun k => cutroomlaw16_awake.f k) true := by
  refine Ev.of cutroomlaw16_awake.mono (k := 60) ?_
  decide +kernel

/-! ### Joins -/
theorem samebytes' (xs : List Int) : cutroomref02_SameBytes.f xs xs = some true := by
  unfold cutroomref02_SameBytes.f; simp
def toS (x : S29) : S30 := ⟨x.f0, x.f1, x.f2, x.f3⟩
def dataL : List S29 → List Int
  | [] => []
  | x :: l => x.f3 ++ dataL l
def marksL (off : Nat) : List S29 → List Int
  | [] => []
  | x :: l => (if x.f1 = -1 then [] else [(off : Int)]) ++ marksL (off + x.f3.length) l
theorem rd29 (l : List S29) (i : Nat) (x : S29) (t : List S29) (h : l.drop i = x :: t) : rd_T29 l (i : Int) = x ∧ i < l.length ∧ l.drop (i + 1) = t := by
  have hi : i < l.length := by
    rcases Nat.lt_or_ge i l.length with h1 | h1
    · exact h1
    · rw [List.drop_eq_nil_of_le h1] at h; cases h
  rw [List.drop_eq_getElem_cons hi] at h
  injection h with h1 h2
  refine ⟨?_, hi, h2⟩
  unfold rd_T29
  rw [Int.toNat_natCast, List.getD_eq_getElem?_getD, List.getElem?_eq_getElem hi, Option.getD_some]
  exact h1
theorem rd30 (l : List S29) (i : Nat) (x : S29) (t : List S29) (h : l.drop i = x :: t) : rd_T30 (l.map toS) (i : Int) = toS x := by
  obtain ⟨h1, h2, _⟩ := rd29 l i x t h
  unfold rd_T29 at h1
  unfold rd_T30
  rw [Int.toNat_natCast, List.getD_eq_getElem?_getD] at *
  rw [List.getElem?_map, List.getElem?_eq_getElem h2, Option.map_some, Option.getD_some]
  rw [List.getElem?_eq_getElem h2, Option.getD_some] at h1
  rw [h1]
theorem join_l0 (l : List S29) (hl : l.length ≤ 50) (hd : ∀ x ∈ l, x.f3.length ≤ 1000) : ∀ (t : List S29) (i : Nat) (acc m : List Int), l.drop i = t → i + t.length = l.length → acc.length ≤ 1000 * i → m.length ≤ i →
    Ev (fun k => pes_Join.l0 k acc m (l.map toS) (l.length : Int) (i : Int)) (acc ++ dataL t, m ++ marksL acc.length t)
  | [], i, acc, m, _, hi, _, _ => by
    refine Ev.step (f := fun k => _) (fun k => by rw [pes_Join.l0]) ?_
    simp only [List.length_nil] at hi
    simp only [if_neg (show ¬ (i : Int) < (l.length : Int) by omega), dataL, marksL, List.append_nil]
    exact Ev.now _
  | x :: t, i, acc, m, h, hi, ha, hm => by
    refine Ev.step (f := fun k => _) (fun k => by rw [pes_Join.l0]) ?_
    obtain ⟨_, h2, h3⟩ := rd29 l i x t h
    have hx : x ∈ l := List.mem_of_mem_drop (by rw [h]; simp)
    have hxl := hd x hx
    simp only [List.length_cons] at hi
    rw [rd30 l i x t h]
    simp only [if_pos (show (i : Int) < (l.length : Int) by omega), if_pos (show (0 : Int) ≤ (i : Int) by omega), if_pos (show (i : Int) < ((l.map toS).length : Int) by rw [List.length_map]; omega), w64 ((i : Int) + 1) (by omega) (by omega), toS, if_pos (show acc.length + x.f3.length < 140737488355328 by omega), if_pos (show m.length < 17592186044416 by omega)]
    rw [show (i : Int) + 1 = ((i + 1 : Nat) : Int) by omega]
    by_cases c : x.f1 = -1
    · simp only [if_pos c]
      have := join_l0 l hl hd t (i + 1) (acc ++ x.f3) m h3 (by omega) (by rw [List.length_append]; omega) (by omega)
      simp only [dataL, marksL, if_pos c, List.nil_append]
      rw [List.append_assoc, List.length_append] at this
      exact this
    · simp only [if_neg c]
      have := join_l0 l hl hd t (i + 1) (acc ++ x.f3) (m ++ [(acc.length : Int)]) h3 (by omega) (by rw [List.length_append]; omega) (by simp only [List.length_append, List.length_cons, List.length_nil]; omega)
      simp only [dataL, marksL, if_neg c]
      rw [List.append_assoc, List.append_assoc, List.length_append] at this
      exact this
theorem rjoin_l0 (l : List S29) (hl : l.length ≤ 50) (hd : ∀ x ∈ l, x.f3.length ≤ 1000) : ∀ (t : List S29) (i : Nat) (acc m : List Int), l.drop i = t → i + t.length = l.length → acc.length ≤ 1000 * i → m.length ≤ i →
    Ev (fun k => cutroomref16_Join.l0 k l acc m (i : Int)) (acc ++ dataL t, m ++ marksL acc.length t)
  | [], i, acc, m, _, hi, _, _ => by
    refine Ev.step (f := fun k => _) (fun k => by rw [cutroomref16_Join.l0]) ?_
    simp only [List.length_nil] at hi
    simp only [if_neg (show ¬ (i : Int) < (l.length : Int) by omega), dataL, marksL, List.append_nil]
    exact Ev.now _
  | x :: t, i, acc, m, h, hi, ha, hm => by
    refine Ev.step (f := fun k => _) (fun k => by rw [cutroomref16_Join.l0]) ?_
    obtain ⟨h1, h2, h3⟩ := rd29 l i x t h
    have hx : x ∈ l := List.mem_of_mem_drop (by rw [h]; simp)
    have hxl := hd x hx
    simp only [List.length_cons] at hi
    rw [h1]
    simp only [if_pos (show (i : Int) < (l.length : Int) by omega), if_pos (show (0 : Int) ≤ (i : Int) by omega), w64 ((i : Int) + 1) (by omega) (by omega), if_pos (show acc.length + x.f3.length < 140737488355328 by omega), if_pos (show m.length < 17592186044416 by omega)]
    rw [show (i : Int) + 1 = ((i + 1 : Nat) : Int) by omega]
    by_cases c : x.f1 = -1
    · simp only [if_pos c]
      have := rjoin_l0 l hl hd t (i + 1) (acc ++ x.f3) m h3 (by omega) (by rw [List.length_append]; omega) (by omega)
      simp only [dataL, marksL, if_pos c, List.nil_append]
      rw [List.append_assoc, List.length_append] at this
      exact this
    · simp only [if_neg c]
      have := rjoin_l0 l hl hd t (i + 1) (acc ++ x.f3) (m ++ [(acc.length : Int)]) h3 (by omega) (by rw [List.length_append]; omega) (by simp only [List.length_append, List.length_cons, List.length_nil]; omega)
      simp only [dataL, marksL, if_neg c]
      rw [List.append_assoc, List.append_assoc, List.length_append] at this
      exact this
theorem law_l1 (m : List Int) (hm : m.length ≤ 1000) : ∀ (d i : Nat), i + d = m.length → Ev (fun k => cutroomlaw16_PesJoins.l1 k m m (i : Int)) true
  | 0, i, h => by
    refine Ev.step (f := fun k => _) (fun k => by rw [cutroomlaw16_PesJoins.l1]) ?_
    simp only [if_neg (show ¬ (i : Int) < (m.length : Int) by omega)]
    exact Ev.bind awake_ev (Ev.now _)
  | d + 1, i, h => by
    refine Ev.step (f := fun k => _) (fun k => by rw [cutroomlaw16_PesJoins.l1]) ?_
    simp only [if_pos (show (i : Int) < (m.length : Int) by omega), if_pos (show (0 : Int) ≤ (i : Int) by omega), if_true, w64 ((i : Int) + 1) (by omega) (by omega)]
    rw [show (i : Int) + 1 = ((i + 1 : Nat) : Int) by omega]
    exact law_l1 m hm d (i + 1) (by omega)
theorem marksL_length : ∀ (l : List S29) (o : Nat), (marksL o l).length ≤ l.length
  | [], _ => Nat.le_refl _
  | x :: l, o => by
    have := marksL_length l (o + x.f3.length)
    simp only [marksL, List.length_append, List.length_cons]
    split <;> simp <;> omega
theorem law_l0 (l : List S29) (hl : l.length ≤ 50) : ∀ (t : List S29) (i : Nat), l.drop i = t → i + t.length = l.length → (∀ x ∈ l.take i, x.f3.length ≤ 1000) →
    Ev (fun k => cutroomlaw16_PesJoins.l0 k l ((l.take i).map toS) (i : Int)) true
  | [], i, h, hi, hd => by
    refine Ev.step (f := fun k => _) (fun k => by rw [cutroomlaw16_PesJoins.l0]) ?_
    simp only [List.length_nil] at hi
    have ht : l.take i = l := List.take_of_length_le (by omega)
    rw [ht] at hd ⊢
    simp only [if_neg (show ¬ (i : Int) < (l.length : Int) by omega)]
    have j1 : Ev (fun k => pes_Join.f k (l.map toS)) (dataL l, marksL 0 l) := by
      unfold pes_Join.f
      rw [List.length_map]
      have := join_l0 l hl hd l 0 [] [] rfl (by simp) (by simp) (by simp)
      simpa using this
    have j2 : Ev (fun k => cutroomref16_Join.f k l) (dataL l, marksL 0 l) := by
      unfold cutroomref16_Join.f
      have := rjoin_l0 l hl hd l 0 [] [] rfl (by simp) (by simp) (by simp)
      simpa using this
    refine Ev.bind j1 (Ev.bind j2 ?_)
    refine Ev.bind (ev_of (samebytes' _)) ?_
    simp only [if_true, bne_self_eq_false]
    refine Ev.step (f := fun k => _) (fun k => by rw [cutroomlaw16_PesJoins.j1]) ?_
    simp only [Bool.false_eq_true, if_false]
    have hml := marksL_length l 0
    exact law_l1 (marksL 0 l) (by omega) (marksL 0 l).length 0 (by omega)
  | x :: t, i, h, hi, hd => by
    refine Ev.step (f := fun k => _) (fun k => by rw [cutroomlaw16_PesJoins.l0]) ?_
    obtain ⟨h1, h2, h3⟩ := rd29 l i x t h
    simp only [List.length_cons] at hi
    rw [h1]
    simp only [if_pos (show (i : Int) < (l.length : Int) by omega), if_pos (show (0 : Int) ≤ (i : Int) by omega)]
    by_cases c : (x.f3.length : Int) > 1000
    · simp only [if_pos c]; exact Ev.now _
    simp only [if_neg c]
    have hg : cutroomlaw16_given.f x.f0 x.f1 x.f2 x.f3 = some (x.f0, x.f1, x.f2, x.f3) := rfl
    refine Ev.bind (ev_of hg) ?_
    have hlen : ((l.take i).map toS).length < 2932031007402 := by rw [List.length_map, List.length_take]; omega
    simp only [if_pos hlen, w64 ((i : Int) + 1) (by omega) (by omega)]
    rw [show (i : Int) + 1 = ((i + 1 : Nat) : Int) by omega]
    have hxl : l[i] = x := by
      rw [List.drop_eq_getElem_cons h2] at h
      injection h
    have htk : l.take (i + 1) = l.take i ++ [x] := by rw [List.take_succ_eq_append_getElem h2, hxl]
    have := law_l0 l hl t (i + 1) h3 (by omega) (by
      intro y hy
      rw [htk, List.mem_append, List.mem_singleton] at hy
      rcases hy with hy | rfl
      · exact hd y hy
      · omega)
    rw [htk, List.map_append] at this
    exact this
theorem PesJoins (l : List S29) (_hb : ∀ x ∈ l, ∀ a ∈ x.f3, (Lit.int .u8 a).wf = true) : ∃ k, cutroomlaw16_PesJoins.f k l = some true := by
  refine Ev.rounds ?_
  unfold cutroomlaw16_PesJoins.f
  by_cases c : (l.length : Int) > 50
  · simp only [if_pos c]; exact Ev.now _
  simp only [if_neg c]
  have := law_l0 l (by omega) l 0 rfl (by simp) (by simp)
  simpa using this

end Go.Proofs.Ytdkibpdgnocgaaa.Pure
