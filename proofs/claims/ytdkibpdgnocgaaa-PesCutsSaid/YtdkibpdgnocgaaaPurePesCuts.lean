/- Pure part of PesCuts: what the printed Go functions compute answers true, for every input. No conditions. -/
import Derived.Test.YtdkibpdgnocgaaaPPesCutsx4
import Derived.Lib.Bytes
import Derived.Lib.ItoaNum
set_option linter.unusedVariables false
set_option linter.unusedSimpArgs false
namespace Go.Proofs.Ytdkibpdgnocgaaa.Pure
open Go.RowKit Go.Proofs.Ytdkibpdgnocgaaa.PPesCuts Go.Proofs.YtdkibpdgnocgaaaW.PrintWords Go.Proofs.YtdkibpdgnocgaaaW.PrintLast

/-- The bounds of an int64. -/
theorem b64 {n : Int} (h : (Lit.int .i64 n).wf = true) : -9223372036854775808 ≤ n ∧ n ≤ 9223372036854775807 := by
  simpa [Lit.wf, IntKind.min, IntKind.max, IntKind.signed, IntKind.bits] using h
theorem w64 (n : Int) (h1 : -9223372036854775808 ≤ n) (h2 : n ≤ 9223372036854775807) : wrap64 n = n := by unfold wrap64; omega
theorem tdv (a b : Int) (h : 0 ≤ a) : Int.tdiv a b = a / b := Int.tdiv_eq_ediv_of_nonneg h
theorem tmd (a b : Int) (h : 0 ≤ a) : Int.tmod a b = a % b := Int.tmod_eq_emod_of_nonneg h
theorem ev_of {α : Type} {o : Option α} {r : α} (h : o = some r) : Ev (fun _ => o) r := ⟨0, fun _ _ => h⟩
theorem tmod_bd (n m : Int) (h0 : 0 < m) : -m < Int.tmod n m ∧ Int.tmod n m < m ∧ (Int.tmod n m = n % m ∨ Int.tmod n m = n % m - m) := by
  have a1 : Int.tmod n m < m := Int.tmod_lt_of_pos n h0
  have a2 : -m < Int.tmod n m := by
    have := Int.tmod_lt_of_pos (-n) h0
    rw [Int.neg_tmod] at this; omega
  refine ⟨a2, a1, ?_⟩
  have h3 := Int.tmod_add_mul_tdiv n m
  have h4 : n % m = (Int.tmod n m) % m := by
    conv => lhs; rw [← h3]
    rw [Int.add_mul_emod_self_left]
  by_cases hz : 0 ≤ Int.tmod n m
  · left; rw [h4, Int.emod_eq_of_lt hz a1]
  · right
    rw [h4, ← Int.add_emod_right, Int.emod_eq_of_lt (by omega) (by omega)]; omega

theorem awake_ev : Ev (fun k => cutroomlaw16_awake.f k) true := by
  refine Ev.of cutroomlaw16_awake.mono (k := 60) ?_
  decide +kernel

theorem samebytes' (xs : List Int) : cutroomref02_SameBytes.f xs xs = some true := by
  unfold cutroomref02_SameBytes.f; simp
/-! ### the data and the marks of packets -/
def dataP : List S30 → List Int
  | [] => []
  | x :: t => x.f3 ++ dataP t
def marksP : Nat → List S30 → List Int
  | _, [] => []
  | o, x :: t => (if x.f1 = -1 then [] else [(o : Int)]) ++ marksP (o + x.f3.length) t
theorem rdp30 (l : List S30) (i : Nat) (x : S30) (t : List S30) (h : l.drop i = x :: t) : rd_T30 l (i : Int) = x ∧ i < l.length ∧ l.drop (i + 1) = t := by
  have hi : i < l.length := by
    rcases Nat.lt_or_ge i l.length with h1 | h1
    · exact h1
    · rw [List.drop_eq_nil_of_le h1] at h; cases h
  rw [List.drop_eq_getElem_cons hi] at h
  injection h with h1 h2
  refine ⟨?_, hi, h2⟩
  unfold rd_T30
  simp [hi, h1]
theorem joinp_l0 (l : List S30) (hl : l.length ≤ 4000) : ∀ (t : List S30) (i : Nat) (acc m : List Int), l.drop i = t → i + t.length = l.length → acc.length + (dataP t).length ≤ 4000 → m.length ≤ i →
    Ev (fun k => pes_Join.l0 k acc m l (l.length : Int) (i : Int)) (acc ++ dataP t, m ++ marksP acc.length t)
  | [], i, acc, m, _, hi, _, _ => by
    refine Ev.step (f := fun k => _) (fun k => by rw [pes_Join.l0]) ?_
    simp only [List.length_nil] at hi
    simp only [if_neg (show ¬ (i : Int) < (l.length : Int) by omega), dataP, marksP, List.append_nil]
    exact Ev.now _
  | x :: t, i, acc, m, h, hi, ha, hm => by
    refine Ev.step (f := fun k => _) (fun k => by rw [pes_Join.l0]) ?_
    obtain ⟨h1, h2, h3⟩ := rdp30 l i x t h
    simp only [List.length_cons] at hi
    simp only [dataP, List.length_append] at ha
    rw [h1]
    simp only [if_pos (show (i : Int) < (l.length : Int) by omega), if_pos (show (0 : Int) ≤ (i : Int) by omega), w64 ((i : Int) + 1) (by omega) (by omega), if_pos (show acc.length + x.f3.length < 140737488355328 by omega), if_pos (show m.length < 17592186044416 by omega)]
    rw [show (i : Int) + 1 = ((i + 1 : Nat) : Int) by omega]
    by_cases c : x.f1 = -1
    · simp only [if_pos c]
      have := joinp_l0 l hl t (i + 1) (acc ++ x.f3) m h3 (by omega) (by rw [List.length_append]; omega) (by omega)
      simp only [dataP, marksP, if_pos c, List.nil_append]
      rw [List.append_assoc, List.length_append] at this
      exact this
    · simp only [if_neg c]
      have := joinp_l0 l hl t (i + 1) (acc ++ x.f3) (m ++ [(acc.length : Int)]) h3 (by omega) (by rw [List.length_append]; omega) (by simp only [List.length_append, List.length_cons, List.length_nil]; omega)
      simp only [dataP, marksP, if_neg c]
      rw [List.append_assoc, List.append_assoc, List.length_append] at this
      exact this
/-! ### the rows of Cut -/
def rowR (a0 a2 a3 : Int) (size : Nat) (l : List Int) (i : Nat) : S29 := ⟨a0, if i = 0 then a2 else -1, if i = 0 then a3 else -1, (l.take (cutTo l.length size i)).drop (i * size)⟩
theorem chunk_drop (l : List Int) (size i : Nat) (hs : 1 ≤ size) : (l.take (cutTo l.length size i)).drop (i * size) ++ l.drop ((i + 1) * size) = l.drop (i * size) := by
  unfold cutTo
  have e : (i + 1) * size = i * size + size := by rw [Nat.add_mul, Nat.one_mul]
  rw [e, ← List.drop_drop]
  rcases Nat.le_total (i * size + size) l.length with h | h
  · rw [Nat.min_eq_left h, List.drop_take, show i * size + size - i * size = size by omega, List.take_append_drop]
  · rw [Nat.min_eq_right h, List.take_length, show List.drop size (List.drop (i * size) l) = [] from List.drop_eq_nil_of_le (by rw [List.length_drop]; omega), List.append_nil]
theorem dataP_rows (a0 a2 a3 : Int) (size : Nat) (l : List Int) (hs : 1 ≤ size) : ∀ (d i : Nat), i + d = cutK l.length size → dataP ((List.range' i d).map (cutRow a0 a2 a3 size l)) = l.drop (i * size)
  | 0, i, h => by
    simp only [List.range'_zero, List.map_nil, dataP]
    have : ¬ i < cutK l.length size := by omega
    rw [cutK_iff hs] at this
    rw [List.drop_eq_nil_of_le (by omega)]
  | d + 1, i, h => by
    rw [List.range'_succ, List.map_cons, dataP, dataP_rows a0 a2 a3 size l hs d (i + 1) (by omega)]
    exact chunk_drop l size i hs
theorem marksP_rest (a0 a2 a3 : Int) (size : Nat) (l : List Int) : ∀ (d i o : Nat), 1 ≤ i → marksP o ((List.range' i d).map (cutRow a0 a2 a3 size l)) = []
  | 0, _, _, _ => rfl
  | d + 1, i, o, hi => by
    rw [List.range'_succ, List.map_cons, marksP, marksP_rest a0 a2 a3 size l d (i + 1) _ (by omega), List.append_nil]
    simp [cutRow, show ¬ i = 0 by omega]
theorem rowR_next (a0 a2 a3 : Int) (size : Nat) (l : List Int) (i : Nat) (hi : 1 ≤ i) : rowR a0 a2 a3 size l i = ⟨a0, -1, -1, (l.take (cutTo l.length size i)).drop (i * size)⟩ := by
  simp [rowR, show ¬ i = 0 by omega]
theorem cutTo_mn (len size i : Nat) : (mn ((i * size : Nat) + (size : Nat) : Int) (len : Int)) = ((cutTo len size i : Nat) : Int) := by
  unfold cutTo mn
  split <;> omega
theorem rcut_l0 (a0 a2 a3 : Int) (size : Nat) (l : List Int) (hs : 1 ≤ size) (hs2 : size ≤ 60000) (hl : l.length ≤ 3000) : ∀ (d i : Nat), i + d = cutK l.length size → 1 ≤ i →
    Ev (fun k => cutroomref16_Cut.l0 k a0 l (size : Int) ((List.range i).map (rowR a0 a2 a3 size l)) ((i * size : Nat) : Int)) ((List.range (cutK l.length size)).map (rowR a0 a2 a3 size l), 0)
  | 0, i, h, hi => by
    refine Ev.step (f := fun k => _) (fun k => by rw [cutroomref16_Cut.l0]) ?_
    have h1 : ¬ i < cutK l.length size := by omega
    rw [cutK_iff hs] at h1
    have h2 : ¬ ((i * size : Nat) : Int) < (l.length : Int) := by omega
    simp only [if_neg h2]
    rw [show cutK l.length size = i by omega]
    exact Ev.now _
  | d + 1, i, h, hi => by
    refine Ev.step (f := fun k => _) (fun k => by rw [cutroomref16_Cut.l0]) ?_
    have h1 : i < cutK l.length size := by omega
    rw [cutK_iff hs] at h1
    have h2 : i * size < l.length := by omega
    have hk := cutK_le (len := l.length) hs
    have hw : wrap64 (((i * size : Nat) : Int) + (size : Int)) = ((i * size : Nat) : Int) + (size : Int) := w64 _ (by omega) (by omega)
    have hc1 : i * size ≤ cutTo l.length size i := by unfold cutTo; omega
    have hc2 : cutTo l.length size i ≤ l.length := by unfold cutTo; omega
    simp only [hw, cutTo_mn, if_pos (show ((i * size : Nat) : Int) < (l.length : Int) by omega), if_pos (show (0 : Int) ≤ ((i * size : Nat) : Int) by omega), if_pos (show ((i * size : Nat) : Int) ≤ ((cutTo l.length size i : Nat) : Int) by omega), if_pos (show ((cutTo l.length size i : Nat) : Int) ≤ (l.length : Int) by omega), Int.toNat_natCast]
    simp only [if_pos (show ((List.range i).map (rowR a0 a2 a3 size l)).length < 2932031007402 by rw [List.length_map, List.length_range]; omega)]
    have := rcut_l0 a0 a2 a3 size l hs hs2 hl d (i + 1) (by omega) (by omega)
    rw [List.range_succ, List.map_append, List.map_cons, List.map_nil, rowR_next a0 a2 a3 size l i hi, show (i + 1) * size = i * size + size by rw [Nat.add_mul, Nat.one_mul], Int.natCast_add] at this
    exact this
theorem rdrow30 (a0 a2 a3 : Int) (size : Nat) (l : List Int) (K i : Nat) (hi : i < K) : rd_T30 ((List.range K).map (cutRow a0 a2 a3 size l)) (i : Int) = cutRow a0 a2 a3 size l i := by
  unfold rd_T30
  simp [hi]
theorem rdrow29 (a0 a2 a3 : Int) (size : Nat) (l : List Int) (K i : Nat) (hi : i < K) : rd_T29 ((List.range K).map (rowR a0 a2 a3 size l)) (i : Int) = rowR a0 a2 a3 size l i := by
  unfold rd_T29
  simp [hi]
theorem same_rows (a0 a2 a3 : Int) (size : Nat) (l : List Int) (i : Nat) : cutroomlaw16_same.f (cutRow a0 a2 a3 size l i).f0 (cutRow a0 a2 a3 size l i).f1 (cutRow a0 a2 a3 size l i).f2 (cutRow a0 a2 a3 size l i).f3 (rowR a0 a2 a3 size l i).f0 (rowR a0 a2 a3 size l i).f1 (rowR a0 a2 a3 size l i).f2 (rowR a0 a2 a3 size l i).f3 = some true := by
  unfold cutroomlaw16_same.f cutRow rowR
  simp [samebytes']
theorem cutK_pos (len size : Nat) (hs : 1 ≤ size) : 1 ≤ cutK len size := (cutK_iff hs 0).2 (.inl rfl)
theorem law_loop (a0 a2 a3 : Int) (size : Nat) (l : List Int) (hs : 1 ≤ size) (hl : l.length ≤ 3000) (h2 : -1 ≤ a2) : ∀ (d i : Nat), i + d = cutK l.length size →
    Ev (fun k => cutroomlaw16_PesCuts.l0 k l a2 ((List.range (cutK l.length size)).map (cutRow a0 a2 a3 size l)) 0 ((List.range (cutK l.length size)).map (rowR a0 a2 a3 size l)) (i : Int)) true
  | 0, i, h => by
    refine Ev.step (f := fun k => _) (fun k => by rw [cutroomlaw16_PesCuts.l0]) ?_
    have hK := cutK_le (len := l.length) hs
    have hK1 := cutK_pos l.length size hs
    simp only [if_neg (show ¬ (i : Int) < ((((List.range (cutK l.length size)).map (cutRow a0 a2 a3 size l)).length : Nat) : Int) by rw [List.length_map, List.length_range]; omega), if_true]
    obtain ⟨K, hKe⟩ : ∃ K, cutK l.length size = K := ⟨_, rfl⟩
    have hd : dataP ((List.range (cutK l.length size)).map (cutRow a0 a2 a3 size l)) = l := by
      rw [List.range_eq_range', dataP_rows a0 a2 a3 size l hs (cutK l.length size) 0 (by omega)]
      simp
    have hm : marksP 0 ((List.range (cutK l.length size)).map (cutRow a0 a2 a3 size l)) = if a2 = -1 then [] else [(0 : Int)] := by
      rw [List.range_eq_range', show cutK l.length size = (cutK l.length size - 1) + 1 by omega, List.range'_succ, List.map_cons, marksP, marksP_rest a0 a2 a3 size l _ 1 _ (by omega), List.append_nil]
      simp [cutRow]
    have j1 : Ev (fun k => pes_Join.f k ((List.range (cutK l.length size)).map (cutRow a0 a2 a3 size l))) (l, if a2 = -1 then [] else [(0 : Int)]) := by
      unfold pes_Join.f
      have := joinp_l0 ((List.range (cutK l.length size)).map (cutRow a0 a2 a3 size l)) (by rw [List.length_map, List.length_range]; omega) _ 0 [] [] rfl (by simp) (by rw [List.drop_zero, hd]; simp; omega) (by simp)
      rw [List.drop_zero, hd] at this
      simp only [List.length_nil, hm, List.nil_append] at this
      exact this
    refine Ev.bind j1 (Ev.bind (ev_of (samebytes' l)) ?_)
    simp only [if_true]
    by_cases c : a2 < 0
    · simp only [if_pos c]
      obtain rfl : a2 = -1 := by omega
      refine Ev.bind awake_ev ?_
      exact Ev.now _
    · simp only [if_neg c, if_neg (show ¬ a2 = -1 by omega)]
      refine Ev.bind awake_ev ?_
      exact Ev.now _
  | d + 1, i, h => by
    refine Ev.step (f := fun k => _) (fun k => by rw [cutroomlaw16_PesCuts.l0]) ?_
    have hK := cutK_le (len := l.length) hs
    have hi : i < cutK l.length size := by omega
    simp only [if_pos (show (i : Int) < ((((List.range (cutK l.length size)).map (cutRow a0 a2 a3 size l)).length : Nat) : Int) by rw [List.length_map, List.length_range]; omega), if_pos (show (0 : Int) ≤ (i : Int) by omega),
      if_pos (show (i : Int) < ((((List.range (cutK l.length size)).map (rowR a0 a2 a3 size l)).length : Nat) : Int) by rw [List.length_map, List.length_range]; omega), rdrow30 a0 a2 a3 size l _ i hi, rdrow29 a0 a2 a3 size l _ i hi]
    refine Ev.bind (ev_of (same_rows a0 a2 a3 size l i)) ?_
    simp only [if_true]
    have := law_loop a0 a2 a3 size l hs hl h2 d (i + 1) (by omega)
    simp only [w64 ((i : Int) + 1) (by omega) (by omega)]
    exact this
theorem valid_eq (a b c : Int) (l : List Int) : cutroomref16_Valid.f a b c l = pes_valid.f a b c l := rfl
theorem valid_some (a b c : Int) (l : List Int) : ∃ t, pes_valid.f a b c l = some t ∧ (t = true → -1 ≤ b) := by
  unfold pes_valid.f pes_mayStamp.f
  by_cases h1 : a ≥ 192 <;> by_cases h2 : a ≤ 239 <;> by_cases h3 : b ≥ (-1) <;> by_cases h4 : b < 8589934592 <;> by_cases h5 : c ≥ (-1) <;> by_cases h6 : c < 8589934592 <;> by_cases h7 : b ≥ 0 <;> simp [h1, h2, h3, h4, h5, h6, h7] <;> omega
theorem PesCuts : cutroomlaw16_PesCuts.Pure := by
  intro a0 l1 a2 a3 a4 w0 hml hby hb w2 w3 w4
  refine Ev.rounds ?_
  unfold cutroomlaw16_PesCuts.f
  by_cases c : (l1.length : Int) > 3000
  · simp only [if_pos c]; exact Ev.now _
  simp only [if_neg c]
  have inv : pes_Cut.f a0 l1 a2 a3 a4 = some ([], 1) → Ev (fun k => cutroomref16_Cut.f k a0 l1 a2 a3 a4) ([], 1) → Ev (fun k => (pes_Cut.f a0 l1 a2 a3 a4).bind fun bt188 => ((cutroomref16_Cut.f k a0 l1 a2 a3 a4).bind fun bt192 => (if bt188.2 = bt192.2 then (cutroomlaw16_PesCuts.j0 k l1 a2 bt188.1 bt188.2 bt192.1 ((bt188.1.length : Int) != (bt192.1.length : Int))) else (cutroomlaw16_PesCuts.j0 k l1 a2 bt188.1 bt188.2 bt192.1 true)))) true := by
    intro h1 h2
    refine Ev.bind (ev_of h1) (Ev.bind h2 ?_)
    simp only [if_true]
    refine Ev.step (f := fun k => _) (fun k => by rw [cutroomlaw16_PesCuts.j0]) ?_
    (try simp only [bne_self_eq_false, Bool.false_eq_true, if_false])
    refine Ev.step (f := fun k => _) (fun k => by rw [cutroomlaw16_PesCuts.l0]) ?_
    simp only [List.length_nil, Int.natCast_zero, Int.lt_irrefl, if_false, if_neg (show ¬ (1 : Int) = 0 by omega)]
    exact Ev.bind awake_ev (Ev.now _)
  have rinv : Ev (fun k => cutroomref16_Cut.j0 k a0 l1 a2 a3 a4 true) ([], 1) := by
    refine Ev.step (f := fun k => _) (fun k => by rw [cutroomref16_Cut.j0]) ?_
    simp only [if_true]
    exact Ev.now _
  by_cases hlo : a4 < 1
  · exact inv (by unfold pes_Cut.f; rw [if_pos hlo]) (by unfold cutroomref16_Cut.f; simp only [if_pos hlo]; exact rinv)
  by_cases hhi : a4 > 60000
  · exact inv (by unfold pes_Cut.f; rw [if_neg hlo, if_pos hhi]) (by unfold cutroomref16_Cut.f; simp only [if_neg hlo, if_pos hhi]; exact rinv)
  obtain ⟨t, ht, htv⟩ := valid_some a0 a2 a3 []
  cases t with
  | false =>
    refine inv (by unfold pes_Cut.f; rw [if_neg hlo, if_neg hhi, ht]; rfl) ?_
    unfold cutroomref16_Cut.f
    simp only [if_neg hlo, if_neg hhi, valid_eq, ht, Option.bind_some, Bool.not_false]
    exact rinv
  | true =>
    obtain ⟨size, rfl⟩ : ∃ size : Nat, a4 = (size : Int) := ⟨a4.toNat, by omega⟩
    have hs : 1 ≤ size := by omega
    have hs2 : size ≤ 60000 := by omega
    have hl : l1.length ≤ 3000 := by omega
    have h1 : pes_Cut.f a0 l1 a2 a3 (size : Int) = some ((List.range (cutK l1.length size)).map (cutRow a0 a2 a3 size l1), 0) := by
      unfold pes_Cut.f
      rw [if_neg hlo, if_neg hhi, ht, Option.bind_some, if_pos rfl, if_pos (by omega), Int.toNat_natCast]
    have h2 : Ev (fun k => cutroomref16_Cut.f k a0 l1 a2 a3 (size : Int)) ((List.range (cutK l1.length size)).map (rowR a0 a2 a3 size l1), 0) := by
      unfold cutroomref16_Cut.f
      simp only [if_neg hlo, if_neg hhi, valid_eq, ht, Option.bind_some, Bool.not_true]
      refine Ev.step (f := fun k => _) (fun k => by rw [cutroomref16_Cut.j0]) ?_
      have e0 := cutTo_mn l1.length size 0
      simp only [Nat.zero_mul, Int.natCast_zero, Int.zero_add] at e0
      have hc2 : cutTo l1.length size 0 ≤ l1.length := by unfold cutTo; omega
      simp only [Bool.false_eq_true, if_false, e0, if_pos (show (0 : Int) ≤ ((cutTo l1.length size 0 : Nat) : Int) by omega), if_pos (show ((cutTo l1.length size 0 : Nat) : Int) ≤ (l1.length : Int) by omega), Int.toNat_natCast]
      have := rcut_l0 a0 a2 a3 size l1 hs hs2 hl (cutK l1.length size - 1) 1 (by have := cutK_pos l1.length size hs; omega) (Nat.le_refl _)
      simpa [rowR] using this
    refine Ev.bind (ev_of h1) (Ev.bind h2 ?_)
    simp only [if_true]
    refine Ev.step (f := fun k => _) (fun k => by rw [cutroomlaw16_PesCuts.j0]) ?_
    simp only [List.length_map, bne_self_eq_false, Bool.false_eq_true, if_false]
    exact law_loop a0 a2 a3 size l1 hs hl (htv rfl) (cutK l1.length size) 0 (by omega)

end Go.Proofs.Ytdkibpdgnocgaaa.Pure
