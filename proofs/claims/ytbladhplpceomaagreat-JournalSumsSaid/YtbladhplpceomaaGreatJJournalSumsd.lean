/- The contract of journal.Encode. No conditions but on sizes. -/
import Derived.Test.YtbladhplpceomaaGreatJJournalSumsc
set_option linter.unusedVariables false
set_option linter.unusedSimpArgs false
namespace Go.Proofs.YtbladhplpceomaaGreat.PJournalSums
open Go.RowKit Go.Proofs.YtbladhplpceomaaGreatW.PrintWords Go.Proofs.YtbladhplpceomaaGreatW.PrintLast Go.Proofs.YtbladhplpceomaaGreatW.PrintMore
/-- The writer of an encoder: it stands behind the event's own variable. -/
def EN (w W : World) (b g : Nat) (o : Obj) (l : List Int) (bad : Bool) : Prop :=
  WS (fun k => k ≠ b) w W g l bad ∧ W.heap[b]? = some o ∧ b < g
theorem EN.hP {w W : World} {g b : Nat} {o : Obj} {l : List Int} {bad : Bool} (h : EN w W b g o l bad) : ∀ k, W.heap.size ≤ k → k ≠ b := fun k hk => by
  have := blk_lt h.2.1
  omega
theorem EN.step {w W W1 : World} {g b : Nat} {o : Obj} {l l1 : List Int} {bad bad1 : Bool} {e : Ending} (h : EN w W b g o l bad) (h1 : WPost (fun k => k ≠ b) w W g l1 bad1 e W1) : e = .returned (.tuple #[]) ∧ EN w W1 b g o l1 bad1 := by
  obtain ⟨h2, h3, h4⟩ := h
  obtain ⟨e1, e2, e3⟩ := h1
  refine ⟨e1, e2, (e3.2 b (blk_lt h3) ?_).trans h3, h4⟩
  intro hh
  rcases hh with hh | hh
  · omega
  · exact hh rfl
theorem EN.begin (w : World) (o : Obj) : EN w ((w.alloc o).alloc (.cells #[.slice none 0 0, .bool false] 90)) w.heap.size (w.heap.size + 1) o [] false := by
  refine ⟨⟨below_alloc (below_alloc (Below.refl _ _) _) _, by omega, .slice none 0 0, ?_, Kd.R_nil _ _ _ _ _⟩, blk_alloc (blk_new w o) _, by omega⟩
  have h := blk_new (w.alloc o) (.cells #[.slice none 0 0, .bool false] 90)
  simpa using h
/-- What an event's body is written as. -/
def evB (a0 : Int) (a1 a2 : ByteArray) (a3 a4 : Int) (l : List S99) : List Int := b8 a0 ++ txt a1 ++ txt a2 ++ b8 a3 ++ b8 a4 ++ [(l.length : Int) % 256] ++ l.flatMap clipB
def evBad (a1 a2 : ByteArray) (l : List S99) : Bool := l.foldl (fun b x => clipBad x b) (decide (255 < (a1.size : Int)) || decide (255 < (a2.size : Int)) || decide (255 < (l.length : Int)))
theorem add_add (ad : Addr) (m j : Nat) : (ad.add m).add j = ad.add (m + j) := by
  unfold Addr.add
  by_cases h1 : m = 0 <;> by_cases h2 : j = 0 <;> simp [h1, h2, Nat.add_assoc]
def evE (a1 a2 : ByteArray) (l : List S99) : Bool := evBad a1 a2 l
/-- The record of an event, of which the body and its sum are told. -/
def recB (b : List Int) (crc : Int) : List Int := (be (IntKind.u64.wrap (b.length : Int)) 4 ++ be (Go.bits .xor .u64 18446744073709551615 (IntKind.u64.wrap (b.length : Int))) 4) ++ b ++ (be (IntKind.u64.wrap crc) 4).reverse
def encV (a0 : Int) (a1 a2 : ByteArray) (a3 a4 : Int) (l : List S99) (crc : Int) : List Int := if evBad a1 a2 l then [] else recB (evB a0 a1 a2 a3 a4 l) crc
def encE (a1 a2 : ByteArray) (l : List S99) : Int := if evBad a1 a2 l then 1 else 0
def EPost (w : World) (r : List Int) (x : Int) (e : Ending) (w' : World) : Prop := ∃ v, e = .returned (.tuple #[v, .int .i64 x]) ∧ Kd.R (Kd.int .u8) 5 w' w.heap.size (fun _ => True) v r ∧ Below w.heap.size w w'
/-- An element of a row that came in, as it still lies. -/
theorem get_all {α : Type} {d : Kd α} {w W : World} {A : Option Addr} {n : Nat} {xs : List α} (h : Kd.C d w A n xs) (hb : Below w.heap.size w W) (z : α) (i : Nat) (hi : i < n) :
    ∃ ad cs, A = some ad ∧ d.K w (xs.getD i z) cs ∧ ∀ j u, cs[j]? = some u → W.cell? ((ad.add (i * d.sz)).add j) = some u := by
  obtain ⟨ad, c, e, hl, hK, hc⟩ := Kd.C_get h z (i : Int) (by omega) (by omega)
  simp only [Int.toNat_natCast] at hK hc
  exact ⟨ad, c, e, hK, fun j u hu => by rw [add_add]; exact (hb.cell (World.block_lt_of_cell? w _ (hc j u hu))).trans (hc j u hu)⟩
/-- A struct is read out of memory. -/
theorem load_elem_event {P : Program} {ops : Array Oper} {rest : List Oper} {o : Oper} {a : Act} {Q : Exit → Act → World → Prop} {W : World} (hgd : o.guard = none) (ty : TypeId) (x : Operand) (ho : o.op = .load ty x)
    (ad : Addr) (cs : List Value) (n : Nat) (hx : a.eval x = .pointer (some ad)) (hagg : ∀ w, Sem.run P (isAgg ty) w = .ok true w) (hsz : ∀ w, Sem.run P (sizeOf ty) w = .ok n w) (hn : cs.length = n)
    (hc : ∀ j u, cs[j]? = some u → W.cell? (ad.add j) = some u) (h : wpList P ops Q rest (a.put o.dst (.agg cs.toArray)) W) : wpList P ops Q (o :: rest) a W := by
  subst hn
  have hl := run_loadCells_list (P := P) W ad cs hc
  refine Kd.event_run hgd ?_ h
  unfold execOp
  simp only [ho, hx, Instr.loadAt, Instr.sureAddr, loadVar, Sem.run_bind, Sem.run_pure, Result.andThen, hagg, hsz, hl, if_true]
theorem blk_adds {w : World} {g t : Nat} {cs : List Value} (h : w.heap[g]? = some (.cells cs.toArray t (0, 0))) : ∀ j u, cs[j]? = some u → w.cell? ((⟨g, 0, none⟩ : Addr).add j) = some u := fun j u hu => by
  rw [add_plain, blk_cell h j]
  simpa using hu
theorem row_below {w W : World} {g : Nat} (h : Below w.heap.size w W) (hg : w.heap.size ≤ g) (cs : Array Value) : Below w.heap.size w (W.setRow g cs) :=
  ⟨h.os, h.tape, h.output, by simpa using h.size, fun k hk => (setRow_other W g k cs (by omega)).trans (h.block k hk)⟩
theorem row_kept {w W : World} {S : Nat → Prop} {g : Nat} (h : Kept w W S) (hg : S g ∨ w.heap.size ≤ g) (cs : Array Value) : Kept w (W.setRow g cs) S :=
  ⟨by simpa using h.1, fun k hk hn => (setRow_other W g k cs (fun e => by rcases hg with hg | hg; (exact hn (e ▸ hg)); omega)).trans (h.2 k hk hn)⟩
/-- A variable that has just been made gets its value. -/
theorem store_row_event {P : Program} {ops : Array Oper} {rest : List Oper} {o : Oper} {a : Act} {Q : Exit → Act → World → Prop} {W : World} (hgd : o.guard = none) (hN : o.dst = none) (ty : TypeId) (x y : Operand) (ho : o.op = .store ty x y)
    (g : Nat) (cells : Array Value) (hx : a.eval x = .pointer (some ⟨g, 0, none⟩)) (hy : a.eval y = .agg cells) (t : TypeId) (old : Array Value) (hg : W.heap[g]? = some (.cells old t (0, 0))) (hi : (P.info? ty).map (·.size) = some cells.size)
    (hold : old.size = cells.size) (h1 : cells.all (·.oneCell') = true)
    (h : ∀ w', w' = W.setRow g cells → w'.heap[g]? = some (.cells cells t (0, 0)) → wpList P ops Q rest a w') : wpList P ops Q (o :: rest) a W := by
  refine wpList_plain hgd fun K hK => ?_
  refine wp_store_row ty x y ho g cells hx hy t old hg hi hold h1 ?_
  rw [hN]
  exact hK _ _ (h _ rfl (setRow_heap W g old cells t (0, 0) hg))
theorem WS.row {P : Nat → Prop} {w0 W : World} {g b : Nat} {l : List Int} {bad : Bool} (h : WS P w0 W g l bad) (hP : ∀ k, P k → k ≠ b) (hbg : g ≠ b) (hle : w0.heap.size ≤ b) (cs : Array Value) : WS P w0 (W.setRow b cs) g l bad := by
  obtain ⟨hB, hg, v, hb, hR⟩ := h
  exact ⟨row_below hB hle cs, hg, v, (setRow_other W b g cs hbg).trans hb, Kd.R_step hR (fun k ho _ => setRow_other W b k cs (hP k ho.1))⟩
theorem WS.newB {P : Nat → Prop} {w0 W W1 : World} {g : Nat} {l : List Int} {bad : Bool} (h : WS P w0 W g l bad) (hb : Below W.heap.size W W1) : WS (fun k => P k ∧ k < W.heap.size) w0 W1 g l bad := by
  obtain ⟨hB, hg, v, hc, hR⟩ := h
  exact ⟨below_then hB hB.size hb, hg, v, blk_below hc hb, Kd.R_mono (Kd.R_below (Kd.R_bound hR) hb) (fun k hk => ⟨⟨hk.1.1, hk.2.2.1⟩, hk.1.2⟩)⟩
/-- A clip is written: it lies in a variable of its own. -/
theorem EN.clip {w W W1 : World} {g b gb : Nat} {o : Obj} {l : List Int} {bad : Bool} {old : Array Value} (h : EN w W b g o l bad) (hb : Below W.heap.size W W1) (hgb : gb = W.heap.size) (hbx : W1.heap[gb]? = some (.cells old 99 (0, 0))) (cs : Array Value) :
    WS (fun k => k ≠ b ∧ k ≠ gb) w (W1.setRow gb cs) g l bad ∧ (∀ k, (W1.setRow gb cs).heap.size ≤ k → k ≠ b ∧ k ≠ gb) ∧
      ∀ e w3 l1 bad1, WPost (fun k => k ≠ b ∧ k ≠ gb) w (W1.setRow gb cs) g l1 bad1 e w3 → e = .returned (.tuple #[]) ∧ EN w w3 b g o l1 bad1 := by
  obtain ⟨h1, h2, h3⟩ := h
  have hlt := blk_lt hbx
  have hbl := blk_lt h2
  have hgl : g < W.heap.size := by obtain ⟨_, _, _, hc, _⟩ := h1; exact blk_lt hc
  have hsz : (W1.setRow gb cs).heap.size = W1.heap.size := by simp
  have hwl : w.heap.size ≤ gb := by have := h1.1.size; omega
  refine ⟨((h1.newB hb).mono (fun k hk => ⟨hk.1, by omega⟩)).row (fun k hk => hk.2) (by omega) hwl cs, fun k hk => by omega, ?_⟩
  intro e w3 l1 bad1 hp
  obtain ⟨e1, e2, e3⟩ := hp
  refine ⟨e1, e2.mono (fun k hk => hk.1), ?_, h3⟩
  refine (e3.2 b (by omega) ?_).trans ((setRow_other W1 gb b cs (by omega)).trans (blk_below h2 hb))
  intro hh
  rcases hh with hh | hh
  · omega
  · exact hh.1 rfl
theorem take_clips (l : List S99) (i : Nat) (h : i < l.length) : (l.take (i + 1)).flatMap clipB = (l.take i).flatMap clipB ++ clipB (l.getD i z99) := by
  rw [List.take_succ_eq_append_getElem h, List.flatMap_append]
  congr 1
  simp [List.getD_eq_getElem?_getD, h]
theorem take_bads (l : List S99) (b : Bool) (i : Nat) (h : i < l.length) : (l.take (i + 1)).foldl (fun b x => clipBad x b) b = clipBad (l.getD i z99) ((l.take i).foldl (fun b x => clipBad x b) b) := by
  rw [List.take_succ_eq_append_getElem h, List.foldl_append]
  simp [List.getD_eq_getElem?_getD, h]
theorem flat_le (l : List S99) (i : Nat) (h : i < l.length) : ((l.take i).flatMap clipB).length + (clipB (l.getD i z99)).length ≤ (l.flatMap clipB).length := by
  have e : l.flatMap clipB = (l.take (i + 1)).flatMap clipB ++ (l.drop (i + 1)).flatMap clipB := by rw [← List.flatMap_append, List.take_append_drop]
  rw [e, take_clips l i h]
  simp only [List.length_append]
  omega
theorem w64 (n : Int) (h1 : -9223372036854775808 ≤ n) (h2 : n ≤ 9223372036854775807) : wrap64 n = n := by unfold wrap64; omega
theorem rev_list4 (a b c d : Int) : slices_Reverse_byte_byte.f 5 [a, b, c, d] = some [d, c, b, a] := by
  simp [slices_Reverse_byte_byte.f, slices_Reverse_byte_byte.l0, wrap64, rd]
theorem rev4 (x : Int) : slices_Reverse_byte_byte.f 5 (be x 4) = some (be x 4).reverse := by
  simp only [be, rev_list4]
  rfl
/-- Three rows of bytes, one after the other. -/
theorem ev_of {α : Type} {o : Option α} {r : α} (h : o = some r) : Ev (fun _ => o) r := ⟨0, fun _ _ => h⟩
theorem concat3 (a b c : List Int) (h : a.length + b.length + c.length ≤ 100000000000) : Ev (fun k => slices_Concat_byte_byte.f k [a, b, c]) (a ++ b ++ c) := by
  unfold slices_Concat_byte_byte.f
  have r0 : rd_L1 [a, b, c] 0 = a := rfl
  have r1 : rd_L1 [a, b, c] 1 = b := rfl
  have r2 : rd_L1 [a, b, c] 2 = c := rfl
  have hl : (([a, b, c] : List (List Int)).length : Int) = 3 := rfl
  rw [hl]
  refine Ev.step (f := fun k => _) (fun k => by rw [slices_Concat_byte_byte.l0]) ?_
  simp only [hl, r0, w64 (0 + (a.length : Int)) (by omega) (by omega), w64 ((0 : Int) + 1) (by omega) (by omega), if_pos (show (0 : Int) < 3 by decide), if_pos (show (0 : Int) ≤ 0 by decide), if_neg (show ¬ (0 + (a.length : Int) < 0) by omega)]
  refine Ev.step (f := fun k => _) (fun k => by rw [slices_Concat_byte_byte.l0]) ?_
  simp only [hl, show (0 : Int) + 1 = 1 from rfl, r1, w64 (0 + (a.length : Int) + (b.length : Int)) (by omega) (by omega), w64 ((1 : Int) + 1) (by omega) (by omega), if_pos (show (1 : Int) < 3 by decide), if_pos (show (0 : Int) ≤ 1 by decide), if_neg (show ¬ (0 + (a.length : Int) + (b.length : Int) < 0) by omega)]
  refine Ev.step (f := fun k => _) (fun k => by rw [slices_Concat_byte_byte.l0]) ?_
  simp only [hl, show (1 : Int) + 1 = 2 from rfl, r2, w64 (0 + (a.length : Int) + (b.length : Int) + (c.length : Int)) (by omega) (by omega), w64 ((2 : Int) + 1) (by omega) (by omega), if_pos (show (2 : Int) < 3 by decide), if_pos (show (0 : Int) ≤ 2 by decide), if_neg (show ¬ (0 + (a.length : Int) + (b.length : Int) + (c.length : Int) < 0) by omega)]
  refine Ev.step (f := fun k => _) (fun k => by rw [slices_Concat_byte_byte.l0]) ?_
  simp only [show (2 : Int) + 1 = 3 from rfl, if_neg (show ¬ (3 : Int) < 3 by decide)]
  have hg : slices_Grow_byte_byte.f [] (0 + (a.length : Int) + (b.length : Int) + (c.length : Int)) = some [] := by
    unfold slices_Grow_byte_byte.f; rw [if_pos ⟨rfl, by omega, by omega⟩]
  refine Ev.bind (ev_of hg) ?_
  rw [hl]
  refine Ev.step (f := fun k => _) (fun k => by rw [slices_Concat_byte_byte.l1]) ?_
  simp only [hl, r0, List.nil_append, List.length_nil, w64 ((0 : Int) + 1) (by omega) (by omega), if_pos (show (0 : Int) < 3 by decide), if_pos (show (0 : Int) ≤ 0 by decide), if_pos (show 0 + a.length < 140737488355328 by omega)]
  refine Ev.step (f := fun k => _) (fun k => by rw [slices_Concat_byte_byte.l1]) ?_
  simp only [hl, show (0 : Int) + 1 = 1 from rfl, r1, w64 ((1 : Int) + 1) (by omega) (by omega), if_pos (show (1 : Int) < 3 by decide), if_pos (show (0 : Int) ≤ 1 by decide), if_pos (show a.length + b.length < 140737488355328 by omega)]
  refine Ev.step (f := fun k => _) (fun k => by rw [slices_Concat_byte_byte.l1]) ?_
  simp only [hl, show (1 : Int) + 1 = 2 from rfl, r2, w64 ((2 : Int) + 1) (by omega) (by omega), if_pos (show (2 : Int) < 3 by decide), if_pos (show (0 : Int) ≤ 2 by decide), List.length_append, if_pos (show a.length + b.length + c.length < 140737488355328 by omega)]
  refine Ev.step (f := fun k => _) (fun k => by rw [slices_Concat_byte_byte.l1]) ?_
  simp only [show (2 : Int) + 1 = 3 from rfl, if_neg (show ¬ (3 : Int) < 3 by decide)]
  exact Ev.now _
theorem lit3 {W : World} {g t : Nat} {A1 A2 A3 : Option Addr} {c1 c2 c3 : Nat} {x y z : List Int} (h : W.heap[g]? = some (.cells #[.slice A1 x.length c1, .slice A2 y.length c2, .slice A3 z.length c3] t (0, 0)))
    (l1 : x.length ≤ c1) (C1 : (Kd.int .u8).C W A1 x.length x) (l2 : y.length ≤ c2) (C2 : (Kd.int .u8).C W A2 y.length y) (l3 : z.length ≤ c3) (C3 : (Kd.int .u8).C W A3 z.length z) : Kd.C (Kd.slice 5 (Kd.int .u8)) W (some ⟨g, 0, none⟩) 3 [x, y, z] := by
  refine ⟨rfl, by decide, fun _ => ⟨_, rfl, fun j p hp => ?_⟩⟩
  have hc := blk_cell h
  have one : ∀ {v : Value} (m : Nat), W.cell? ((⟨g, 0, none⟩ : Addr).add (m + 0)) = some v → ∀ i u, ([v] : List Value)[i]? = some u → W.cell? ((⟨g, 0, none⟩ : Addr).add (m + i)) = some u := by
    intro v m h i u hu
    match i, hu with
    | 0, hu => rw [h]; simpa using hu
  match j, hp with
  | 0, hp =>
    obtain rfl : x = p := by simpa using hp
    exact ⟨[_], rfl, ⟨_, _, rfl, l1, C1⟩, one _ (by show W.cell? ((⟨g, 0, none⟩ : Addr).add 0) = _; rw [add_plain]; exact hc 0)⟩
  | 1, hp =>
    obtain rfl : y = p := by simpa using hp
    exact ⟨[_], rfl, ⟨_, _, rfl, l2, C2⟩, one _ (by show W.cell? ((⟨g, 0, none⟩ : Addr).add 1) = _; rw [add_plain]; exact hc 1)⟩
  | 2, hp =>
    obtain rfl : z = p := by simpa using hp
    exact ⟨[_], rfl, ⟨_, _, rfl, l3, C3⟩, one _ (by show W.cell? ((⟨g, 0, none⟩ : Addr).add 2) = _; rw [add_plain]; exact hc 2)⟩
theorem R_carry {α : Type} {d : Kd α} {e base : Nat} {ok : Nat → Prop} {W W1 : World} {v : Value} {xs : List α} (h : d.R e W base ok v xs) (hK : Kept W W1 (fun _ => False)) : d.R e W1 base (fun k => k < W.heap.size) v xs :=
  Kd.R_step (Kd.R_mono (ok' := fun k => k < W.heap.size) (Kd.R_bound h) (fun k hk => hk.2.2.1)) (fun k _ hk => hK.2 k hk (fun h => h))
theorem info_size {P : Program} {t n : Nat} (h : ∀ w, Sem.run P (sizeOf t) w = .ok n w) : (P.info? t).map (·.size) = some n := by
  have h0 := h default
  cases hq : P.info? t with
  | none => simp [sizeOf, typeInfo, hq] at h0
  | some i => simpa [sizeOf, typeInfo, hq] using h0
set_option maxHeartbeats 2000000 in
set_option maxRecDepth 100000 in
theorem journal_Encode.core (w : World) (a0 : Int) (a1 a2 : ByteArray) (a3 a4 : Int) (A : Option Addr) (c : Nat) (l : List S99) (k : Nat) (crc : Int) (hr : Kd.C k99 w A l.length l) (hc0 : l.length ≤ c) (hl : (evB a0 a1 a2 a3 a4 l).length ≤ 10000000000)
    (hs : journal_Sum.f k (evB a0 a1 a2 a3 a4 l) = some crc) :
    Calls Tryz.prog 18 #[.agg #[.int .i64 a0, .string a1, .string a2, .int .i64 a3, .int .i64 a4, .slice A l.length c]] w (EPost w (encV a0 a1 a2 a3 a4 l crc) (encE a1 a2 l)) := by
  have hu30 := Tryz.underlying30
  have hu90 := Tryz.underlying90
  have hu99 := Tryz.underlying99
  have HC := Aside0.mk hr
  have HC0 := Aside0.mk hc0
  have hl' := hl
  unfold evB at hl'
  have HL := Aside0.mk hl'
  have HW := Aside0.mk (EN.begin w (.cells #[.int .i64 a0, .string a1, .string a2, .int .i64 a3, .int .i64 a4, .slice A l.length c] 30))
  have HS := Aside0.mk hs
  clear hr hl hl' hc0 hs
  go_enter Tryz.func18, Tryz.ntmps18
  go_wp2_with (first | (go_at_call 42; go_must (refine (writer_n8 _ w _ _ _ _ _ (HW.out.hP) HW.out.1 (by have := HL.out; (try simp only [List.length_append, b8_len, txt_len, srcB_len, List.length_cons, List.length_nil]); (try simp only [List.length_append, b8_len, txt_len, srcB_len, List.length_cons, List.length_nil] at this); omega)).mono ?_); intro e w1 h; obtain ⟨rfl, h1⟩ := HW.out.step h; have h2 := h1.2.1; clear HW h; have HW := Aside0.mk h1; (try clear hc); (try clear hf); have hc := blk_cell h2; have hf := blk_frozen h2; clear h1 h2) | (go_at_call 43; go_must (refine (writer_txt _ w _ _ _ _ _ (HW.out.hP) HW.out.1 (by have := HL.out; (try simp only [List.length_append, b8_len, txt_len, srcB_len, List.length_cons, List.length_nil]); (try simp only [List.length_append, b8_len, txt_len, srcB_len, List.length_cons, List.length_nil] at this); omega)).mono ?_); intro e w1 h; obtain ⟨rfl, h1⟩ := HW.out.step h; have h2 := h1.2.1; clear HW h; have HW := Aside0.mk h1; (try clear hc); (try clear hf); have hc := blk_cell h2; have hf := blk_frozen h2; clear h1 h2) | (go_at_call 44; go_must (refine (writer_count.calls _ w _ _ _ _ _ (HW.out.hP) HW.out.1 (by have := HL.out; (try simp only [List.length_append, b8_len, txt_len, srcB_len, List.length_cons, List.length_nil]); (try simp only [List.length_append, b8_len, txt_len, srcB_len, List.length_cons, List.length_nil] at this); omega)).mono ?_); intro e w1 h; obtain ⟨rfl, h1⟩ := HW.out.step h; have h2 := h1.2.1; clear HW h; have HW := Aside0.mk h1; (try clear hc); (try clear hf); have hc := blk_cell h2; have hf := blk_frozen h2; clear h1 h2))
  generalize hl1 : ([] : List Int) ++ b8 a0 ++ txt a1 ++ txt a2 ++ b8 a3 ++ b8 a4 ++ [(l.length : Int) % 256] = l1 at *
  generalize hb1 : (false || decide (255 < (a1.size : Int)) || decide (255 < (a2.size : Int)) || decide (255 < (l.length : Int))) = bad1 at *
  have hll : l1.length + (l.flatMap clipB).length ≤ 10000000000 := by
    rw [← hl1]; have := HL.out; simp only [List.length_append, List.length_nil] at this ⊢; omega
  have H1 := Aside0.mk hl1
  have HB1 := Aside0.mk hb1
  have HLL := Aside0.mk hll
  clear hc hf hl1 hll HL hb1
  go_loopw [40] (fun v40 W => ∃ i : Nat, v40 = .int .i64 i ∧ i ≤ l.length ∧ Aside0 (EN w W w.heap.size (w.heap.size + 1) (.cells #[.int .i64 a0, .string a1, .string a2, .int .i64 a3, .int .i64 a4, .slice A l.length c] 30) (l1 ++ (l.take i).flatMap clipB) ((l.take i).foldl (fun b x => clipBad x b) bad1))) (fun v40 _ => l.length - (intOf v40).toNat)
  case atStart => exact ⟨0, rfl, Nat.zero_le _, ⟨by simpa using HW.out⟩⟩
  case round =>
    obtain ⟨i, rfl, hi, HW⟩ := hrel
    by_cases hlt : i < l.length
    · obtain ⟨ad, cs, rfl, hK, hxs⟩ := get_all HC.out HW.out.1.1 z99 i hlt
      generalize hx : l.getD i z99 = x at *
      obtain ⟨A2, c2, rfl, hl2, hC2⟩ := k99_open hK
      have HXS := Aside0.mk hxs
      have HC2 := Aside0.mk hC2
      have HX := Aside0.mk hx
      clear hK hC2 hx hxs
      go_wp2_with (first | ((with_reducible refine gate_dst (N := 43) rfl ?_); go_must (refine load_elem_event rfl 99 (.tmp 42) rfl (ad.add (i * 22)) [.int .i64 x.f0, .int .i64 x.f1, .int .i64 x.f2.f0, .string x.f2.f1, .int .i64 x.f2.f2.f0, .int .i64 x.f2.f2.f1, .int .i64 x.f2.f3.f0, .int .i64 x.f2.f3.f1, .bool x.f2.f4, .int .i64 x.f3.f0, .string x.f3.f1, .int .i64 x.f3.f2.f0, .int .i64 x.f3.f2.f1, .int .i64 x.f3.f3.f0, .int .i64 x.f3.f3.f1, .bool x.f3.f4, .int .i64 x.f4, .int .i64 x.f5, .int .i64 x.f6, .string x.f7, .int .i64 x.f8, .slice A2 x.f9.length c2] 22 rfl Tryz.isAgg99 Tryz.sizeOf99 rfl HXS.out ?_)) | ((with_reducible refine gate_dst (N := 45) rfl ?_); go_must (refine load_elem_event rfl 99 (.tmp 6) rfl ⟨gb, 0, none⟩ [.int .i64 x.f0, .int .i64 x.f1, .int .i64 x.f2.f0, .string x.f2.f1, .int .i64 x.f2.f2.f0, .int .i64 x.f2.f2.f1, .int .i64 x.f2.f3.f0, .int .i64 x.f2.f3.f1, .bool x.f2.f4, .int .i64 x.f3.f0, .string x.f3.f1, .int .i64 x.f3.f2.f0, .int .i64 x.f3.f2.f1, .int .i64 x.f3.f3.f0, .int .i64 x.f3.f3.f1, .bool x.f3.f4, .int .i64 x.f4, .int .i64 x.f5, .int .i64 x.f6, .string x.f7, .int .i64 x.f8, .slice A2 x.f9.length c2] 22 rfl Tryz.isAgg99 Tryz.sizeOf99 rfl (blk_adds HBX2.out) ?_)) | ((with_reducible refine gate_dst (N := 6) rfl ?_); go_must (refine box_event ?hg (N := 6) ?hd (cs := #[.int .i64 0, .int .i64 0, .int .i64 0, .string (⟨#[]⟩ : ByteArray), .int .i64 0, .int .i64 0, .int .i64 0, .int .i64 0, .bool false, .int .i64 0, .string (⟨#[]⟩ : ByteArray), .int .i64 0, .int .i64 0, .int .i64 0, .int .i64 0, .bool false, .int .i64 0, .int .i64 0, .int .i64 0, .string (⟨#[]⟩ : ByteArray), .int .i64 0, .slice none 0 0]) (t := 99) ?hr ?_; (case hd => rfl); (case hg => rfl); (case hr => first | (go_simp; done) | (go_simp; rfl))); intro gb hgb W1 hbox hb1; have HBX := Aside0.mk hbox; have HB1 := Aside0.mk hb1; have HGB := Aside0.mk hgb; clear hbox hb1 hgb) | ((with_reducible refine gate_store (t := 99) (p := 6) rfl ?_); go_must (refine store_row_event rfl rfl 99 (.tmp 6) (.tmp 43) rfl gb #[.int .i64 x.f0, .int .i64 x.f1, .int .i64 x.f2.f0, .string x.f2.f1, .int .i64 x.f2.f2.f0, .int .i64 x.f2.f2.f1, .int .i64 x.f2.f3.f0, .int .i64 x.f2.f3.f1, .bool x.f2.f4, .int .i64 x.f3.f0, .string x.f3.f1, .int .i64 x.f3.f2.f0, .int .i64 x.f3.f2.f1, .int .i64 x.f3.f3.f0, .int .i64 x.f3.f3.f1, .bool x.f3.f4, .int .i64 x.f4, .int .i64 x.f5, .int .i64 x.f6, .string x.f7, .int .i64 x.f8, .slice A2 x.f9.length c2] rfl rfl 99 #[.int .i64 0, .int .i64 0, .int .i64 0, .string (⟨#[]⟩ : ByteArray), .int .i64 0, .int .i64 0, .int .i64 0, .int .i64 0, .bool false, .int .i64 0, .string (⟨#[]⟩ : ByteArray), .int .i64 0, .int .i64 0, .int .i64 0, .int .i64 0, .bool false, .int .i64 0, .int .i64 0, .int .i64 0, .string (⟨#[]⟩ : ByteArray), .int .i64 0, .slice none 0 0] HBX.out (info_size Tryz.sizeOf99) rfl (by simp [Value.oneCell']) ?_); intro W2 hw2 hbx2; have HW2 := Aside0.mk hw2; have HBX2 := Aside0.mk hbx2; clear hw2 hbx2) | (go_at_call 45; obtain ⟨q1, q2, q3⟩ := EN.clip HW.out HB1.out HGB.out HBX.out #[.int .i64 x.f0, .int .i64 x.f1, .int .i64 x.f2.f0, .string x.f2.f1, .int .i64 x.f2.f2.f0, .int .i64 x.f2.f2.f1, .int .i64 x.f2.f3.f0, .int .i64 x.f2.f3.f1, .bool x.f2.f4, .int .i64 x.f3.f0, .string x.f3.f1, .int .i64 x.f3.f2.f0, .int .i64 x.f3.f2.f1, .int .i64 x.f3.f3.f0, .int .i64 x.f3.f3.f1, .bool x.f3.f4, .int .i64 x.f4, .int .i64 x.f5, .int .i64 x.f6, .string x.f7, .int .i64 x.f8, .slice A2 x.f9.length c2]; rw [← HW2.out] at q1 q2 q3; go_must (refine (writer_clip.calls _ w _ _ _ _ x A2 c2 HC2.out q2 q1 (by rw [← clipB_len, List.length_append]; have h1 := flat_le l i hlt; rw [HX.out] at h1; have h2 := HLL.out; omega)).mono ?_); intro e w3 h; obtain ⟨rfl, h1⟩ := q3 e w3 _ _ h; clear HW HW2 HB1 HGB HBX HBX2 q1 q2 q3 h; have HW := Aside0.mk h1; clear h1))
      have hm := Kd.C_max HC.out
      have e1 : wrap64 ((i : Int) + 1) = ((i + 1 : Nat) : Int) := by unfold wrap64; omega
      rw [e1]
      have t1 := take_clips l i hlt
      have t2 := take_bads l bad1 i hlt
      rw [HX.out] at t1 t2
      refine ⟨⟨i + 1, rfl, by omega, ⟨by rw [t1, t2, ← List.append_assoc]; exact HW.out⟩⟩, by simp only [intOf]; omega⟩
    · rw [List.take_of_length_le (by omega)] at HW
      have hW := HW.out
      obtain ⟨⟨hB, hg, v, hb, hR⟩, hE, hlt2⟩ := hW
      generalize hbody : l1 ++ l.flatMap clipB = body at *
      have hev : evB a0 a1 a2 a3 a4 l = body := by rw [← hbody, ← H1.out]; simp only [evB, List.nil_append]
      have hbad : evBad a1 a2 l = l.foldl (fun b x => clipBad x b) bad1 := by rw [← HB1.out]; simp only [evBad, Bool.false_or]
      have hbl : body.length ≤ 10000000000 := by rw [← hbody, List.length_append]; exact HLL.out
      generalize l.foldl (fun b x => clipBad x b) bad1 = bd at *
      have HEV := Aside0.mk hev
      have hsum := HS.out
      rw [hev] at hsum
      have HSB := Aside0.mk hsum
      have HBD := Aside0.mk hbad
      have HBL := Aside0.mk hbl
      obtain ⟨A3, c3, rfl⟩ := Kd.R_slice hR
      have HR := Aside0.mk (Kd.R_reads' hR)
      have HBW := Aside0.mk hB
      have HG := Aside0.mk hb
      have HBM := Aside0.mk (Below.refl wr.heap.size wr)
      have hc := blk_cell hb
      clear hR hB hb hbad hev hbl hsum HS hbody HW hE H1 HB1 HLL
      cases bd
      · go_wp2_with (first | (go_at_call 46; have hq := HL1; clear hq; go_must ((refine (journal_appended.calls 9 _ _ _ _ 4 _ wr _ HBM.out HO1.out (app_some _ 4 _ (by omega) (by rw [HL1.out]; decide))).mono ?_); rintro e w1 ⟨v1, rfl, hR1, hB1, hK1⟩; have HLo := HL1.out; clear HBM HO1 HL1; have HBM := Aside0.mk hB1; (try rw [show (if IntKind.u64.signed = true then (-1 : Int) else IntKind.u64.max) = 18446744073709551615 from rfl] at hR1); obtain ⟨o2, ho2⟩ : ∃ o, o = o1 ++ be (Go.bits .xor .u64 18446744073709551615 (IntKind.u64.wrap (body.length : Int))) 4 := ⟨_, rfl⟩; rw [← ho2] at hR1; have HL2 : Aside0 (o2.length = 8) := ⟨by rw [ho2, List.length_append, be_len, HLo]⟩; rw [HE1.out] at ho2; obtain ⟨A2, c2, rfl⟩ := Kd.R_slice hR1; have HO2 := Aside0.mk hR1; have HE2 := Aside0.mk ho2; clear hB1 hR1 hK1 ho2 HE1 HLo; (try clear hc); have hc := blk_cell (blk_below HG.out HBM.out))) | (go_at_call 46; have hq := HO2; clear hq; go_must ((refine (journal_appended.calls 9 (fun _ => False) (.slice none 0 0) [] _ 4 _ wr _ HBM.out (Kd.R_nil _ _ _ _ _) (app_some _ 4 [] (by omega) (by simp))).mono ?_); rintro e w1 ⟨v1, rfl, hR1, hB1, hK1⟩; clear HBM; have HBM := Aside0.mk hB1; (try (have n2 := Aside0.mk (R_carry HO2.out hK1); clear HO2; have HO2 := n2; clear n2)); obtain ⟨o1, ho1⟩ : ∃ o, o = [] ++ be (IntKind.u64.wrap crc) 4 := ⟨_, rfl⟩; rw [← ho1] at hR1; have HL1 : Aside0 (o1.length = 4) := ⟨by rw [ho1, List.nil_append, be_len]⟩; obtain ⟨A1, c1, rfl⟩ := Kd.R_slice hR1; have HO1 := Aside0.mk hR1; have HE1 := Aside0.mk ho1; clear hB1 hR1 hK1 ho1; (try clear hc); have hc := blk_cell (blk_below HG.out HBM.out))) | (go_at_call 46; go_must ((refine (journal_appended.calls 9 (fun _ => False) (.slice none 0 0) [] _ 4 _ wr _ HBM.out (Kd.R_nil _ _ _ _ _) (app_some _ 4 [] (by omega) (by simp))).mono ?_); rintro e w1 ⟨v1, rfl, hR1, hB1, hK1⟩; clear HBM; have HBM := Aside0.mk hB1; (try (have n2 := Aside0.mk (R_carry HO2.out hK1); clear HO2; have HO2 := n2; clear n2)); obtain ⟨o1, ho1⟩ : ∃ o, o = [] ++ be (IntKind.u64.wrap (body.length : Int)) 4 := ⟨_, rfl⟩; rw [← ho1] at hR1; have HL1 : Aside0 (o1.length = 4) := ⟨by rw [ho1, List.nil_append, be_len]⟩; obtain ⟨A1, c1, rfl⟩ := Kd.R_slice hR1; have HO1 := Aside0.mk hR1; have HE1 := Aside0.mk ho1; clear hB1 hR1 hK1 ho1; (try clear hc); have hc := blk_cell (blk_below HG.out HBM.out))) | (go_at_call 14; go_must ((refine (journal_Sum.calls k A3 c3 body crc _ (Kd.C_below HR.out.2.2 HBM.out) HR.out.2.1 HSB.out).mono ?_); rintro e w1 ⟨rfl, hd⟩; have n0 := Aside0.mk (below_then HBM.out HBM.out.size hd.below); have n1 := Aside0.mk (Kd.R_below HO2.out hd.below); clear HBM HO2 hd; have HBM := n0; have HO2 := n1; clear n0 n1; (try clear hc); have hc := blk_cell (blk_below HG.out HBM.out))) | (go_at_call 47; go_must ((refine (slices_Reverse_byte_byte.calls 5 _ _ _ o1.reverse wr _ HBM.out HO1.out (by rw [HE1.out, List.nil_append]; exact rev4 _)).mono ?_); rintro e w1 ⟨rfl, hR1, hB1, hK1⟩; have n2 := Aside0.mk (Kd.R_step HO2.out (fun k hk hlt => hK1.2 k hlt (by rintro (h | h); (exact h); omega))); clear HO2 HO1 HBM; have HO2 := n2; have HO1 := Aside0.mk hR1; have HBM := Aside0.mk hB1; clear n2 hR1 hB1 hK1; (try clear hc); have hc := blk_cell (blk_below HG.out HBM.out))) | (go_at_call 48; go_must ((obtain ⟨kk, hkk⟩ := Ev.rounds (concat3 o2 body o1.reverse (by rw [List.length_reverse, HL1.out, HL2.out]; have := HBL.out; omega))); (refine (slices_Concat_byte_byte.calls kk _ 3 [o2, body, o1.reverse] _ _ (lit3 (by rw [List.length_reverse]; exact blk_new _ _) (Kd.R_reads' HO2.out).2.1 (Kd.C_alloc (Kd.R_reads' HO2.out).2.2 _) HR.out.2.1 (Kd.C_alloc (Kd.C_below HR.out.2.2 HBM.out) _) (by rw [List.length_reverse]; exact (Kd.R_reads' HO1.out).2.1) (Kd.C_alloc (Kd.R_reads' HO1.out).2.2 _)) (Nat.le_refl 3) hkk).mono ?_); rintro e w1 ⟨v1, rfl, hR1, hB1⟩; have HRF := Aside0.mk hR1; have HBF := Aside0.mk hB1; clear hR1 hB1 hkk)))
        go_ret2
        have hwl := HBW.out.size
        have hwm := HBM.out.size
        refine ⟨_, by rw [show encE a1 a2 l = 0 by unfold encE; rw [HBD.out]; rfl]; rfl, ?_, below_then (below_alloc (below_then HBW.out hwl HBM.out) _) (by simp; omega) HBF.out⟩
        have e1 : encV a0 a1 a2 a3 a4 l crc = o2 ++ body ++ o1.reverse := by
          unfold encV
          rw [HBD.out, if_neg (by decide), HEV.out, HE2.out, HE1.out]
          simp only [recB, List.nil_append]
        rw [e1]
        exact Kd.R_lower HRF.out (by simp; omega)
      · go_wp2
        go_ret2
        refine ⟨.slice none 0 0, by rw [show encE a1 a2 l = 1 by unfold encE; rw [HBD.out]; rfl]; rfl, ?_, HBW.out⟩
        rw [show encV a0 a1 a2 a3 a4 l crc = [] by unfold encV; rw [HBD.out]; rfl]
        exact Kd.R_nil _ _ _ _ _
end Go.Proofs.YtbladhplpceomaaGreat.PJournalSums
