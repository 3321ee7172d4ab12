/- Contracts of the journal's writer: a number, a count, a text. No conditions but on sizes. -/
import Derived.Test.YtbladhplpceomaaGreatPJournalSumsx3
set_option linter.unusedVariables false
set_option linter.unusedSimpArgs false
namespace Go.Proofs.YtbladhplpceomaaGreat.PJournalSums
open Go.RowKit Go.Proofs.YtbladhplpceomaaGreatW.PrintWords Go.Proofs.YtbladhplpceomaaGreatW.PrintLast Go.Proofs.YtbladhplpceomaaGreatW.PrintMore
/-- A writer at block g: what it has written, and whether something was too long; its row lies where P says. -/
def WS (P : Nat → Prop) (w0 w : World) (g : Nat) (l : List Int) (bad : Bool) : Prop :=
  Below w0.heap.size w0 w ∧ w0.heap.size ≤ g ∧ ∃ v, w.heap[g]? = some (.cells #[v, .bool bad] 90 (0, 0)) ∧ Kd.R (Kd.int .u8) 5 w w0.heap.size (fun k => P k ∧ k ≠ g) v l
/-- What a method of the writer leaves. -/
def WPost (P : Nat → Prop) (w0 w : World) (g : Nat) (l : List Int) (bad : Bool) (e : Ending) (w' : World) : Prop :=
  e = .returned (.tuple #[]) ∧ WS P w0 w' g l bad ∧ Kept w w' (fun k => k = g ∨ P k)
theorem WS.put {P : Nat → Prop} {w0 w w1 : World} {g : Nat} {v v1 : Value} {bad : Bool} {r : List Int} (hP : ∀ k, w.heap.size ≤ k → P k) (hB : Below w0.heap.size w0 w1) (hg : w0.heap.size ≤ g) (hb : w1.heap[g]? = some (.cells #[v, .bool bad] 90 (0, 0)))
    (hlt : g < w.heap.size) (hR : Kd.R (Kd.int .u8) 5 w1 w0.heap.size (fun k => (P k ∧ k ≠ g) ∨ w.heap.size ≤ k) v1 r) (hK : Kept w w1 (fun k => k = g ∨ P k)) : WPost P w0 w g r bad (.returned (.tuple #[])) (w1.setCell ⟨g, 0, none⟩ v1) := by
  have h1 : ∀ k, ((P k ∧ k ≠ g) ∨ w.heap.size ≤ k) → P k ∧ k ≠ g := fun k hk => by
    rcases hk with h | h
    · exact h
    · exact ⟨hP k h, by omega⟩
  exact ⟨rfl, ⟨below_set hB hg, hg, v1, blk_set hb 0 v1, Kd.R_mono (Kd.R_far hR (p := ⟨g, 0, none⟩) (fun k hk => (h1 k hk).2) v1) h1⟩, Kept.setCell hK (.inl (.inl rfl)) v1⟩
/-- A new block is none of the row's. -/
theorem WS.but {P : Nat → Prop} {w0 w : World} {g : Nat} {l : List Int} {bad : Bool} (h : WS P w0 w g l bad) (o : Obj) : WS (fun k => P k ∧ k ≠ w.heap.size) w0 (w.alloc o) g l bad := by
  obtain ⟨hB, hg, v, hb, hR⟩ := h
  refine ⟨hB.alloc hB.size o, hg, v, blk_alloc hb o, Kd.R_alloc (Kd.R_mono (Kd.R_elderB hR w.heap.size (Nat.le_refl _)) (fun k hk => ⟨⟨hk.1.1, hk.2⟩, hk.1.2⟩)) o⟩
theorem WS.mono {P P' : Nat → Prop} {w0 w : World} {g : Nat} {l : List Int} {bad : Bool} (h : WS P w0 w g l bad) (hP : ∀ k, P k → P' k) : WS P' w0 w g l bad := by
  obtain ⟨hB, hg, v, hb, hR⟩ := h
  exact ⟨hB, hg, v, hb, Kd.R_mono hR (fun k hk => ⟨hP k hk.1, hk.2⟩)⟩
theorem WS.drewN {P : Nat → Prop} {w0 w : World} {g : Nat} {l : List Int} {bad : Bool} (h : WS P w0 w g l bad) (m : Nat) : WS P w0 (w.drewN m) g l bad := by
  obtain ⟨hB, hg, v, hb, hR⟩ := h
  exact ⟨pw_below_drewN hB m, hg, v, hb, Kd.R_drewN hR m⟩
set_option maxHeartbeats 400000 in
theorem writer_number.calls (P : Nat → Prop) (k : Nat) (w0 w : World) (g : Nat) (l : List Int) (bad : Bool) (n : Int) (r : List Int) (hP : ∀ k, w.heap.size ≤ k → P k) (hW : WS P w0 w g l bad) (h : journal_appended.f k l (IntKind.u64.wrap n) 8 = some r) :
    Calls Tryz.prog 42 #[.pointer (some ⟨g, 0, none⟩), .int .i64 n] w (WPost P w0 w g r bad) := by
  obtain ⟨hB, hg, v, hb, hR⟩ := hW
  obtain ⟨A, c, rfl⟩ := Kd.R_slice hR
  have hlt := blk_lt hb
  have hc := blk_cell hb
  have hf := blk_frozen hb
  have HR := Aside0.mk hR
  have HB := Aside0.mk hB
  have H := Aside0.mk h
  have HG := Aside0.mk hb
  have HP := Aside0.mk hP
  clear hR hB h hb hP
  go_enter Tryz.func42, Tryz.ntmps42
  go_wp2_with (go_at_call 46; go_must (refine (journal_appended.calls k (fun k => P k ∧ k ≠ g) _ l _ 8 r w0 _ HB.out HR.out H.out).mono ?_); rintro e w1 ⟨v1, rfl, hR1, hB1, hK1⟩; have hb1 := (hK1.2 g hlt (by simp)).trans HG.out; obtain ⟨A1, c1, rfl⟩ := Kd.R_slice hR1; have hc1 := blk_cell hb1; have hf1 := blk_frozen hb1; have HB1 := Aside0.mk hB1; have HR1 := Aside0.mk hR1; have HG1 := Aside0.mk hb1; have HK1 := Aside0.mk hK1; clear hB1 hR1 hb1 hK1)
  go_end0
  exact WS.put HP.out HB1.out hg HG1.out hlt HR1.out (HK1.out.mono (fun k hk => .inr hk.1))
set_option maxHeartbeats 400000 in
theorem writer_count.calls (P : Nat → Prop) (w0 w : World) (g : Nat) (l : List Int) (bad : Bool) (n : Int) (hP : ∀ k, w.heap.size ≤ k → P k) (hW : WS P w0 w g l bad) (hl : l.length < 140737488355328) :
    Calls Tryz.prog 44 #[.pointer (some ⟨g, 0, none⟩), .int .i64 n] w (WPost P w0 w g (l ++ [n % 256]) (bad || decide (255 < n))) := by
  obtain ⟨hB, hg, v, hb, hR⟩ := hW
  have hown := hR.1
  obtain ⟨A, c, rfl⟩ := Kd.R_slice hR
  have hlt := blk_lt hb
  have hc := blk_cell hb
  have hf := blk_frozen hb
  obtain ⟨b2, hb2⟩ : ∃ b2, b2 = (bad || decide (255 < n)) := ⟨_, rfl⟩
  have HR := Aside0.mk hR
  have HB := Aside0.mk hB
  have HG := Aside0.mk hb
  have HO := Aside0.mk hown
  have HL := Aside0.mk hl
  have H2 := Aside0.mk hb2
  have HP := Aside0.mk hP
  rw [← hb2]
  clear hR hB hb hown hl hb2 hP
  cases bad
  all_goals
    go_enter Tryz.func44, Tryz.ntmps44
    go_wp2_with ((with_reducible refine gate_builtin (b := .append) (xs := #[.tmp 19, .tmp 22]) rfl ?_); at_builtin; go_must (refine Kd.R_append (Kd.int .u8) (w0 := w0) w0.heap.size rfl (.tmp 19) (.tmp 22) 22 5 (.int .u8 0) 1 rfl Tryz.underlying22 info5 rfl (by decide) (by omega) (.slice A l.length c) l (n % 256) [.int .u8 (n % 256)] (fun k => (P k ∧ k ≠ g) ∨ w.heap.size ≤ k) (fun _ => False) rfl (by show Value.slice _ _ _ = _; simp) rfl (fun _ hk => hk.elim) (fun k hk => .inr (by simpa using hk)) (Kd.R_mono (Kd.R_far HR.out (p := ⟨g, 1, none⟩) (fun _ h => h.2) _) (fun _ h => .inl h)) (below_set HB.out hg) (by have := HB.out.size; simpa using this) (by have := HL.out; omega) ?_); intro v1 w1 ho hb hg1 hat; have hne : some g ≠ (Value.slice A l.length c).ownBlock := (fun e => (HO.out g e.symm).2 rfl); have hb1 := blk_grown (blk_set HG.out 1 _) hg1 hne; have hk1 := Kept.of_grown (S := fun k => k = g ∨ P k) hg1 (Kept.setCell (Kept.refl w _) (.inl (.inl rfl)) _) (fun k e => .inl (.inr (HO.out k e).1)); simp only [List.setIfInBounds_toArray, List.set_cons_succ, List.set_cons_zero] at hb1; obtain ⟨A1, c1, rfl⟩ := Kd.R_slice ho; have hc1 := blk_cell hb1; have hf1 := blk_frozen hb1; have HB1 := Aside0.mk hb; have HR1 := Aside0.mk ho; have HG1 := Aside0.mk hb1; have HK1 := Aside0.mk hk1; clear hb ho hb1 hg1 hat hne hk1)
    go_end0
    rw [H2.out]
    exact WS.put HP.out HB1.out hg HG1.out hlt (by have h := HR1.out; rw [List.length_append] at h; exact h) HK1.out
theorem str_hat {P : Program} {w : World} (base : Nat) (t u ty e : TypeId) (i : TypeInfo) (ht : P.underlying t = some (.slice e)) (hu : P.underlying u = some .string) (hi : P.info? e = some i) (hz : i.zero = some (.int .u8 0))
    (hsize : i.size = 1) (hby : i.bytes = 1) (v : Value) (n : Nat) (xs : List Value) (hown : w.ownsRow base e 1 v n xs) (s : ByteArray) (h63 : n + s.size ≤ 140737488355328) :
    ∃ v' w', (Builtin.append_ #[t, u] ty #[v, .string s]).run P w = .ok v' w' ∧ (v'.ownBlock = v.ownBlock ∨ v'.ownBlock = some w.heap.size) := by
  have hxl : xs.length = n := by simpa using hown.1
  rcases hown.2 with ⟨rfl, rfl⟩ | ⟨g, cap, cur, rfl, hbg, hg, hnc, hcm, hcs, htake⟩
  · by_cases hm : s.size = 0
    · refine ⟨.slice none 0 0, w, ?_, .inl rfl⟩
      have hf := Lib.run_firstCells_string (P := P) w 1 s
      rw [hm] at hf
      simp [Builtin.append_, run_underlying ht, run_underlying hu, sizeOf, typeInfo, hi, hsize, Builtin.lenOf, hm, hf]
    · exact ⟨_, _, run_append_nil_string (P := P) w t u ty e i (.int .u8 0) ht hu hi hz s (by omega) (by omega) (by rw [hby]; omega), .inr rfl⟩
  · by_cases hroom : n + s.size ≤ cap
    · exact ⟨_, _, Lib.run_append_room_string (P := P) w t u ty e i ht hu hi hsize g n cap cur hg s hroom (by simp only [maxLen] at hcm; omega), .inl rfl⟩
    · have holds : ∀ j u, xs[j]? = some u → w.cell? ((⟨g, 0, none⟩ : Addr).add j) = some u := hown.cells (g := g) rfl
      exact ⟨_, _, Lib.run_append_grow_string (P := P) w t u ty e i (.int .u8 0) ht hu hi hz ⟨g, 0, none⟩ n cap xs (by rw [hsize]; simpa using hxl) holds s (by omega) (by omega) (by rw [hby]; exact growslice_fits (by omega) (by omega)), .inr rfl⟩
theorem R_append_str {P : Program} {ops : Array Oper} {rest : List Oper} {o : Oper} {a : Act} {Q : Exit → Act → World → Prop} {w0 W : World} (base : Nat) (hgd : o.guard = none) (s x : Operand) (t u e : TypeId)
    (ho : o.op = .call { callee := .builtin .append, args := #[s, x], argTypes := #[t, u] })
    (ht : P.underlying t = some (.slice e)) (hu : P.underlying u = some .string) (hinfo : (P.info? e).map (fun i => (i.zero, i.size, i.bytes)) = some (some (.int .u8 0), 1, 1))
    (v : Value) (xs : List Int) (y : ByteArray) (ok : Nat → Prop) (hs : a.eval s = v) (hx : a.eval x = .string y) (hfresh : ∀ k, W.heap.size ≤ k → ok k)
    (HO : Kd.R (Kd.int .u8) e W base ok v xs) (HB : Below base w0 W) (hbase : base ≤ W.heap.size) (hl : xs.length + y.size ≤ 140737488355328)
    (h : ∀ v1 w1, Kd.R (Kd.int .u8) e w1 base ok v1 (xs ++ bytesOf y) → Below base w0 w1 → W.grownBy w1 v.ownBlock → wpList P ops Q rest (a.put o.dst v1) w1) :
    wpList P ops Q (o :: rest) a W := by
  obtain ⟨i0, hi, hzz⟩ := Option.map_eq_some_iff.1 hinfo
  simp only [Prod.mk.injEq] at hzz
  obtain ⟨hz0, hz1, hz2⟩ := hzz
  have hown := Kd.own_of_R HO
  obtain ⟨v1, w1, hr, h2, hg, _⟩ := Lib.run_append_own_string (P := P) W base t u o.type e i0 ht hu hi hz0 hz1 hz2 v xs.length (nums .u8 xs) hown y (by simp only [maxLen]; omega) hl hbase
  obtain ⟨v2, w2, hr2, hat⟩ := str_hat (P := P) (w := W) base t u o.type e i0 ht hu hi hz0 hz1 hz2 v xs.length (nums .u8 xs) hown y hl
  rw [hr] at hr2
  injection hr2 with e1 e2
  subst e1
  subst e2
  refine wpList_plain hgd fun K hK => ?_
  unfold Oper.wp execOp
  simp only [ho, resolve, invoke, builtin, Sem.run_bind, Sem.run_pure, Result.andThen_ok, List.map_toArray, List.map_cons, List.map_nil, hs, hx, hr]
  have hl2 : (xs ++ bytesOf y).length = xs.length + y.size := by rw [List.length_append, bytesOf_length]
  have hc : nums .u8 (xs ++ bytesOf y) = nums .u8 xs ++ Lib.strCells y := by
    rw [nums_append]
    congr 1
    simp [nums, bytesOf, Lib.strCells]
  refine hK _ _ (h v1 w1 (Kd.R_of_own (by rw [hl2]; show w1.ownsRow base e 1 v1 _ (nums .u8 (xs ++ bytesOf y)); rw [hc]; exact h2) fun k hk => ?_) (HB.grown hg hbase (own_base hown)) hg)
  rcases hat with hat | hat
  · exact HO.1 k (hat ▸ hk)
  · rw [hat] at hk
    injection hk with hk
    exact hfresh k (by omega)
set_option maxHeartbeats 400000 in
theorem writer_text.calls (P : Nat → Prop) (w0 w : World) (g : Nat) (l : List Int) (bad : Bool) (s : ByteArray) (hP : ∀ k, w.heap.size ≤ k → P k) (hW : WS P w0 w g l bad) (hl : l.length + 1 + s.size ≤ 140737488355328) :
    Calls Tryz.prog 43 #[.pointer (some ⟨g, 0, none⟩), .string s] w (WPost P w0 w g (l ++ [(s.size : Int) % 256] ++ bytesOf s) (bad || decide (255 < (s.size : Int)))) := by
  have HW := Aside0.mk hW
  have HL := Aside0.mk hl
  have HP := Aside0.mk hP
  generalize hb2 : (bad || decide (255 < (s.size : Int))) = b2
  generalize hl2 : l ++ [(s.size : Int) % 256] = l2
  have H1 := Aside0.mk (writer_count.calls P w0 w g l bad s.size hP hW (by omega))
  rw [hb2, hl2] at H1
  have hlen : l2.length = l.length + 1 := by rw [← hl2]; simp
  have HLL := Aside0.mk hlen
  clear hW hl hb2 hl2 hlen hP
  go_enter Tryz.func43, Tryz.ntmps43
  go_wp2_with (first | (go_at_call 44; go_must (refine H1.out.mono ?_); rintro e w1 ⟨rfl, ⟨hB, hg, v, hb, hR⟩, hk⟩; have hown := hR.1; obtain ⟨A, c, rfl⟩ := Kd.R_slice hR; have hlt := blk_lt hb; have hc := blk_cell hb; have hf := blk_frozen hb; have HO := Aside0.mk hown; have HB := Aside0.mk hB; have HR := Aside0.mk hR; have HG := Aside0.mk hb; have HK := Aside0.mk hk; clear hB hR hb hown hk) | ((with_reducible refine gate_builtin (b := .append) (xs := #[.tmp 12, .tmp 13]) rfl ?_); at_builtin; go_must (refine R_append_str (w0 := w0) w0.heap.size rfl (.tmp 12) (.tmp 13) 22 9 5 rfl Tryz.underlying22 Tryz.underlying9 info5 (.slice A l2.length c) l2 s (fun k => (P k ∧ k ≠ g) ∨ w1.heap.size ≤ k) rfl rfl (fun k hk => .inr hk) (Kd.R_mono HR.out (fun _ h => .inl h)) HB.out HB.out.size (by have := HL.out; have := HLL.out; omega) ?_); intro v1 w2 ho hb hg1; have hne : some g ≠ (Value.slice A l2.length c).ownBlock := (fun e => (HO.out g e.symm).2 rfl); have hb1 := blk_grown HG.out hg1 hne; have hk1 := Kept.of_grown (S := fun k => k = g ∨ P k) hg1 (Kept.refl w1 _) (fun k e => .inl (.inr (HO.out k e).1)); obtain ⟨A1, c1, rfl⟩ := Kd.R_slice ho; have hc1 := blk_cell hb1; have hf1 := blk_frozen hb1; have HB1 := Aside0.mk hb; have HR1 := Aside0.mk ho; have HG1 := Aside0.mk hb1; have HK1 := Aside0.mk hk1; clear hb ho hb1 hg1 hne hk1))
  go_end0
  obtain ⟨_, h2, h3⟩ := WS.put (fun k hk => HP.out k (Nat.le_trans HK.out.1 hk)) HB1.out hg HG1.out hlt (by have h := HR1.out; rw [List.length_append] at h; exact h) HK1.out
  exact ⟨rfl, h2, HK.out.then_ h3 (fun k hk => .inl hk)⟩
end Go.Proofs.YtbladhplpceomaaGreat.PJournalSums
