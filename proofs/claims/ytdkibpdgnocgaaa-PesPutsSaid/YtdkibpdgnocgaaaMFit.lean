/- Words of ours: what lies in a place of a type is a value of the kind (for the rows of laws whose parameters are structs, slices of structs, ..). No conditions. -/
import Derived.Test.YtdkibpdgnocgaaaWWords
import Derived.Test.YtdkibpdgnocgaaaWLast
import Derived.ChangeArms
import Derived.ChangeSlices
import Derived.Deep.Slices
import Derived.OpenShut
set_option linter.unusedVariables false
set_option linter.unusedSimpArgs false
namespace Go.Proofs.YtdkibpdgnocgaaaW.PrintWords
open Go.RowKit Go.Deep
def Fit {α : Type} (d : Kd α) (P : Program) (t : TypeId) (G : α → Prop) : Prop :=
  ∀ {H : Type} (enc : TypeId × Value → H) (w : World) (base : Nat) (spare : Nat → Bool) (held : Bool) (n : Nat) (cs : List Value) (x : DataW H × List MemPlace), DataW.trod enc P w base spare held n t cs = some x → ∃ a, d.K w a cs ∧ G a
theorem Fit.int {P : Program} {t : TypeId} {k : IntKind} (ht : P.underlying t = some (.int k)) : Fit (Kd.int k) P t (fun a => (Lit.int k a).wf = true) := by
  intro H enc w base spare held n cs x h
  obtain ⟨a, e, -, hw⟩ := DataW.trod_int ht h
  exact ⟨a, e, hw⟩
theorem Fit.bool {P : Program} {t : TypeId} (ht : P.underlying t = some .bool) : Fit Kd.bool P t (fun _ => True) := by
  intro H enc w base spare held n cs x h
  obtain ⟨a, e, -⟩ := DataW.trod_bool ht h
  exact ⟨a, e, trivial⟩
theorem choose_lt' {α : Type} {n : Nat} {p : Nat → α → Prop} (h : ∀ i, i < n → ∃ x, p i x) : ∃ l : List α, l.length = n ∧ ∀ i a, l[i]? = some a → p i a := by
  induction n with
  | zero => exact ⟨[], rfl, fun i a h => by simp at h⟩
  | succ n ih =>
    obtain ⟨l, hl, hp⟩ := ih (fun i hi => h i (by omega))
    obtain ⟨x, hx⟩ := h n (by omega)
    refine ⟨l ++ [x], by simp [hl], fun i a hi => ?_⟩
    by_cases hin : i < l.length
    · rw [List.getElem?_append_left hin] at hi; exact hp i a hi
    · rw [List.getElem?_append_right (by omega)] at hi
      by_cases h0 : i - l.length = 0
      · rw [h0] at hi
        have : x = a := by simpa using hi
        rw [← this, show i = n by omega]; exact hx
      · have : ([x] : List α)[i - l.length]? = none := List.getElem?_eq_none (by simp; omega)
        rw [this] at hi; cases hi
theorem Fit.slice {α : Type} {d : Kd α} {P : Program} {t e : TypeId} {G : α → Prop} (q : Nat) (ht : P.underlying t = some (.slice e)) (hc : P.cellsOf e = d.sz) (hd : Fit d P e G) :
    Fit (Kd.slice q d) P t (fun xs => xs.length ≤ maxLen ∧ ∀ a ∈ xs, G a) := by
  intro H enc w base spare held n cs x h
  rcases open_slice ht h with ⟨rfl, _⟩ | ⟨a, len, cap, m, n', D, Pl, rfl, hb, hl, hm, hmm, rfl, hx⟩
  · refine ⟨[], ⟨none, 0, rfl, Nat.le_refl _, ?_⟩, Nat.zero_le _, fun a ha => by cases ha⟩
    exact ⟨rfl, by simp, fun h0 => by simp at h0⟩
  · have hlm : len ≤ m := by rw [hmm]; split <;> omega
    have step : ∀ i, i < len → ∃ z : α, (∃ c, c.length = d.sz ∧ d.K w z c ∧ ∀ j u, c[j]? = some u → w.cell? (a.add (i * d.sz + j)) = some u) ∧ G z := by
      intro i hi
      obtain ⟨cs', h1, h2⟩ := hx i (by omega)
      obtain ⟨z, hz, hg⟩ := hd enc w base spare held n' cs' _ h2
      obtain ⟨_, hlen, hcell⟩ := World.cells?_some h1
      refine ⟨z, ⟨cs', d.K_len hz, hz, fun j u hu => ?_⟩, hg⟩
      have hj : j < P.cellsOf e := by
        rcases Nat.lt_or_ge j cs'.length with hj | hj
        · omega
        · rw [List.getElem?_eq_none hj] at hu; cases hu
      have := hcell j hj
      rw [hu, hc] at this
      rw [← this]
      rw [Go.Deep.add_add]
    obtain ⟨l, hll, hp⟩ := choose_lt' step
    refine ⟨l, ⟨some a, cap, by rw [hll], by omega, ?_⟩, by omega, fun z hz => ?_⟩
    · refine ⟨rfl, by have : cap ≤ maxLen := hm; have h2 : maxLen ≤ 9223372036854775807 := by decide
                      omega, fun h0 => ⟨a, rfl, fun j p hj => ?_⟩⟩
      exact (hp j p hj).1
    · obtain ⟨i, hi, rfl⟩ := List.getElem_of_mem hz
      exact (hp i _ (List.getElem?_eq_getElem hi)).2
theorem Fit.iso {α β : Type} {d : Kd α} {P : Program} {t : TypeId} {G : α → Prop} (f : β → α) (g : α → β) (hfg : ∀ a, f (g a) = a) (hd : Fit d P t G) : Fit (Kd.iso d f) P t (fun y => G (f y)) := by
  intro H enc w base spare held n cs x h
  obtain ⟨a, ha, hg⟩ := hd enc w base spare held n cs x h
  exact ⟨g a, by show d.K w (f (g a)) cs; rw [hfg]; exact ha, by show G (f (g a)); rw [hfg]; exact hg⟩
theorem Fit.mono {α : Type} {d : Kd α} {P : Program} {t : TypeId} {G G' : α → Prop} (hd : Fit d P t G) (hG : ∀ a, G a → G' a) : Fit d P t G' := by
  intro H enc w base spare held n cs x h
  obtain ⟨a, ha, hg⟩ := hd enc w base spare held n cs x h
  exact ⟨a, ha, hG a hg⟩
/-- Places one behind another, of these types. -/
def TrodL {H : Type} (enc : TypeId × Value → H) (P : Program) (w : World) (base : Nat) (spare : Nat → Bool) (held : Bool) (n : Nat) : List TypeId → List Value → Prop
  | [], cs => cs = []
  | t :: ts, cs => ∃ c1 c2, cs = c1 ++ c2 ∧ (∃ y, DataW.trod enc P w base spare held n t c1 = some y) ∧ TrodL enc P w base spare held n ts c2
def FitL {α : Type} (d : Kd α) (P : Program) (ts : List TypeId) (G : α → Prop) : Prop :=
  ∀ {H : Type} (enc : TypeId × Value → H) (w : World) (base : Nat) (spare : Nat → Bool) (held : Bool) (n : Nat) (cs : List Value), TrodL enc P w base spare held n ts cs → ∃ a, d.K w a cs ∧ G a
theorem FitL.one {α : Type} {d : Kd α} {P : Program} {t : TypeId} {G : α → Prop} (hd : Fit d P t G) : FitL d P [t] G := by
  intro H enc w base spare held n cs h
  obtain ⟨c1, c2, rfl, ⟨y, hy⟩, rfl⟩ := h
  rw [List.append_nil]
  exact hd enc w base spare held n c1 y hy
theorem FitL.cons {α β : Type} {a : Kd α} {b : Kd β} {P : Program} {t : TypeId} {ts : List TypeId} {G : α → Prop} {G' : β → Prop} (ha : Fit a P t G) (hb : FitL b P ts G') : FitL (Kd.pair a b) P (t :: ts) (fun x => G x.1 ∧ G' x.2) := by
  intro H enc w base spare held n cs h
  obtain ⟨c1, c2, rfl, ⟨y, hy⟩, h2⟩ := h
  obtain ⟨u, hu, gu⟩ := ha enc w base spare held n c1 y hy
  obtain ⟨v, hv, gv⟩ := hb enc w base spare held n c2 h2
  exact ⟨(u, v), ⟨c1, c2, rfl, hu, hv⟩, gu, gv⟩
/-- The fields lie one behind another. -/
def laidL (P : Program) (total : Nat) : Nat → List Field → Bool
  | off, [] => off == total
  | off, f :: fs => f.offset == off && laidL P total (off + P.cellsOf f.type) fs
theorem trodL_of {H : Type} {enc : TypeId × Value → H} {P : Program} {w : World} {base : Nat} {spare : Nat → Bool} {held : Bool} {n : Nat} (cs : List Value) :
    ∀ (fs : List Field) (off : Nat), laidL P cs.length off fs = true → (∀ f ∈ fs, ∃ y, DataW.trod enc P w base spare held n f.type ((cs.drop f.offset).take (P.cellsOf f.type)) = some y) → TrodL enc P w base spare held n (fs.map (·.type)) (cs.drop off)
  | [], off, hl, _ => by
    simp only [laidL, beq_iff_eq] at hl
    subst hl
    show cs.drop cs.length = []
    exact List.drop_length
  | f :: fs, off, hl, h => by
    simp only [laidL, Bool.and_eq_true, beq_iff_eq] at hl
    obtain ⟨rfl, hl⟩ := hl
    refine ⟨(cs.drop f.offset).take (P.cellsOf f.type), cs.drop (f.offset + P.cellsOf f.type), ?_, h f (by simp), trodL_of cs fs _ hl (fun g hg => h g (by simp [hg]))⟩
    rw [← List.drop_drop, List.take_append_drop]
theorem Fit.struct {α : Type} {d : Kd α} {P : Program} {t : TypeId} {fs : Array Field} {G : α → Prop} (ht : P.underlying t = some (.struct fs)) (hlay : laidL P (P.cellsOf t) 0 fs.toList = true) (hd : FitL d P (fs.toList.map (·.type)) G) : Fit d P t G := by
  intro H enc w base spare held n cs x h
  obtain ⟨xs, n', _, _, hlen, hsz, hf⟩ := DataW.trod_struct ht h
  refine hd enc w base spare held n' cs ?_
  have := trodL_of (enc := enc) (w := w) (base := base) (spare := spare) (held := held) (n := n') cs fs.toList 0 (by rw [hlen]; exact hlay) (fun f hfm => by
    obtain ⟨i, hi, rfl⟩ := List.getElem_of_mem hfm
    have hi' : i < fs.size := by simpa using hi
    have := hf i fs.toList[i] (by simp [hi'])
    rw [this]
    exact ⟨xs[i]'(by omega), List.getElem?_eq_getElem (by omega)⟩)
  rwa [List.drop_zero] at this
end Go.Proofs.YtdkibpdgnocgaaaW.PrintWords
