/- What both functions Sum compute is one and the same number. No conditions but on sizes. -/
import Derived.Test.YtbladhplpceomaaGreatJJournalSumsd
set_option linter.unusedVariables false
set_option linter.unusedSimpArgs false
namespace Go.Proofs.YtbladhplpceomaaGreat.PJournalSums
open Go.RowKit Go.Proofs.YtbladhplpceomaaGreatW.PrintWords Go.Proofs.YtbladhplpceomaaGreatW.PrintLast Go.Proofs.YtbladhplpceomaaGreatW.PrintMore
/-- One step of the register. -/
def crcStep (c : Int) : Int := if Go.bits .and .u32 c 1 = 1 then Go.bits .xor .u32 (c / 2) 3988292384 else c / 2
def crcSteps : Nat → Int → Int
  | 0, c => c
  | n + 1, c => crcSteps n (crcStep c)
/-- The register behind a row of bytes. -/
def crcRow (c : Int) (xs : List Int) : Int := xs.foldl (fun c x => crcSteps 8 (Go.bits .xor .u32 c (x % 4294967296))) c
def crcOf (xs : List Int) : Int := Go.bits .xor .u32 4294967295 (crcRow 4294967295 xs)
theorem sum_l1 (xs : List Int) (n i : Int) : ∀ (d k : Nat) (c : Int), d ≤ 8 → journal_Sum.l1 (k + d + 1) c xs n i (8 - (d : Int)) = journal_Sum.l0 k (crcSteps d c) xs n (wrap64 (i + 1)) := by
  intro d
  induction d with
  | zero =>
    intro k c _
    rw [journal_Sum.l1, if_neg (by omega)]; rfl
  | succ d ih =>
    intro k c hd
    have e : wrap64 (8 - ((d + 1 : Nat) : Int) + 1) = 8 - (d : Int) := by unfold wrap64; omega
    rw [show k + (d + 1) + 1 = (k + d + 1) + 1 by omega, journal_Sum.l1, if_pos (by omega), e, ih k _ (by omega), ih k _ (by omega)]
    rw [show crcSteps (d + 1) c = crcSteps d (crcStep c) from rfl, crcStep]
    split <;> rfl
theorem ref_l1 (xs : List Int) (i : Int) : ∀ (d k : Nat) (c : Int), d ≤ 8 → cutroomref35_Sum.l1 (k + d + 1) xs c i (8 - (d : Int)) = cutroomref35_Sum.l0 k xs (crcSteps d c) (wrap64 (i + 1)) := by
  intro d
  induction d with
  | zero =>
    intro k c _
    rw [cutroomref35_Sum.l1, if_neg (by omega)]; rfl
  | succ d ih =>
    intro k c hd
    have e : wrap64 (8 - ((d + 1 : Nat) : Int) + 1) = 8 - (d : Int) := by unfold wrap64; omega
    rw [show k + (d + 1) + 1 = (k + d + 1) + 1 by omega, cutroomref35_Sum.l1, if_pos (by omega), e, ih k _ (by omega), ih k _ (by omega)]
    rw [show crcSteps (d + 1) c = crcSteps d (crcStep c) from rfl, crcStep]
    split <;> rfl
theorem drop_cons (xs : List Int) (i : Nat) (h : i < xs.length) : xs.drop i = rd xs i :: xs.drop (i + 1) := by
  rw [List.drop_eq_getElem_cons h]
  simp [rd, List.getD_eq_getElem?_getD, h]
theorem sum_l0 (xs : List Int) (hx : xs.length ≤ 140737488355328) : ∀ (d i k : Nat) (c : Int), i + d = xs.length → 10 * d < k → journal_Sum.l0 k c xs xs.length i = some (Go.bits .xor .u32 4294967295 (crcRow c (xs.drop i))) := by
  intro d
  induction d with
  | zero =>
    intro i k c hi hk
    obtain ⟨k, rfl⟩ : ∃ m, k = m + 1 := ⟨k - 1, by omega⟩
    rw [journal_Sum.l0, if_neg (by omega), List.drop_of_length_le (by omega)]; rfl
  | succ d ih =>
    intro i k c hi hk
    obtain ⟨k, rfl⟩ : ∃ m, k = (m + 8 + 1) + 1 := ⟨k - 10, by omega⟩
    have e : wrap64 ((i : Int) + 1) = ((i + 1 : Nat) : Int) := by unfold wrap64; omega
    have h := sum_l1 xs xs.length i 8 k (Go.bits .xor .u32 c (rd xs i % 4294967296)) (Nat.le_refl _)
    rw [show (8 : Int) - ((8 : Nat) : Int) = 0 by rfl, e] at h
    rw [journal_Sum.l0, if_pos (by omega), if_pos (by omega), if_pos (by omega), h, ih (i + 1) k _ (by omega) (by omega), drop_cons xs i (by omega)]
    rfl
theorem ref_l0 (xs : List Int) (hx : xs.length ≤ 140737488355328) : ∀ (d i k : Nat) (c : Int), i + d = xs.length → 10 * d < k → cutroomref35_Sum.l0 k xs c i = some (Go.bits .xor .u32 4294967295 (crcRow c (xs.drop i))) := by
  intro d
  induction d with
  | zero =>
    intro i k c hi hk
    obtain ⟨k, rfl⟩ : ∃ m, k = m + 1 := ⟨k - 1, by omega⟩
    rw [cutroomref35_Sum.l0, if_neg (by omega), List.drop_of_length_le (by omega)]; rfl
  | succ d ih =>
    intro i k c hi hk
    obtain ⟨k, rfl⟩ : ∃ m, k = (m + 8 + 1) + 1 := ⟨k - 10, by omega⟩
    have e : wrap64 ((i : Int) + 1) = ((i + 1 : Nat) : Int) := by unfold wrap64; omega
    have h := ref_l1 xs i 8 k (Go.bits .xor .u32 c (rd xs i % 4294967296)) (Nat.le_refl _)
    rw [show (8 : Int) - ((8 : Nat) : Int) = 0 by rfl, e] at h
    rw [cutroomref35_Sum.l0, if_pos (by omega), if_pos (by omega), h, ih (i + 1) k _ (by omega) (by omega), drop_cons xs i (by omega)]
    rfl
theorem sum_some (xs : List Int) (hx : xs.length ≤ 140737488355328) : journal_Sum.f (10 * xs.length + 1) xs = some (crcOf xs) := sum_l0 xs hx xs.length 0 _ _ (by omega) (by omega)
theorem ref_some (xs : List Int) (hx : xs.length ≤ 140737488355328) : cutroomref35_Sum.f (10 * xs.length + 1) xs = some (crcOf xs) := ref_l0 xs hx xs.length 0 _ _ (by omega) (by omega)
end Go.Proofs.YtbladhplpceomaaGreat.PJournalSums
