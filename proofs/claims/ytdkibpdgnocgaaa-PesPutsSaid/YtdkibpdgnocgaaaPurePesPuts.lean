/- Pure part of PesPuts: what the printed Go functions compute answers true, for every input. No conditions. -/
import Derived.Test.YtdkibpdgnocgaaaPPesPutsx5
import Derived.Lib.Bytes
set_option linter.unusedVariables false
set_option linter.unusedSimpArgs false
namespace Go.Proofs.Ytdkibpdgnocgaaa.Pure
open Go.RowKit Go.Proofs.Ytdkibpdgnocgaaa.PPesPuts Go.Proofs.YtdkibpdgnocgaaaW.PrintWords Go.Proofs.YtdkibpdgnocgaaaW.PrintLast

/-- The bounds of an int64. -/
theorem b64 {n : Int} (h : (Lit.int .i64 n).wf = true) : -9223372036854775808 ≤ n ∧ n ≤ 9223372036854775807 := by
  simpa [Lit.wf, IntKind.min, IntKind.max, IntKind.signed, IntKind.bits] using h
theorem w64 (n : Int) (h1 : -9223372036854775808 ≤ n) (h2 : n ≤ 9223372036854775807) : wrap64 n = n := by unfold wrap64; omega
theorem tdv (a b : Int) (h : 0 ≤ a) : Int.tdiv a b = a / b := Int.tdiv_eq_ediv_of_nonneg h
theorem tmd (a b : Int) (h : 0 ≤ a) : Int.tmod a b = a % b := Int.tmod_eq_emod_of_nonneg h
theorem ev_of {α : Type} {o : Option α} {r : α} (h : o = some r) : Ev (fun _ => o) r := ⟨0, fun _ _ => h⟩
theorem tmod_bd (n m : Int) (h0 : 0 < m) : -m < Int.tmod n m ∧ Int.tmod n m < m ∧ (Int.tmod n m = n % m ∨ Int.tmod n m = n % m - m) := by
  have a1 : Int.tmod n m < m := Int.tmod_lt_of_pos n h0
  have a2 : -m < Int.tmod n m := by
    have := Int.tmod_lt_of_pos (-n) h0
    rw [Int.neg_tmod] at this; omega
  refine ⟨a2, a1, ?_⟩
  have h3 := Int.tmod_add_mul_tdiv n m
  have h4 : n % m = (Int.tmod n m) % m := by
    conv => lhs; rw [← h3]
    rw [Int.add_mul_emod_self_left]
  by_cases hz : 0 ≤ Int.tmod n m
  · left; rw [h4, Int.emod_eq_of_lt hz a1]
  · right
    rw [h4, ← Int.add_emod_right, Int.emod_eq_of_lt (by omega) (by omega)]; omega

/-! ### Bytes -/
theorem samebytes (xs ys : List Int) : cutroomref02_SameBytes.f xs ys = some (Go.Lib.bytesOf xs == Go.Lib.bytesOf ys) := by
  unfold cutroomref02_SameBytes.f; rw [Go.Lib.strOfNums_toList, Go.Lib.strOfNums_toList]
theorem samebytes_self (xs : List Int) : cutroomref02_SameBytes.f xs xs = some true := by
  rw [samebytes]; simp
theorem bytesOf_inj : ∀ (xs ys : List Int), (∀ x ∈ xs, 0 ≤ x ∧ x < 256) → (∀ x ∈ ys, 0 ≤ x ∧ x < 256) → Go.Lib.bytesOf xs = Go.Lib.bytesOf ys → xs = ys
  | [], [], _, _, _ => rfl
  | [], _ :: _, _, _, h => by simp [Go.Lib.bytesOf] at h
  | _ :: _, [], _, _, h => by simp [Go.Lib.bytesOf] at h
  | x :: xs, y :: ys, hx, hy, h => by
    simp only [Go.Lib.bytesOf, List.map_cons, List.cons.injEq] at h
    have h1 := hx x (by simp)
    have h2 := hy y (by simp)
    have e : x = y := by
      have := congrArg UInt8.toNat h.1
      simp only [UInt8.toNat_ofNat'] at this
      omega
    rw [e, bytesOf_inj xs ys (fun z hz => hx z (by simp [hz])) (fun z hz => hy z (by simp [hz])) h.2]

/-! ### The reference's bits -/
def bitsL (x : Int) : Nat → List Int
  | 0 => []
  | n + 1 => x / 2 ^ n % 2 :: bitsL x n
theorem wrapu32 (n : Int) (h₀ : 0 ≤ n) (h₁ : n < 2 ^ 32) : IntKind.u32.wrap n = n := by rw [IntKind.wrap_u32]; omega
theorem wrapu64 (n : Int) (h₀ : 0 ≤ n) (h₁ : n < 2 ^ 64) : IntKind.u64.wrap n = n := by rw [IntKind.wrap_u64]; omega
theorem wrapi64 (n : Int) (h₀ : 0 ≤ n) (h₁ : n < 2 ^ 63) : IntKind.i64.wrap n = n := by rw [IntKind.wrap_i64]; omega
theorem pow_split (x : Int) (hx : 0 ≤ x ∧ x < 4294967296) (n : Nat) : 0 ≤ x / 2 ^ n ∧ x / 2 ^ n < 2 ^ 32 := by
  have hp : (0 : Int) < 2 ^ n := Int.pow_pos (by decide)
  refine ⟨Int.ediv_nonneg hx.1 (by omega), ?_⟩
  have := Int.ediv_le_self (2 ^ n) hx.1
  omega
theorem bit_of (x : Int) (hx : 0 ≤ x ∧ x < 4294967296) (n : Nat) (hn : n < 32) : (Go.bits .and .u32 (shr .u32 x (IntKind.u64.wrap (n : Int))) 1) % 256 = x / 2 ^ n % 2 := by
  rw [wrapu64 _ (by omega) (by omega)]
  unfold shr
  rw [show min ((n : Int)).toNat IntKind.u32.bits = n by simp [IntKind.bits]; omega]
  obtain ⟨h1, h2⟩ := pow_split x hx n
  have := Go.bits_mask .u32 32 (by decide) wrapu32 1 (by decide) (x / 2 ^ n) h1 h2
  rw [show ((2 : Int) ^ 1 - 1) = 1 by decide, show ((2 : Int) ^ 1) = 2 by decide] at this
  rw [this]; omega
theorem bits_l0 (x : Int) (hx : 0 ≤ x ∧ x < 4294967296) : ∀ (n : Nat) (acc : List Int), n ≤ 32 → acc.length + n ≤ 1000 → Ev (fun k => cutroomref02_Bits.l0 k x acc ((n : Int) - 1)) (acc ++ bitsL x n)
  | 0, acc, _, _ => by
    refine Ev.step (f := fun k => _) (fun k => by rw [cutroomref02_Bits.l0]) ?_
    simp only [if_neg (show ¬ (((0 : Nat) : Int) - 1 ≥ 0) by omega), bitsL, List.append_nil]; exact Ev.now _
  | n + 1, acc, hn, hl => by
    refine Ev.step (f := fun k => _) (fun k => by rw [cutroomref02_Bits.l0]) ?_
    rw [show (((n + 1 : Nat) : Int) - 1) = (n : Int) by omega]
    have hb := bit_of x hx n (by omega)
    rw [hb]
    have hw : 0 ≤ IntKind.u64.wrap (n : Int) := by rw [wrapu64 _ (by omega) (by omega)]; omega
    simp only [if_pos (show (n : Int) ≥ 0 by omega), if_pos hw, if_pos (show acc.length < 140737488355328 by omega), w64 ((n : Int) - 1) (by omega) (by omega)]
    have h := bits_l0 x hx n (acc ++ [x / 2 ^ n % 2]) (by omega) (by simp; omega)
    simp only [List.append_assoc, List.singleton_append] at h
    exact h
theorem bits_ev (x : Int) (hx : 0 ≤ x ∧ x < 4294967296) (n : Nat) (hn : n ≤ 32) (c : Int) (hc : c = (n : Int)) : Ev (fun k => cutroomref02_Bits.f k x c) (bitsL x n) := by
  subst hc
  unfold cutroomref02_Bits.f
  rw [w64 _ (by omega) (by omega)]
  exact bits_l0 x hx n [] hn (by simp; omega)
theorem bitsL_length (x : Int) : ∀ n, (bitsL x n).length = n
  | 0 => rfl
  | n + 1 => by simp [bitsL, bitsL_length x n]
theorem bitsL_01 (x : Int) : ∀ n, ∀ y ∈ bitsL x n, y = 0 ∨ y = 1
  | 0 => by simp [bitsL]
  | n + 1 => by
    intro y hy
    simp only [bitsL, List.mem_cons] at hy
    rcases hy with rfl | hy
    · omega
    · exact bitsL_01 x n y hy

/-! ### The reference's payload of bits -/
theorem or_p (a p : Int) (h0 : 0 ≤ a) (h1 : a < 256) (hm : a % (2 * p) = 0) (hp : p = 128 ∨ p = 64 ∨ p = 32 ∨ p = 16 ∨ p = 8 ∨ p = 4 ∨ p = 2 ∨ p = 1) : Go.bits .or .u8 a p = a + p := by
  rcases hp with rfl | rfl | rfl | rfl | rfl | rfl | rfl | rfl
  · exact Go.bits_join .u8 8 (by decide) Go.wraps_u8 8 a 128 h0 (by omega) (by omega) (by omega) (by omega) (by omega)
  · exact Go.bits_join .u8 8 (by decide) Go.wraps_u8 7 a 64 h0 (by omega) (by omega) (by omega) (by omega) (by omega)
  · exact Go.bits_join .u8 8 (by decide) Go.wraps_u8 6 a 32 h0 (by omega) (by omega) (by omega) (by omega) (by omega)
  · exact Go.bits_join .u8 8 (by decide) Go.wraps_u8 5 a 16 h0 (by omega) (by omega) (by omega) (by omega) (by omega)
  · exact Go.bits_join .u8 8 (by decide) Go.wraps_u8 4 a 8 h0 (by omega) (by omega) (by omega) (by omega) (by omega)
  · exact Go.bits_join .u8 8 (by decide) Go.wraps_u8 3 a 4 h0 (by omega) (by omega) (by omega) (by omega) (by omega)
  · exact Go.bits_join .u8 8 (by decide) Go.wraps_u8 2 a 2 h0 (by omega) (by omega) (by omega) (by omega) (by omega)
  · exact Go.bits_join .u8 8 (by decide) Go.wraps_u8 1 a 1 h0 (by omega) (by omega) (by omega) (by omega) (by omega)

/-- One round of the payload's loop, inside byte j, at bit t. -/
theorem pay_step (xs ys : List Int) (j t : Nat) (p a : Int) (r : List Int) (hn : xs.length ≤ 1000000) (h1 : 8 * j + t < xs.length) (hj : j < ys.length)
    (ht : t < 8) (hp : shr .u8 128 (t : Int) = p) (hpp : p = 128 ∨ p = 64 ∨ p = 32 ∨ p = 16 ∨ p = 8 ∨ p = 4 ∨ p = 2 ∨ p = 1)
    (a0 : 0 ≤ a) (a1 : a < 256) (hm : a % (2 * p) = 0) (hd : rd xs ((8 * j + t : Nat) : Int) = 0 ∨ rd xs ((8 * j + t : Nat) : Int) = 1)
    (h : Ev (fun k => cutroomref02_Payload.l0 k xs (ys.set j (a + rd xs ((8 * j + t : Nat) : Int) * p)) ((8 * j + (t + 1) : Nat) : Int)) r) :
    Ev (fun k => cutroomref02_Payload.l0 k xs (ys.set j a) ((8 * j + t : Nat) : Int)) r := by
  refine Ev.step (f := fun k => _) (fun k => by rw [cutroomref02_Payload.l0]) ?_
  have e1 : Int.tdiv ((8 * j + t : Nat) : Int) 8 = (j : Int) := by rw [tdv _ _ (by omega)]; omega
  have e2 : Int.tmod ((8 * j + t : Nat) : Int) 8 = (t : Int) := by rw [tmd _ _ (by omega)]; omega
  rw [e1, e2, w64 (j : Int) (by omega) (by omega), wrapu64 (t : Int) (by omega) (by omega), hp]
  have e3 : rd (ys.set j a) (j : Int) = a := by simp [rd, hj]
  simp only [if_pos (show ((8 * j + t : Nat) : Int) ≤ (xs.length : Int) by omega), if_neg (show ¬ ((8 * j + t : Nat) : Int) = (xs.length : Int) by omega), if_pos (show 0 ≤ ((8 * j + t : Nat) : Int) by omega), if_pos (show ((8 * j + t : Nat) : Int) < (xs.length : Int) by omega), if_pos (show (0 : Int) ≤ (j : Int) by omega), if_pos (show (j : Int) < ((ys.set j a).length : Int) by simp; omega), if_pos (show (0 : Int) ≤ (t : Int) by omega), e3, or_p a p a0 a1 hm hpp, Int.toNat_natCast, List.set_set, w64 (((8 * j + t : Nat) : Int) + 1) (by omega) (by omega)]
  rw [show ((8 * j + t : Nat) : Int) + 1 = ((8 * j + (t + 1) : Nat) : Int) by omega]
  rcases hd with hd | hd
  · rw [hd, Int.zero_mul, Int.add_zero] at h
    simp only [hd, if_neg (show ¬ (0 : Int) = 1 by decide)]
    exact h
  · rw [hd, Int.one_mul] at h
    simp only [hd, if_true]
    exact h
def octV (xs : List Int) (j : Nat) : Int := 0 + rd xs ((8 * j + 0 : Nat) : Int) * 128 + rd xs ((8 * j + 1 : Nat) : Int) * 64 + rd xs ((8 * j + 2 : Nat) : Int) * 32 + rd xs ((8 * j + 3 : Nat) : Int) * 16 + rd xs ((8 * j + 4 : Nat) : Int) * 8 + rd xs ((8 * j + 5 : Nat) : Int) * 4 + rd xs ((8 * j + 6 : Nat) : Int) * 2 + rd xs ((8 * j + 7 : Nat) : Int) * 1
theorem pay_oct (xs ys : List Int) (j : Nat) (r : List Int) (hn : xs.length ≤ 1000000) (h1 : 8 * j + 8 ≤ xs.length) (hj : j < ys.length)
    (h01 : ∀ i : Nat, rd xs (i : Int) = 0 ∨ rd xs (i : Int) = 1) (hz : ys.set j 0 = ys)
    (h : Ev (fun k => cutroomref02_Payload.l0 k xs (ys.set j (octV xs j)) ((8 * (j + 1) : Nat) : Int)) r) :
    Ev (fun k => cutroomref02_Payload.l0 k xs ys ((8 * j : Nat) : Int)) r := by
  have q0 := h01 (8 * j + 0)
  have q1 := h01 (8 * j + 1)
  have q2 := h01 (8 * j + 2)
  have q3 := h01 (8 * j + 3)
  have q4 := h01 (8 * j + 4)
  have q5 := h01 (8 * j + 5)
  have q6 := h01 (8 * j + 6)
  have q7 := h01 (8 * j + 7)
  rw [← hz, show (8 * j : Nat) = 8 * j + 0 by omega]
  refine pay_step xs ys j 0 128 0 r hn (by omega) hj (by omega) (by decide) (by omega) (by omega) (by omega) (by omega) q0 ?_
  refine pay_step xs ys j 1 64 _ r hn (by omega) hj (by omega) (by decide) (by omega) (by omega) (by omega) (by omega) q1 ?_
  refine pay_step xs ys j 2 32 _ r hn (by omega) hj (by omega) (by decide) (by omega) (by omega) (by omega) (by omega) q2 ?_
  refine pay_step xs ys j 3 16 _ r hn (by omega) hj (by omega) (by decide) (by omega) (by omega) (by omega) (by omega) q3 ?_
  refine pay_step xs ys j 4 8 _ r hn (by omega) hj (by omega) (by decide) (by omega) (by omega) (by omega) (by omega) q4 ?_
  refine pay_step xs ys j 5 4 _ r hn (by omega) hj (by omega) (by decide) (by omega) (by omega) (by omega) (by omega) q5 ?_
  refine pay_step xs ys j 6 2 _ r hn (by omega) hj (by omega) (by decide) (by omega) (by omega) (by omega) (by omega) q6 ?_
  refine pay_step xs ys j 7 1 _ r hn (by omega) hj (by omega) (by decide) (by omega) (by omega) (by omega) (by omega) q7 ?_
  exact h
/-- Forty bits make five bytes and the closing one. -/
theorem pay40 (xs : List Int) (hl : xs.length = 40) (h01 : ∀ x ∈ xs, x = 0 ∨ x = 1) :
    Ev (fun k => cutroomref02_Payload.f k xs) [octV xs 0, octV xs 1, octV xs 2, octV xs 3, octV xs 4, 128] := by
  have h0 : ∀ i : Nat, rd xs (i : Int) = 0 ∨ rd xs (i : Int) = 1 := by
    intro i
    unfold rd
    rw [Int.toNat_natCast]
    by_cases h : i < xs.length
    · rw [List.getD_eq_getElem?_getD, List.getElem?_eq_getElem h, Option.getD_some]; exact h01 _ (List.getElem_mem h)
    · left; rw [List.getD_eq_getElem?_getD, List.getElem?_eq_none (by omega)]; rfl
  unfold cutroomref02_Payload.f
  rw [hl]
  rw [show wrap64 (((40 : Nat) : Int) / 8) = 5 by decide +kernel, show wrap64 ((5 : Int) + 1) = 6 by decide +kernel]
  simp only [if_pos (show (0 : Int) ≤ 6 by decide), if_pos (show (6 : Int).toNat ≤ 281474976710656 by decide)]
  show Ev (fun k => cutroomref02_Payload.l0 k xs [0, 0, 0, 0, 0, 0] ((8 * 0 : Nat) : Int)) _
  refine pay_oct xs _ 0 _ (by omega) (by omega) (by decide) h0 rfl ?_
  refine pay_oct xs _ 1 _ (by omega) (by omega) (by simp) h0 rfl ?_
  refine pay_oct xs _ 2 _ (by omega) (by omega) (by simp) h0 rfl ?_
  refine pay_oct xs _ 3 _ (by omega) (by omega) (by simp) h0 rfl ?_
  refine pay_oct xs _ 4 _ (by omega) (by omega) (by simp) h0 rfl ?_
  refine Ev.step (f := fun k => _) (fun k => by rw [cutroomref02_Payload.l0]) ?_
  rw [hl]
  rw [show ((8 * (4 + 1) : Nat) : Int) = 40 by decide, show wrap64 (Int.tdiv 40 8) = 5 by decide +kernel, show IntKind.u64.wrap (Int.tmod 40 8) = 0 by decide +kernel, show wrap64 ((40 : Int) + 1) = 41 by decide +kernel, show shr .u8 128 0 = 128 by decide +kernel]
  simp only [if_pos (show (40 : Int) ≤ ((40 : Nat) : Int) by decide), if_pos (show (40 : Int) = ((40 : Nat) : Int) by decide), if_pos (show (0 : Int) ≤ 5 by decide), if_pos (show (0 : Int) ≤ 0 by decide), List.length_set, List.length_cons, List.length_nil, if_pos (show (5 : Int) < ((0 + 1 + 1 + 1 + 1 + 1 + 1 : Nat) : Int) by decide), if_true]
  rw [show rd (((((([0, 0, 0, 0, 0, 0] : List Int).set 0 (octV xs 0)).set 1 (octV xs 1)).set 2 (octV xs 2)).set 3 (octV xs 3)).set 4 (octV xs 4)) 5 = 0 from rfl, show Go.bits .or .u8 0 128 = 128 by decide +kernel]
  refine Ev.step (f := fun k => _) (fun k => by rw [cutroomref02_Payload.l0]) ?_
  rw [hl]
  simp only [if_neg (show ¬ (41 : Int) ≤ ((40 : Nat) : Int) by decide)]
  exact Ev.now _

/-! ### Stamps -/
def stampL (m v : Int) : List Int := [16 * m + v / 1073741824 * 2 + 1, v / 4194304 % 256, v / 32768 % 128 * 2 + 1, v / 128 % 256, v % 128 * 2 + 1]
theorem stampL_length (m v : Int) : (stampL m v).length = 5 := rfl
theorem orj (k : IntKind) (j : Nat) (hj : j ≤ k.bits) (hk : ∀ n : Int, 0 ≤ n → n < 2 ^ j → k.wrap n = n) (i : Nat) (x y s : Int) (hx₀ : 0 ≤ x) (hx : x % 2 ^ i = 0) (hx₁ : x < 2 ^ j) (hy₀ : 0 ≤ y) (hy : y < 2 ^ i) (hy₁ : y < 2 ^ j) (hs : s = x + y) : Go.bits .or k x y = s := by
  subst hs; exact Go.bits_join k j hj hk i x y hx₀ hx hx₁ hy₀ hy hy₁
theorem stamp_eq (m v : Int) (hm : 0 ≤ m ∧ m < 16) (hv : 0 ≤ v ∧ v < 8589934592) : pes_stamp.f m v = some (stampL m v) := by
  unfold pes_stamp.f stampL
  rw [w64 (m * 16) (by omega) (by omega)]
  rw [orj .u8 8 (by decide) Go.wraps_u8 4 (m * 16 % 256) (v / 1073741824 % 256 * 2 % 256) (16 * m + v / 1073741824 * 2) (by omega) (by omega) (by omega) (by omega) (by omega) (by omega) (by omega)]
  rw [orj .u8 8 (by decide) Go.wraps_u8 1 (16 * m + v / 1073741824 * 2) 1 (16 * m + v / 1073741824 * 2 + 1) (by omega) (by omega) (by omega) (by omega) (by omega) (by omega) rfl]
  rw [orj .u8 8 (by decide) Go.wraps_u8 1 (v / 32768 % 256 * 2 % 256) 1 (v / 32768 % 128 * 2 + 1) (by omega) (by omega) (by omega) (by omega) (by omega) (by omega) (by omega)]
  rw [orj .u8 8 (by decide) Go.wraps_u8 1 (v % 256 * 2 % 256) 1 (v % 128 * 2 + 1) (by omega) (by omega) (by omega) (by omega) (by omega) (by omega) (by omega)]
theorem mask7 (x : Int) (h0 : 0 ≤ x) (h1 : x < 2 ^ 64) : Go.bits .and .u64 x 7 = x % 8 := by
  have := Go.bits_mask .u64 64 (by decide) wrapu64 3 (by decide) x h0 h1
  simpa using this
theorem mask15 (x : Int) (h0 : 0 ≤ x) (h1 : x < 2 ^ 64) : Go.bits .and .u64 x 32767 = x % 32768 := by
  have := Go.bits_mask .u64 64 (by decide) wrapu64 15 (by decide) x h0 h1
  simpa using this
theorem byte_of (y : Int) (h : 0 ≤ y ∧ y < 256) : 0 + y / 128 % 2 * 128 + y / 64 % 2 * 64 + y / 32 % 2 * 32 + y / 16 % 2 * 16 + y / 8 % 2 * 8 + y / 4 % 2 * 4 + y / 2 % 2 * 2 + y % 2 * 1 = y := by omega
theorem oct_hi (e : Int) (h : 0 ≤ e ∧ e < 32768) : 0 + e / 2 ^ 14 % 2 * 128 + e / 2 ^ 13 % 2 * 64 + e / 2 ^ 12 % 2 * 32 + e / 2 ^ 11 % 2 * 16 + e / 2 ^ 10 % 2 * 8 + e / 2 ^ 9 % 2 * 4 + e / 2 ^ 8 % 2 * 2 + e / 2 ^ 7 % 2 * 1 = e / 128 := by
  have h1 := byte_of (e / 128) (by omega)
  rw [show e / 2 ^ 14 = e / 128 / 128 by omega, show e / 2 ^ 13 = e / 128 / 64 by omega, show e / 2 ^ 12 = e / 128 / 32 by omega, show e / 2 ^ 11 = e / 128 / 16 by omega, show e / 2 ^ 10 = e / 128 / 8 by omega, show e / 2 ^ 9 = e / 128 / 4 by omega, show e / 2 ^ 8 = e / 128 / 2 by omega, show e / 2 ^ 7 = e / 128 by omega]
  exact h1
theorem oct_lo (e : Int) (h : 0 ≤ e ∧ e < 32768) : 0 + e / 2 ^ 6 % 2 * 128 + e / 2 ^ 5 % 2 * 64 + e / 2 ^ 4 % 2 * 32 + e / 2 ^ 3 % 2 * 16 + e / 2 ^ 2 % 2 * 8 + e / 2 ^ 1 % 2 * 4 + e / 2 ^ 0 % 2 * 2 + 1 * 1 = e % 128 * 2 + 1 := by
  have h1 := byte_of (e % 128) (by omega)
  rw [show e / 2 ^ 6 % 2 = e % 128 / 64 % 2 by omega, show e / 2 ^ 5 % 2 = e % 128 / 32 % 2 by omega, show e / 2 ^ 4 % 2 = e % 128 / 16 % 2 by omega, show e / 2 ^ 3 % 2 = e % 128 / 8 % 2 by omega, show e / 2 ^ 2 % 2 = e % 128 / 4 % 2 by omega, show e / 2 ^ 1 % 2 = e % 128 / 2 % 2 by omega, show e / 2 ^ 0 % 2 = e % 128 % 2 by omega]
  rw [show e % 128 / 128 % 2 = 0 by omega] at h1
  omega
theorem oct_top (m a : Int) (hm : 0 ≤ m ∧ m < 16) (ha : 0 ≤ a ∧ a < 8) : 0 + m / 2 ^ 3 % 2 * 128 + m / 2 ^ 2 % 2 * 64 + m / 2 ^ 1 % 2 * 32 + m / 2 ^ 0 % 2 * 16 + a / 2 ^ 2 % 2 * 8 + a / 2 ^ 1 % 2 * 4 + a / 2 ^ 0 % 2 * 2 + 1 * 1 = 16 * m + a * 2 + 1 := by
  have h1 : m / 2 ^ 3 % 2 * 128 + m / 2 ^ 2 % 2 * 64 + m / 2 ^ 1 % 2 * 32 + m / 2 ^ 0 % 2 * 16 = 16 * m := by omega
  have h2 : a / 2 ^ 2 % 2 * 8 + a / 2 ^ 1 % 2 * 4 + a / 2 ^ 0 % 2 * 2 = a * 2 := by omega
  omega
theorem pay40' (x0 x1 x2 x3 x4 x5 x6 x7 x8 x9 x10 x11 x12 x13 x14 x15 x16 x17 x18 x19 x20 x21 x22 x23 x24 x25 x26 x27 x28 x29 x30 x31 x32 x33 x34 x35 x36 x37 x38 x39 : Int) (h01 : ∀ x ∈ [x0, x1, x2, x3, x4, x5, x6, x7, x8, x9, x10, x11, x12, x13, x14, x15, x16, x17, x18, x19, x20, x21, x22, x23, x24, x25, x26, x27, x28, x29, x30, x31, x32, x33, x34, x35, x36, x37, x38, x39], x = 0 ∨ x = 1) : Ev (fun k => cutroomref02_Payload.f k [x0, x1, x2, x3, x4, x5, x6, x7, x8, x9, x10, x11, x12, x13, x14, x15, x16, x17, x18, x19, x20, x21, x22, x23, x24, x25, x26, x27, x28, x29, x30, x31, x32, x33, x34, x35, x36, x37, x38, x39]) [0 + x0 * 128 + x1 * 64 + x2 * 32 + x3 * 16 + x4 * 8 + x5 * 4 + x6 * 2 + x7 * 1, 0 + x8 * 128 + x9 * 64 + x10 * 32 + x11 * 16 + x12 * 8 + x13 * 4 + x14 * 2 + x15 * 1, 0 + x16 * 128 + x17 * 64 + x18 * 32 + x19 * 16 + x20 * 8 + x21 * 4 + x22 * 2 + x23 * 1, 0 + x24 * 128 + x25 * 64 + x26 * 32 + x27 * 16 + x28 * 8 + x29 * 4 + x30 * 2 + x31 * 1, 0 + x32 * 128 + x33 * 64 + x34 * 32 + x35 * 16 + x36 * 8 + x37 * 4 + x38 * 2 + x39 * 1, 128] := pay40 [x0, x1, x2, x3, x4, x5, x6, x7, x8, x9, x10, x11, x12, x13, x14, x15, x16, x17, x18, x19, x20, x21, x22, x23, x24, x25, x26, x27, x28, x29, x30, x31, x32, x33, x34, x35, x36, x37, x38, x39] rfl h01
theorem rstamped_ev (m v : Int) (hm : 0 ≤ m ∧ m < 16) (hv : 0 ≤ v ∧ v < 8589934592) : Ev (fun k => cutroomref16_stamped.f k m v) (stampL m v) := by
  unfold cutroomref16_stamped.f
  rw [wrapu64 v (by omega) (by omega), mask7 _ (by omega) (by omega), mask15 _ (by omega) (by omega), mask15 _ (by omega) (by omega)]
  generalize ha : v / 1073741824 % 8 % 4294967296 = a
  generalize he : v / 32768 % 32768 % 4294967296 = e
  generalize hf : v % 32768 % 4294967296 = f
  refine Ev.bind (bits_ev m (by omega) 4 (by omega) 4 rfl) (Ev.bind (bits_ev a (by omega) 3 (by omega) 3 rfl) ?_)
  simp only [bitsL_length, List.length_append, Option.bind_some, if_pos (show 4 + 3 < 140737488355328 by decide)]
  refine Ev.bind (bits_ev e (by omega) 15 (by omega) 15 rfl) ?_
  simp only [bitsL_length, List.length_append, List.length_cons, List.length_nil, Option.bind_some, if_pos (show 4 + 3 + (0 + 1) + 15 < 140737488355328 by decide)]
  refine Ev.bind (bits_ev f (by omega) 15 (by omega) 15 rfl) ?_
  simp only [bitsL_length, List.length_append, List.length_cons, List.length_nil, Option.bind_some, if_pos (show 4 + 3 + (0 + 1) + 15 + (0 + 1) + 15 < 140737488355328 by decide)]
  have h01 : ∀ x ∈ bitsL m 4 ++ bitsL a 3 ++ [1] ++ bitsL e 15 ++ [1] ++ bitsL f 15 ++ [1], x = 0 ∨ x = 1 := by
    intro x hx
    simp only [List.mem_append, List.mem_singleton] at hx
    rcases hx with (((((h | h) | h) | h) | h) | h) | h
    · exact bitsL_01 _ _ x h
    · exact bitsL_01 _ _ x h
    · exact .inr h
    · exact bitsL_01 _ _ x h
    · exact .inr h
    · exact bitsL_01 _ _ x h
    · exact .inr h
  simp only [bitsL, List.cons_append, List.nil_append, List.append_assoc] at h01 ⊢
  refine Ev.bind (pay40' _ _ _ _ _ _ _ _ _ _ _ _ _ _ _ _ _ _ _ _ _ _ _ _ _ _ _ _ _ _ _ _ _ _ _ _ _ _ _ _ h01) ?_
  have fa : a = v / 1073741824 := by omega
  have fe1 : e / 128 = v / 4194304 % 256 := by omega
  have fe2 : e % 128 = v / 32768 % 128 := by omega
  have ff1 : f / 128 = v / 128 % 256 := by omega
  have ff2 : f % 128 = v % 128 := by omega
  rw [oct_top m a hm (by omega), oct_hi e (by omega), oct_lo e (by omega), oct_hi f (by omega), oct_lo f (by omega), fa, fe1, fe2, ff1, ff2]
  simp only [List.length_cons, List.length_nil, if_pos (show (5 : Int) ≤ ((0 + 1 + 1 + 1 + 1 + 1 + 1 : Nat) : Int) by decide)]
  exact Ev.now _

/-! ### Put -/
def stampsL (p d : Int) : List Int := if p < 0 then [] else if d < 0 then stampL 2 p else stampL 3 p ++ stampL 1 d
def flagV (p d : Int) : Int := if p < 0 then 0 else if d < 0 then 128 else 192
theorem stampsL_length (p d : Int) : (stampsL p d).length ≤ 10 := by
  unfold stampsL; split
  · decide
  split
  · show 5 ≤ 10; decide
  · show 10 ≤ 10; decide
def validP (id p d : Int) : Prop := 192 ≤ id ∧ id ≤ 239 ∧ -1 ≤ p ∧ p < 8589934592 ∧ -1 ≤ d ∧ d < 8589934592 ∧ (0 ≤ p ∨ d < 0)
instance (id p d : Int) : Decidable (validP id p d) := by unfold validP; infer_instance
theorem valid_eq (id p d : Int) (pl : List Int) : pes_valid.f id p d pl = some (decide (validP id p d)) := by
  unfold pes_valid.f pes_mayStamp.f validP
  by_cases h1 : id ≥ 192 <;> by_cases h2 : id ≤ 239 <;> by_cases h3 : p ≥ -1 <;> by_cases h4 : p < 8589934592 <;> by_cases h5 : d ≥ -1 <;> by_cases h6 : d < 8589934592 <;> by_cases h7 : p ≥ 0 <;>
    simp [h1, h2, h3, h4, h5, h6, h7] <;> omega
theorem rvalid_eq (id p d : Int) (pl : List Int) : cutroomref16_Valid.f id p d pl = some (decide (validP id p d)) := valid_eq id p d pl
theorem flags_eq (id p d : Int) (pl : List Int) (h : validP id p d) : pes_flags.f id p d pl = some (flagV p d, stampsL p d) := by
  unfold validP at h
  unfold pes_flags.f flagV stampsL
  by_cases hp : p < 0
  · simp only [if_pos hp]
  by_cases hd : d < 0
  · simp only [if_neg hp, if_pos hd, stamp_eq 2 p (by omega) (by omega), Option.bind_some]
  · simp only [if_neg hp, if_neg hd, stamp_eq 3 p (by omega) (by omega), stamp_eq 1 d (by omega) (by omega), Option.bind_some, if_pos (show (stampL 3 p).length + (stampL 1 d).length < 140737488355328 by rw [stampL_length, stampL_length]; decide)]
theorem head_ev (id p d : Int) (pl : List Int) (h : validP id p d) : Ev (fun k => cutroomref16_head.f k id p d pl) (flagV p d, stampsL p d) := by
  unfold validP at h
  unfold cutroomref16_head.f flagV stampsL
  by_cases hp : p < 0
  · simp only [if_pos hp]; exact Ev.now _
  by_cases hd : d < 0
  · simp only [if_neg hp, if_pos hd]
    exact Ev.bind (rstamped_ev 2 p (by omega) (by omega)) (Ev.now _)
  · simp only [if_neg hp, if_neg hd]
    refine Ev.bind (rstamped_ev 3 p (by omega) (by omega)) (Ev.bind (rstamped_ev 1 d (by omega) (by omega)) ?_)
    simp only [if_pos (show (stampL 3 p).length + (stampL 1 d).length < 140737488355328 by rw [stampL_length, stampL_length]; decide)]; exact Ev.now _
theorem concat3 (a b c : List Int) (h : a.length + b.length + c.length ≤ 100000000000) : Ev (fun k => slices_Concat_byte_byte.f k [a, b, c]) (a ++ b ++ c) := by
  unfold slices_Concat_byte_byte.f
  have r0 : rd_L1 [a, b, c] 0 = a := rfl
  have r1 : rd_L1 [a, b, c] 1 = b := rfl
  have r2 : rd_L1 [a, b, c] 2 = c := rfl
  have hl : (([a, b, c] : List (List Int)).length : Int) = 3 := rfl
  rw [hl]
  refine Ev.step (f := fun k => _) (fun k => by rw [slices_Concat_byte_byte.l0]) ?_
  simp only [hl, r0, w64 (0 + (a.length : Int)) (by omega) (by omega), w64 ((0 : Int) + 1) (by omega) (by omega), if_pos (show (0 : Int) < 3 by decide), if_pos (show (0 : Int) ≤ 0 by decide), if_neg (show ¬ (0 + (a.length : Int) < 0) by omega)]
  refine Ev.step (f := fun k => _) (fun k => by rw [slices_Concat_byte_byte.l0]) ?_
  simp only [hl, show (0 : Int) + 1 = 1 from rfl, r1, w64 (0 + (a.length : Int) + (b.length : Int)) (by omega) (by omega), w64 ((1 : Int) + 1) (by omega) (by omega), if_pos (show (1 : Int) < 3 by decide), if_pos (show (0 : Int) ≤ 1 by decide), if_neg (show ¬ (0 + (a.length : Int) + (b.length : Int) < 0) by omega)]
  refine Ev.step (f := fun k => _) (fun k => by rw [slices_Concat_byte_byte.l0]) ?_
  simp only [hl, show (1 : Int) + 1 = 2 from rfl, r2, w64 (0 + (a.length : Int) + (b.length : Int) + (c.length : Int)) (by omega) (by omega), w64 ((2 : Int) + 1) (by omega) (by omega), if_pos (show (2 : Int) < 3 by decide), if_pos (show (0 : Int) ≤ 2 by decide), if_neg (show ¬ (0 + (a.length : Int) + (b.length : Int) + (c.length : Int) < 0) by omega)]
  refine Ev.step (f := fun k => _) (fun k => by rw [slices_Concat_byte_byte.l0]) ?_
  simp only [show (2 : Int) + 1 = 3 from rfl, if_neg (show ¬ (3 : Int) < 3 by decide)]
  have hg : slices_Grow_byte_byte.f [] (0 + (a.length : Int) + (b.length : Int) + (c.length : Int)) = some [] := by
    unfold slices_Grow_byte_byte.f; rw [if_pos ⟨rfl, by omega, by omega⟩]
  refine Ev.bind (ev_of hg) ?_
  rw [hl]
  refine Ev.step (f := fun k => _) (fun k => by rw [slices_Concat_byte_byte.l1]) ?_
  simp only [hl, r0, List.nil_append, List.length_nil, w64 ((0 : Int) + 1) (by omega) (by omega), if_pos (show (0 : Int) < 3 by decide), if_pos (show (0 : Int) ≤ 0 by decide), if_pos (show 0 + a.length < 140737488355328 by omega)]
  refine Ev.step (f := fun k => _) (fun k => by rw [slices_Concat_byte_byte.l1]) ?_
  simp only [hl, show (0 : Int) + 1 = 1 from rfl, r1, w64 ((1 : Int) + 1) (by omega) (by omega), if_pos (show (1 : Int) < 3 by decide), if_pos (show (0 : Int) ≤ 1 by decide), if_pos (show a.length + b.length < 140737488355328 by omega)]
  refine Ev.step (f := fun k => _) (fun k => by rw [slices_Concat_byte_byte.l1]) ?_
  simp only [hl, show (1 : Int) + 1 = 2 from rfl, r2, w64 ((2 : Int) + 1) (by omega) (by omega), if_pos (show (2 : Int) < 3 by decide), if_pos (show (0 : Int) ≤ 2 by decide), List.length_append, if_pos (show a.length + b.length + c.length < 140737488355328 by omega)]
  refine Ev.step (f := fun k => _) (fun k => by rw [slices_Concat_byte_byte.l1]) ?_
  simp only [show (2 : Int) + 1 = 3 from rfl, if_neg (show ¬ (3 : Int) < 3 by decide)]
  exact Ev.now _
def sizeP (p d : Int) (pl : List Int) : Int := 3 + ((stampsL p d).length : Int) + (pl.length : Int)
def headP (id p d : Int) (pl : List Int) : List Int := [0, 0, 1, id % 256, sizeP p d pl / 256 % 256, sizeP p d pl % 256, 128, flagV p d, ((stampsL p d).length : Int) % 256]
def putV (id p d : Int) (pl : List Int) : List Int × Int :=
  if validP id p d then (if sizeP p d pl > 65535 then ([], 5) else (headP id p d pl ++ stampsL p d ++ pl, 0)) else ([], 1)
theorem put_ev (id p d : Int) (pl : List Int) (hl : pl.length ≤ 1000000000) : Ev (fun k => pes_Put.f k id p d pl) (putV id p d pl) := by
  unfold pes_Put.f putV
  rw [valid_eq]
  by_cases h : validP id p d
  · have hs := stampsL_length p d
    have e1 : wrap64 (wrap64 (3 + ((stampsL p d).length : Int)) + (pl.length : Int)) = sizeP p d pl := by
      rw [w64 (3 + _) (by omega) (by omega), w64 _ (by omega) (by omega)]; rfl
    simp only [decide_eq_true h, Option.bind_some, if_true, if_pos h]
    refine Ev.bind (ev_of (flags_eq id p d pl h)) ?_
    simp only [e1]
    by_cases hz : sizeP p d pl > 65535
    · simp only [if_pos hz]; exact Ev.now _
    · simp only [if_neg hz]
      exact Ev.bind (concat3 _ _ _ (by simp only [List.length_cons, List.length_nil]; omega)) (Ev.now _)
  · simp only [decide_eq_false h, Option.bind_some, Bool.false_eq_true, if_false, if_neg h]; exact Ev.now _
theorem rput_ev (id p d : Int) (pl : List Int) (hl : pl.length ≤ 1000000000) : Ev (fun k => cutroomref16_Put.f k id p d pl) (putV id p d pl) := by
  unfold cutroomref16_Put.f putV
  rw [rvalid_eq]
  by_cases h : validP id p d
  · have hs := stampsL_length p d
    have e1 : wrap64 (wrap64 (3 + ((stampsL p d).length : Int)) + (pl.length : Int)) = sizeP p d pl := by
      rw [w64 (3 + _) (by omega) (by omega), w64 _ (by omega) (by omega)]; rfl
    simp only [decide_eq_true h, Option.bind_some, if_true, if_pos h]
    refine Ev.bind (head_ev id p d pl h) ?_
    simp only [e1]
    by_cases hz : sizeP p d pl > 65535
    · simp only [if_pos hz]; exact Ev.now _
    · simp only [if_neg hz, List.length_append, List.length_cons, List.length_nil, Option.bind_some]
      rw [if_pos (by omega), if_pos (by omega)]
      exact Ev.now _
  · simp only [decide_eq_false h, Option.bind_some, Bool.false_eq_true, if_false, if_neg h]; exact Ev.now _

/-! ### Take -/
theorem samebytes_dec (xs ys : List Int) (hx : ∀ x ∈ xs, 0 ≤ x ∧ x < 256) (hy : ∀ x ∈ ys, 0 ≤ x ∧ x < 256) : cutroomref02_SameBytes.f xs ys = some (decide (xs = ys)) := by
  rw [samebytes]
  by_cases h : xs = ys
  · subst h; simp
  · rw [decide_eq_false h]
    congr 1
    rw [beq_eq_false_iff_ne]
    exact fun e => h (bytesOf_inj xs ys hx hy e)
theorem stampL_bd (m v : Int) (hm : 0 ≤ m ∧ m < 16) (hv : 0 ≤ v ∧ v < 8589934592) : ∀ x ∈ stampL m v, 0 ≤ x ∧ x < 256 := by
  intro x hx
  simp only [stampL, List.mem_cons, List.not_mem_nil, or_false] at hx
  rcases hx with rfl | rfl | rfl | rfl | rfl <;> omega
def takenV (c0 c1 c2 c3 c4 : Int) : Int := c0 / 2 % 8 * 1073741824 + c1 * 4194304 + c2 / 2 * 32768 + c3 * 128 + c4 / 2
def okV (m c0 c2 c4 : Int) : Prop := c0 / 16 = m ∧ c0 % 2 = 1 ∧ c2 % 2 = 1 ∧ c4 % 2 = 1
instance (m c0 c2 c4 : Int) : Decidable (okV m c0 c2 c4) := by unfold okV; infer_instance
theorem takenV_bd (c0 c1 c2 c3 c4 : Int) (h0 : 0 ≤ c0 ∧ c0 < 256) (h1 : 0 ≤ c1 ∧ c1 < 256) (h2 : 0 ≤ c2 ∧ c2 < 256) (h3 : 0 ≤ c3 ∧ c3 < 256) (h4 : 0 ≤ c4 ∧ c4 < 256) : 0 ≤ takenV c0 c1 c2 c3 c4 ∧ takenV c0 c1 c2 c3 c4 < 8589934592 := by
  unfold takenV; omega
theorem stamp_taken (m c0 c1 c2 c3 c4 : Int) (hm : 0 ≤ m ∧ m < 16) (h0 : 0 ≤ c0 ∧ c0 < 256) (h1 : 0 ≤ c1 ∧ c1 < 256) (h2 : 0 ≤ c2 ∧ c2 < 256) (h3 : 0 ≤ c3 ∧ c3 < 256) (h4 : 0 ≤ c4 ∧ c4 < 256) :
    stampL m (takenV c0 c1 c2 c3 c4) = [16 * m + c0 / 2 % 8 * 2 + 1, c1, c2 / 2 * 2 + 1, c3, c4 / 2 * 2 + 1] := by
  unfold stampL
  have e1 : takenV c0 c1 c2 c3 c4 / 1073741824 = c0 / 2 % 8 := by unfold takenV; omega
  have e2 : takenV c0 c1 c2 c3 c4 / 4194304 % 256 = c1 := by unfold takenV; omega
  have e3 : takenV c0 c1 c2 c3 c4 / 32768 % 128 = c2 / 2 := by unfold takenV; omega
  have e4 : takenV c0 c1 c2 c3 c4 / 128 % 256 = c3 := by unfold takenV; omega
  have e5 : takenV c0 c1 c2 c3 c4 % 128 = c4 / 2 := by unfold takenV; omega
  rw [e1, e2, e3, e4, e5]
theorem or_i64 (x y s : Int) (i : Nat) (hx₀ : 0 ≤ x) (hx : x % 2 ^ i = 0) (hx₁ : x < 2 ^ 63) (hy₀ : 0 ≤ y) (hy : y < 2 ^ i) (hy₁ : y < 2 ^ 63) (hs : s = x + y) : Go.bits .or .i64 x y = s :=
  orj .i64 63 (by decide) wrapi64 i x y s hx₀ hx hx₁ hy₀ hy hy₁ hs
theorem and1 (x : Int) (h : 0 ≤ x ∧ x < 256) : Go.bits .and .u8 x 1 = x % 2 := by
  have := Go.bits_mask .u8 8 (by decide) Go.wraps_u8 1 (by decide) x h.1 h.2
  simpa using this
theorem taken_val (c0 c1 c2 c3 c4 : Int) (h0 : 0 ≤ c0 ∧ c0 < 256) (h1 : 0 ≤ c1 ∧ c1 < 256) (h2 : 0 ≤ c2 ∧ c2 < 256) (h3 : 0 ≤ c3 ∧ c3 < 256) (h4 : 0 ≤ c4 ∧ c4 < 256) :
    Go.bits .or .i64 (Go.bits .or .i64 (Go.bits .or .i64 (Go.bits .or .i64 (wrap64 ((wrap64 (Go.bits .and .u8 (c0 / 2) 7)) * 1073741824)) (wrap64 ((wrap64 c1) * 4194304))) (wrap64 ((wrap64 (c2 / 2)) * 32768))) (wrap64 ((wrap64 c3) * 128))) (wrap64 (c4 / 2)) = takenV c0 c1 c2 c3 c4 := by
  rw [Go.u8_and7 _ (by omega) (by omega), w64 (c0 / 2 % 8) (by omega) (by omega), w64 (c0 / 2 % 8 * 1073741824) (by omega) (by omega), w64 c1 (by omega) (by omega), w64 (c1 * 4194304) (by omega) (by omega), w64 (c2 / 2) (by omega) (by omega), w64 (c2 / 2 * 32768) (by omega) (by omega), w64 c3 (by omega) (by omega), w64 (c3 * 128) (by omega) (by omega), w64 (c4 / 2) (by omega) (by omega)]
  rw [or_i64 (c0 / 2 % 8 * 1073741824) (c1 * 4194304) _ 30 (by omega) (by omega) (by omega) (by omega) (by omega) (by omega) rfl]
  rw [or_i64 (c0 / 2 % 8 * 1073741824 + c1 * 4194304) (c2 / 2 * 32768) _ 22 (by omega) (by omega) (by omega) (by omega) (by omega) (by omega) rfl]
  rw [or_i64 (c0 / 2 % 8 * 1073741824 + c1 * 4194304 + c2 / 2 * 32768) (c3 * 128) _ 15 (by omega) (by omega) (by omega) (by omega) (by omega) (by omega) rfl]
  rw [or_i64 (c0 / 2 % 8 * 1073741824 + c1 * 4194304 + c2 / 2 * 32768 + c3 * 128) (c4 / 2) _ 7 (by omega) (by omega) (by omega) (by omega) (by omega) (by omega) rfl]
  rfl
theorem unstamp_eq (c0 c1 c2 c3 c4 : Int) (u : List Int) (m : Int) (h0 : 0 ≤ c0 ∧ c0 < 256) (h1 : 0 ≤ c1 ∧ c1 < 256) (h2 : 0 ≤ c2 ∧ c2 < 256) (h3 : 0 ≤ c3 ∧ c3 < 256) (h4 : 0 ≤ c4 ∧ c4 < 256) :
    pes_unstamp.f (c0 :: c1 :: c2 :: c3 :: c4 :: u) m = some (takenV c0 c1 c2 c3 c4, decide (okV m c0 c2 c4)) := by
  have hl : ((c0 :: c1 :: c2 :: c3 :: c4 :: u).length : Int) = (u.length : Int) + 5 := by simp only [List.length_cons]; omega
  have r0 : rd (c0 :: c1 :: c2 :: c3 :: c4 :: u) 0 = c0 := rfl
  have r1 : rd (c0 :: c1 :: c2 :: c3 :: c4 :: u) 1 = c1 := rfl
  have r2 : rd (c0 :: c1 :: c2 :: c3 :: c4 :: u) 2 = c2 := rfl
  have r3 : rd (c0 :: c1 :: c2 :: c3 :: c4 :: u) 3 = c3 := rfl
  have r4 : rd (c0 :: c1 :: c2 :: c3 :: c4 :: u) 4 = c4 := rfl
  unfold pes_unstamp.f
  rw [hl, r0, r1, r2, r3, r4, taken_val c0 c1 c2 c3 c4 h0 h1 h2 h3 h4, and1 c0 h0, and1 c2 h2, and1 c4 h4, w64 (c0 / 16) (by omega) (by omega)]
  rw [if_pos (by omega), if_pos (by omega), if_pos (by omega), if_pos (by omega), if_pos (by omega)]
  unfold okV
  by_cases a1 : c0 / 16 = m
  · rw [if_pos a1]
    by_cases a2 : c0 % 2 = 1
    · rw [if_pos a2]
      by_cases a3 : c2 % 2 = 1
      · rw [if_pos a3]
        simp only [a1, a2, a3, true_and]
        by_cases a4 : c4 % 2 = 1
        · simp [a4]
        · simp [a4]
      · rw [if_neg a3]; simp [a3]
    · rw [if_neg a2]; simp [a2]
  · rw [if_neg a1]; simp [a1]
theorem size_eq (x y : Int) (hx : 0 ≤ x ∧ x < 256) (hy : 0 ≤ y ∧ y < 256) : Go.bits .or .i64 (wrap64 ((wrap64 x) * 256)) (wrap64 y) = x * 256 + y := by
  rw [w64 x (by omega) (by omega), w64 (x * 256) (by omega) (by omega), w64 y (by omega) (by omega)]
  exact or_i64 (x * 256) y _ 8 (by omega) (by omega) (by omega) (by omega) (by omega) (by omega) rfl
def e3 : Int × Int × Int × List Int × Int × Int := (0, 0, 0, [], 0, 3)
def e4 : Int × Int × Int × List Int × Int × Int := (0, 0, 0, [], 0, 4)
def goodH (b : List Int) : Prop := rd b 0 = 0 ∧ rd b 1 = 0 ∧ rd b 2 = 1 ∧ 192 ≤ rd b 3 ∧ rd b 3 ≤ 239 ∧ rd b 6 = 128
def sizeB (b : List Int) : Int := rd b 4 * 256 + rd b 5
/-- The packet that lies in these bytes, whose header is good, whole and tells of h bytes of stamps. -/
def bodyV (b : List Int) : Int × Int × Int × List Int × Int × Int :=
  if rd b 7 = 128 then (if okV 2 (rd b 9) (rd b 11) (rd b 13) then (rd b 3, takenV (rd b 9) (rd b 10) (rd b 11) (rd b 12) (rd b 13), -1, (b.take (6 + sizeB b).toNat).drop 14, 6 + sizeB b, 0) else e3)
  else if rd b 7 = 192 then (if okV 3 (rd b 9) (rd b 11) (rd b 13) ∧ okV 1 (rd b 14) (rd b 16) (rd b 18) then (rd b 3, takenV (rd b 9) (rd b 10) (rd b 11) (rd b 12) (rd b 13), takenV (rd b 14) (rd b 15) (rd b 16) (rd b 17) (rd b 18), (b.take (6 + sizeB b).toNat).drop 19, 6 + sizeB b, 0) else e3)
  else (rd b 3, -1, -1, (b.take (6 + sizeB b).toNat).drop 9, 6 + sizeB b, 0)
def matchH (b : List Int) : Prop := (rd b 7 = 0 ∧ rd b 8 = 0) ∨ (rd b 7 = 128 ∧ rd b 8 = 5) ∨ (rd b 7 = 192 ∧ rd b 8 = 10)
instance (b : List Int) : Decidable (goodH b ∧ matchH b ∧ 3 + rd b 8 ≤ sizeB b) := by unfold goodH matchH; infer_instance
def takeV (b : List Int) : Int × Int × Int × List Int × Int × Int :=
  if (b.length : Int) < 9 then e4 else if goodH b ∧ matchH b ∧ 3 + rd b 8 ≤ sizeB b then (if (b.length : Int) < 6 + sizeB b then e4 else bodyV b) else e3
theorem rd_mem (b : List Int) (hb : ∀ x ∈ b, 0 ≤ x ∧ x < 256) (i : Int) : 0 ≤ rd b i ∧ rd b i < 256 := by
  unfold rd
  by_cases h : i.toNat < b.length
  · rw [List.getD_eq_getElem?_getD, List.getElem?_eq_getElem h, Option.getD_some]; exact hb _ (List.getElem_mem h)
  · rw [List.getD_eq_getElem?_getD, List.getElem?_eq_none (by omega)]; exact ⟨by decide, by decide⟩
theorem drop_cons5 (b : List Int) (j : Nat) (h : j + 5 ≤ b.length) : b.drop j = rd b (j : Int) :: rd b ((j + 1 : Nat) : Int) :: rd b ((j + 2 : Nat) : Int) :: rd b ((j + 3 : Nat) : Int) :: rd b ((j + 4 : Nat) : Int) :: b.drop (j + 5) := by
  have g : ∀ i, i < b.length → b.drop i = rd b (i : Int) :: b.drop (i + 1) := by
    intro i hi
    rw [List.drop_eq_getElem_cons hi]
    congr 1
    unfold rd
    rw [Int.toNat_natCast, List.getD_eq_getElem?_getD, List.getElem?_eq_getElem hi, Option.getD_some]
  rw [g j (by omega), g (j + 1) (by omega), g (j + 1 + 1) (by omega), g (j + 1 + 1 + 1) (by omega), g (j + 1 + 1 + 1 + 1) (by omega)]
theorem stamped_eq (x : Int) : pes_stamped.f x = some (if x = 128 then 5 else if x = 192 then 10 else 0, decide (x = 0 ∨ x = 128 ∨ x = 192)) := by
  unfold pes_stamped.f
  by_cases h0 : x = 0
  · subst h0; rfl
  by_cases h1 : x = 128
  · subst h1; rfl
  by_cases h2 : x = 192
  · subst h2; rfl
  simp [h0, h1, h2]
theorem take_j1 (b : List Int) (t z x p d : Int) (o1 o2 : Bool) (ho : ¬ (o1 = true ∧ o2 = true)) : Ev (fun k => pes_Take.j1 k b t z o1 o2 x p d) e3 := by
  refine Ev.step (f := fun k => _) (fun k => by rw [pes_Take.j1]) ?_
  cases o1
  · simp only [Bool.false_eq_true, if_false]; exact Ev.now _
  cases o2
  · simp only [Bool.false_eq_true, if_false, if_true]; exact Ev.now _
  · exact absurd ⟨rfl, rfl⟩ ho
theorem take_j1' (b : List Int) (t z x p d : Int) (m : Nat) (hm : (m : Int) = 9 + t) (h1 : 0 ≤ t) (h2 : 9 + t ≤ z) (h3 : z ≤ (b.length : Int)) (hl : b.length ≤ 1000000) : Ev (fun k => pes_Take.j1 k b t z true true x p d) (x, p, d, (b.take z.toNat).drop m, z, 0) := by
  refine Ev.step (f := fun k => _) (fun k => by rw [pes_Take.j1]) ?_
  rw [w64 (9 + t) (by omega) (by omega)]
  simp only [if_true, if_pos (show 0 ≤ 9 + t by omega), if_pos h2, if_pos h3]
  have hc : slices_Clone_byte_byte.f ((b.take z.toNat).drop (9 + t).toNat) = some ((b.take z.toNat).drop (9 + t).toNat) := by
    unfold slices_Clone_byte_byte.f
    rw [if_pos (by rw [List.length_drop, List.length_take]; omega)]
  refine Ev.bind (ev_of hc) ?_
  rw [← hm, Int.toNat_natCast]
  exact Ev.now _
theorem take_j0 (b : List Int) (h9 : 9 ≤ (b.length : Int)) (hl : b.length ≤ 1000000) (hb : ∀ x ∈ b, 0 ≤ x ∧ x < 256) (hm : matchH b) (hz : 3 + rd b 8 ≤ sizeB b) :
    Ev (fun k => pes_Take.j0 k b (sizeB b) (rd b 8) false) (if (b.length : Int) < 6 + sizeB b then e4 else bodyV b) := by
  have q4 := rd_mem b hb 4
  have q5 := rd_mem b hb 5
  have q3 := rd_mem b hb 3
  have hs : 0 ≤ sizeB b ∧ sizeB b < 65536 := by unfold sizeB; omega
  refine Ev.step (f := fun k => _) (fun k => by rw [pes_Take.j0]) ?_
  rw [w64 (6 + sizeB b) (by omega) (by omega), w64 (rd b 3) (by omega) (by omega)]
  simp only [Bool.false_eq_true, if_false]
  by_cases hn : (b.length : Int) < 6 + sizeB b
  · simp only [if_pos hn]; exact Ev.now _
  simp only [if_neg hn, if_pos (show (3 : Int) < (b.length : Int) by omega), if_pos (show (7 : Int) < (b.length : Int) by omega), if_pos h9]
  unfold bodyV
  rcases hm with ⟨m7, m8⟩ | ⟨m7, m8⟩ | ⟨m7, m8⟩
  · simp only [m7, m8, if_neg (show ¬ (0 : Int) = 128 by decide), if_neg (show ¬ (0 : Int) = 192 by decide)]
    exact take_j1' b 0 _ _ _ _ 9 rfl (by decide) (by omega) (by omega) hl
  · simp only [m7, m8, if_true]
    rw [drop_cons5 b 9 (by omega)]
    refine Ev.bind (ev_of (unstamp_eq _ _ _ _ _ _ 2 (rd_mem b hb _) (rd_mem b hb _) (rd_mem b hb _) (rd_mem b hb _) (rd_mem b hb _))) ?_
    show Ev (fun k => pes_Take.j1 k b 5 (6 + sizeB b) (decide (okV 2 (rd b 9) (rd b 11) (rd b 13))) true (rd b 3) (takenV (rd b 9) (rd b 10) (rd b 11) (rd b 12) (rd b 13)) (-1)) _
    by_cases ho : okV 2 (rd b 9) (rd b 11) (rd b 13)
    · rw [decide_eq_true ho, if_pos ho]
      exact take_j1' b 5 _ _ _ _ 14 rfl (by decide) (by omega) (by omega) hl
    · rw [decide_eq_false ho, if_neg ho]
      exact take_j1 b _ _ _ _ _ _ _ (by simp)
  · simp only [m7, m8, if_true, if_neg (show ¬ (192 : Int) = 128 by decide), if_pos (show (14 : Int) ≤ (b.length : Int) by omega)]
    rw [drop_cons5 b 9 (by omega), drop_cons5 b 14 (by omega)]
    refine Ev.bind (ev_of (unstamp_eq _ _ _ _ _ _ 3 (rd_mem b hb _) (rd_mem b hb _) (rd_mem b hb _) (rd_mem b hb _) (rd_mem b hb _))) ?_
    refine Ev.bind (ev_of (unstamp_eq _ _ _ _ _ _ 1 (rd_mem b hb _) (rd_mem b hb _) (rd_mem b hb _) (rd_mem b hb _) (rd_mem b hb _))) ?_
    show Ev (fun k => pes_Take.j1 k b 10 (6 + sizeB b) (decide (okV 3 (rd b 9) (rd b 11) (rd b 13))) (decide (okV 1 (rd b 14) (rd b 16) (rd b 18))) (rd b 3) (takenV (rd b 9) (rd b 10) (rd b 11) (rd b 12) (rd b 13)) (takenV (rd b 14) (rd b 15) (rd b 16) (rd b 17) (rd b 18))) _
    by_cases ho : okV 3 (rd b 9) (rd b 11) (rd b 13) ∧ okV 1 (rd b 14) (rd b 16) (rd b 18)
    · rw [decide_eq_true ho.1, decide_eq_true ho.2, if_pos ho]
      exact take_j1' b 10 _ _ _ _ 19 rfl (by decide) (by omega) (by omega) hl
    · rw [if_neg ho]
      exact take_j1 b _ _ _ _ _ _ _ (by simpa using ho)
theorem take_j0_bad (b : List Int) (s t : Int) : Ev (fun k => pes_Take.j0 k b s t true) e3 := by
  refine Ev.step (f := fun k => _) (fun k => by rw [pes_Take.j0]) ?_
  simp only [if_true]; exact Ev.now _
theorem take_ev (b : List Int) (hl : b.length ≤ 1000000) (hb : ∀ x ∈ b, 0 ≤ x ∧ x < 256) : Ev (fun k => pes_Take.f k b) (takeV b) := by
  unfold pes_Take.f takeV
  by_cases h9 : (b.length : Int) < 9
  · simp only [if_pos h9]; exact Ev.now _
  have q3 := rd_mem b hb 3
  have q4 := rd_mem b hb 4
  have q5 := rd_mem b hb 5
  have q8 := rd_mem b hb 8
  rw [size_eq _ _ q4 q5, w64 (rd b 8) (by omega) (by omega)]
  simp only [if_neg h9, if_pos (show (0 : Int) < (b.length : Int) by omega), if_pos (show (1 : Int) < (b.length : Int) by omega), if_pos (show (2 : Int) < (b.length : Int) by omega), if_pos (show (3 : Int) < (b.length : Int) by omega), if_pos (show (4 : Int) < (b.length : Int) by omega), if_pos (show (5 : Int) < (b.length : Int) by omega), if_pos (show (6 : Int) < (b.length : Int) by omega), if_pos (show (7 : Int) < (b.length : Int) by omega), if_pos (show (8 : Int) < (b.length : Int) by omega)]
  refine Ev.bind (ev_of (stamped_eq _)) ?_
  have bad : ∀ t s : Int, ¬ (goodH b ∧ matchH b ∧ 3 + rd b 8 ≤ sizeB b) → Ev (fun k => pes_Take.j0 k b s t true) (if goodH b ∧ matchH b ∧ 3 + rd b 8 ≤ sizeB b then (if (b.length : Int) < 6 + sizeB b then e4 else bodyV b) else e3) := by
    intro t s hn
    rw [if_neg hn]; exact take_j0_bad b s t
  show Ev (fun k => if decide (rd b 7 = 0 ∨ rd b 7 = 128 ∨ rd b 7 = 192) = true then _ else _) _
  by_cases c7 : rd b 7 = 0 ∨ rd b 7 = 128 ∨ rd b 7 = 192
  case neg =>
    simp only [decide_eq_false c7, Bool.false_eq_true, if_false]
    exact bad _ _ (fun h => c7 (by have := h.2.1; unfold matchH at this; omega))
  simp only [decide_eq_true c7, if_true]
  by_cases c0 : rd b 0 = 0
  case neg => simp only [if_neg c0]; exact bad _ _ (fun h => c0 h.1.1)
  simp only [if_pos c0]
  by_cases c1 : rd b 1 = 0
  case neg => simp only [if_neg c1]; exact bad _ _ (fun h => c1 h.1.2.1)
  simp only [if_pos c1]
  by_cases c2 : rd b 2 = 1
  case neg => simp only [if_neg c2]; exact bad _ _ (fun h => c2 h.1.2.2.1)
  simp only [if_pos c2]
  by_cases c3 : rd b 3 < 192
  case pos => simp only [if_pos c3]; exact bad _ _ (fun h => absurd h.1.2.2.2.1 (by omega))
  simp only [if_neg c3]
  by_cases c3' : rd b 3 > 239
  case pos => simp only [if_pos c3']; exact bad _ _ (fun h => absurd h.1.2.2.2.2.1 (by omega))
  simp only [if_neg c3']
  by_cases c6 : rd b 6 = 128
  case neg => simp only [if_neg c6]; exact bad _ _ (fun h => c6 h.1.2.2.2.2.2)
  simp only [if_pos c6]
  by_cases c8 : rd b 8 = (if rd b 7 = 128 then 5 else if rd b 7 = 192 then 10 else 0)
  case neg =>
    simp only [if_neg c8]
    refine bad _ _ (fun h => c8 ?_)
    rcases h.2.1 with ⟨m7, m8⟩ | ⟨m7, m8⟩ | ⟨m7, m8⟩ <;> rw [m7, m8] <;> rfl
  simp only [if_pos c8, ← c8]
  have hg : goodH b := ⟨c0, c1, c2, by omega, by omega, c6⟩
  have hm : matchH b := by
    rcases c7 with c | c | c
    · rw [c] at c8; exact .inl ⟨c, c8⟩
    · rw [c] at c8; exact .inr (.inl ⟨c, c8⟩)
    · rw [c] at c8; exact .inr (.inr ⟨c, c8⟩)
  rw [w64 (3 + rd b 8) (by omega) (by omega)]
  by_cases hz : 3 + rd b 8 ≤ sizeB b
  · rw [if_pos ⟨hg, hm, hz⟩, show decide (rd b 4 * 256 + rd b 5 < 3 + rd b 8) = false from decide_eq_false (by unfold sizeB at hz; omega)]
    exact take_j0 b (by omega) hl hb hm hz
  · rw [show decide (rd b 4 * 256 + rd b 5 < 3 + rd b 8) = true from decide_eq_true (by unfold sizeB at hz; omega)]
    exact bad _ _ (fun h => hz h.2.2)

theorem awake_ev : Ev (fun k => cutroomlaw16_awake.f k) true := by
  refine Ev.of cutroomlaw16_awake.mono (k := 60) ?_
  decide +kernel

/-! ### What Put made is read back -/
theorem taken_stamp (m v : Int) (hv : 0 ≤ v ∧ v < 8589934592) : takenV (16 * m + v / 1073741824 * 2 + 1) (v / 4194304 % 256) (v / 32768 % 128 * 2 + 1) (v / 128 % 256) (v % 128 * 2 + 1) = v := by
  unfold takenV; omega
theorem ok_stamp (m v : Int) (hm : 0 ≤ m ∧ m < 16) (hv : 0 ≤ v ∧ v < 8589934592) : okV m (16 * m + v / 1073741824 * 2 + 1) (v / 32768 % 128 * 2 + 1) (v % 128 * 2 + 1) := by
  unfold okV; omega
theorem back (id p d : Int) (pl more A : List Int) (hp : putV id p d pl = (A, 0)) : takeV (A ++ more) = (id, p, d, pl, (A.length : Int), 0) := by
  unfold putV at hp
  by_cases hv : validP id p d
  case neg => rw [if_neg hv] at hp; exact absurd (congrArg Prod.snd hp) (show ¬ (1 : Int) = 0 by decide)
  rw [if_pos hv] at hp
  by_cases hz : sizeP p d pl > 65535
  case pos => rw [if_pos hz] at hp; exact absurd (congrArg Prod.snd hp) (show ¬ (5 : Int) = 0 by decide)
  rw [if_neg hz] at hp
  have hA : headP id p d pl ++ stampsL p d ++ pl = A := congrArg Prod.fst hp
  subst hA
  unfold validP at hv
  have hid : id % 256 = id := by omega
  by_cases c1 : p < 0
  · have e1 : p = -1 := by omega
    have e2 : d = -1 := by omega
    subst e1; subst e2
    have hS : stampsL (-1) (-1) = [] := rfl
    have hF : flagV (-1) (-1) = 0 := rfl
    have hs : sizeP (-1) (-1) pl = 3 + (pl.length : Int) := by unfold sizeP; rw [hS]; simp
    have hb : headP id (-1) (-1) pl ++ stampsL (-1) (-1) ++ pl ++ more = 0 :: 0 :: 1 :: id :: (sizeP (-1) (-1) pl / 256 % 256) :: (sizeP (-1) (-1) pl % 256) :: 128 :: 0 :: 0 :: (pl ++ more) := by
      unfold headP; rw [hS, hF, hid]; rfl
    have hl : ((headP id (-1) (-1) pl ++ stampsL (-1) (-1) ++ pl).length : Int) = 6 + sizeP (-1) (-1) pl := by
      rw [hS, hs]; unfold headP; simp only [List.length_append, List.length_cons, List.length_nil]; omega
    rw [hb, hl]
    generalize hg : sizeP (-1) (-1) pl = s at *
    have hlen : ((0 :: 0 :: 1 :: id :: (s / 256 % 256) :: (s % 256) :: 128 :: 0 :: 0 :: (pl ++ more) : List Int).length : Int) = 9 + (pl.length : Int) + (more.length : Int) := by simp only [List.length_append, List.length_cons]; omega
    have hsz : sizeB (0 :: 0 :: 1 :: id :: (s / 256 % 256) :: (s % 256) :: 128 :: 0 :: 0 :: (pl ++ more)) = s := by
      show s / 256 % 256 * 256 + s % 256 = s
      omega
    unfold takeV
    rw [hlen, if_neg (by omega), if_pos ⟨⟨rfl, rfl, rfl, hv.1, hv.2.1, rfl⟩, .inl ⟨rfl, rfl⟩, by rw [hsz]; show (3 : Int) + 0 ≤ s; omega⟩, hsz, if_neg (by omega)]
    unfold bodyV
    rw [hsz, if_neg (show ¬ rd (0 :: 0 :: 1 :: id :: (s / 256 % 256) :: (s % 256) :: 128 :: 0 :: 0 :: (pl ++ more)) 7 = 128 from (show ¬ (0 : Int) = 128 by decide)), if_neg (show ¬ rd (0 :: 0 :: 1 :: id :: (s / 256 % 256) :: (s % 256) :: 128 :: 0 :: 0 :: (pl ++ more)) 7 = 192 from (show ¬ (0 : Int) = 192 by decide))]
    rw [show (6 + s).toNat = pl.length + 9 by omega]
    show (id, (-1 : Int), (-1 : Int), (pl ++ more).take pl.length, 6 + s, (0 : Int)) = _
    rw [List.take_left]
  by_cases c2 : d < 0
  · have e2 : d = -1 := by omega
    subst e2
    have hS : stampsL p (-1) = stampL 2 p := by unfold stampsL; rw [if_neg c1, if_pos (by decide)]
    have hF : flagV p (-1) = 128 := by unfold flagV; rw [if_neg c1, if_pos (by decide)]
    have hs : sizeP p (-1) pl = 8 + (pl.length : Int) := by unfold sizeP; rw [hS, stampL_length]; omega
    have hb : headP id p (-1) pl ++ stampsL p (-1) ++ pl ++ more = 0 :: 0 :: 1 :: id :: (sizeP p (-1) pl / 256 % 256) :: (sizeP p (-1) pl % 256) :: 128 :: 128 :: 5 :: (16 * 2 + p / 1073741824 * 2 + 1) :: (p / 4194304 % 256) :: (p / 32768 % 128 * 2 + 1) :: (p / 128 % 256) :: (p % 128 * 2 + 1) :: (pl ++ more) := by
      unfold headP; rw [hS, hF, hid]; rfl
    have hl : ((headP id p (-1) pl ++ stampsL p (-1) ++ pl).length : Int) = 6 + sizeP p (-1) pl := by
      rw [hS, hs]; unfold headP; simp only [List.length_append, List.length_cons, List.length_nil, stampL_length]; omega
    rw [hb, hl]
    generalize hg : sizeP p (-1) pl = s at *
    have hlen : ((0 :: 0 :: 1 :: id :: (s / 256 % 256) :: (s % 256) :: 128 :: 128 :: 5 :: (16 * 2 + p / 1073741824 * 2 + 1) :: (p / 4194304 % 256) :: (p / 32768 % 128 * 2 + 1) :: (p / 128 % 256) :: (p % 128 * 2 + 1) :: (pl ++ more) : List Int).length : Int) = 14 + (pl.length : Int) + (more.length : Int) := by simp only [List.length_append, List.length_cons]; omega
    have hsz : sizeB (0 :: 0 :: 1 :: id :: (s / 256 % 256) :: (s % 256) :: 128 :: 128 :: 5 :: (16 * 2 + p / 1073741824 * 2 + 1) :: (p / 4194304 % 256) :: (p / 32768 % 128 * 2 + 1) :: (p / 128 % 256) :: (p % 128 * 2 + 1) :: (pl ++ more)) = s := by
      show s / 256 % 256 * 256 + s % 256 = s
      omega
    unfold takeV
    rw [hlen, if_neg (by omega), if_pos ⟨⟨rfl, rfl, rfl, hv.1, hv.2.1, rfl⟩, .inr (.inl ⟨rfl, rfl⟩), by rw [hsz]; show (3 : Int) + 5 ≤ s; omega⟩, hsz, if_neg (by omega)]
    unfold bodyV
    rw [hsz, if_pos (show rd (0 :: 0 :: 1 :: id :: (s / 256 % 256) :: (s % 256) :: 128 :: 128 :: 5 :: (16 * 2 + p / 1073741824 * 2 + 1) :: (p / 4194304 % 256) :: (p / 32768 % 128 * 2 + 1) :: (p / 128 % 256) :: (p % 128 * 2 + 1) :: (pl ++ more)) 7 = 128 from rfl)]
    rw [if_pos (show okV 2 (rd (0 :: 0 :: 1 :: id :: (s / 256 % 256) :: (s % 256) :: 128 :: 128 :: 5 :: (16 * 2 + p / 1073741824 * 2 + 1) :: (p / 4194304 % 256) :: (p / 32768 % 128 * 2 + 1) :: (p / 128 % 256) :: (p % 128 * 2 + 1) :: (pl ++ more)) 9) (rd (0 :: 0 :: 1 :: id :: (s / 256 % 256) :: (s % 256) :: 128 :: 128 :: 5 :: (16 * 2 + p / 1073741824 * 2 + 1) :: (p / 4194304 % 256) :: (p / 32768 % 128 * 2 + 1) :: (p / 128 % 256) :: (p % 128 * 2 + 1) :: (pl ++ more)) 11) (rd (0 :: 0 :: 1 :: id :: (s / 256 % 256) :: (s % 256) :: 128 :: 128 :: 5 :: (16 * 2 + p / 1073741824 * 2 + 1) :: (p / 4194304 % 256) :: (p / 32768 % 128 * 2 + 1) :: (p / 128 % 256) :: (p % 128 * 2 + 1) :: (pl ++ more)) 13) from ok_stamp 2 p (by omega) (by omega))]
    rw [show (6 + s).toNat = pl.length + 14 by omega]
    show (id, takenV (16 * 2 + p / 1073741824 * 2 + 1) (p / 4194304 % 256) (p / 32768 % 128 * 2 + 1) (p / 128 % 256) (p % 128 * 2 + 1), (-1 : Int), (pl ++ more).take pl.length, 6 + s, (0 : Int)) = _
    rw [List.take_left, taken_stamp 2 p (by omega)]
  · have hS : stampsL p d = stampL 3 p ++ stampL 1 d := by unfold stampsL; rw [if_neg c1, if_neg c2]
    have hF : flagV p d = 192 := by unfold flagV; rw [if_neg c1, if_neg c2]
    have hs : sizeP p d pl = 13 + (pl.length : Int) := by unfold sizeP; rw [hS, List.length_append, stampL_length, stampL_length]; omega
    have hb : headP id p d pl ++ stampsL p d ++ pl ++ more = 0 :: 0 :: 1 :: id :: (sizeP p d pl / 256 % 256) :: (sizeP p d pl % 256) :: 128 :: 192 :: 10 :: (16 * 3 + p / 1073741824 * 2 + 1) :: (p / 4194304 % 256) :: (p / 32768 % 128 * 2 + 1) :: (p / 128 % 256) :: (p % 128 * 2 + 1) :: (16 * 1 + d / 1073741824 * 2 + 1) :: (d / 4194304 % 256) :: (d / 32768 % 128 * 2 + 1) :: (d / 128 % 256) :: (d % 128 * 2 + 1) :: (pl ++ more) := by
      unfold headP; rw [hS, hF, hid]; rfl
    have hl : ((headP id p d pl ++ stampsL p d ++ pl).length : Int) = 6 + sizeP p d pl := by
      rw [hS, hs]; unfold headP; simp only [List.length_append, List.length_cons, List.length_nil, stampL_length]; omega
    rw [hb, hl]
    generalize hg : sizeP p d pl = s at *
    have hlen : ((0 :: 0 :: 1 :: id :: (s / 256 % 256) :: (s % 256) :: 128 :: 192 :: 10 :: (16 * 3 + p / 1073741824 * 2 + 1) :: (p / 4194304 % 256) :: (p / 32768 % 128 * 2 + 1) :: (p / 128 % 256) :: (p % 128 * 2 + 1) :: (16 * 1 + d / 1073741824 * 2 + 1) :: (d / 4194304 % 256) :: (d / 32768 % 128 * 2 + 1) :: (d / 128 % 256) :: (d % 128 * 2 + 1) :: (pl ++ more) : List Int).length : Int) = 19 + (pl.length : Int) + (more.length : Int) := by simp only [List.length_append, List.length_cons]; omega
    have hsz : sizeB (0 :: 0 :: 1 :: id :: (s / 256 % 256) :: (s % 256) :: 128 :: 192 :: 10 :: (16 * 3 + p / 1073741824 * 2 + 1) :: (p / 4194304 % 256) :: (p / 32768 % 128 * 2 + 1) :: (p / 128 % 256) :: (p % 128 * 2 + 1) :: (16 * 1 + d / 1073741824 * 2 + 1) :: (d / 4194304 % 256) :: (d / 32768 % 128 * 2 + 1) :: (d / 128 % 256) :: (d % 128 * 2 + 1) :: (pl ++ more)) = s := by
      show s / 256 % 256 * 256 + s % 256 = s
      omega
    unfold takeV
    rw [hlen, if_neg (by omega), if_pos ⟨⟨rfl, rfl, rfl, hv.1, hv.2.1, rfl⟩, .inr (.inr ⟨rfl, rfl⟩), by rw [hsz]; show (3 : Int) + 10 ≤ s; omega⟩, hsz, if_neg (by omega)]
    unfold bodyV
    rw [hsz, if_neg (show ¬ rd (0 :: 0 :: 1 :: id :: (s / 256 % 256) :: (s % 256) :: 128 :: 192 :: 10 :: (16 * 3 + p / 1073741824 * 2 + 1) :: (p / 4194304 % 256) :: (p / 32768 % 128 * 2 + 1) :: (p / 128 % 256) :: (p % 128 * 2 + 1) :: (16 * 1 + d / 1073741824 * 2 + 1) :: (d / 4194304 % 256) :: (d / 32768 % 128 * 2 + 1) :: (d / 128 % 256) :: (d % 128 * 2 + 1) :: (pl ++ more)) 7 = 128 from (show ¬ (192 : Int) = 128 by decide)), if_pos (show rd (0 :: 0 :: 1 :: id :: (s / 256 % 256) :: (s % 256) :: 128 :: 192 :: 10 :: (16 * 3 + p / 1073741824 * 2 + 1) :: (p / 4194304 % 256) :: (p / 32768 % 128 * 2 + 1) :: (p / 128 % 256) :: (p % 128 * 2 + 1) :: (16 * 1 + d / 1073741824 * 2 + 1) :: (d / 4194304 % 256) :: (d / 32768 % 128 * 2 + 1) :: (d / 128 % 256) :: (d % 128 * 2 + 1) :: (pl ++ more)) 7 = 192 from rfl)]
    rw [if_pos (show okV 3 (rd (0 :: 0 :: 1 :: id :: (s / 256 % 256) :: (s % 256) :: 128 :: 192 :: 10 :: (16 * 3 + p / 1073741824 * 2 + 1) :: (p / 4194304 % 256) :: (p / 32768 % 128 * 2 + 1) :: (p / 128 % 256) :: (p % 128 * 2 + 1) :: (16 * 1 + d / 1073741824 * 2 + 1) :: (d / 4194304 % 256) :: (d / 32768 % 128 * 2 + 1) :: (d / 128 % 256) :: (d % 128 * 2 + 1) :: (pl ++ more)) 9) (rd (0 :: 0 :: 1 :: id :: (s / 256 % 256) :: (s % 256) :: 128 :: 192 :: 10 :: (16 * 3 + p / 1073741824 * 2 + 1) :: (p / 4194304 % 256) :: (p / 32768 % 128 * 2 + 1) :: (p / 128 % 256) :: (p % 128 * 2 + 1) :: (16 * 1 + d / 1073741824 * 2 + 1) :: (d / 4194304 % 256) :: (d / 32768 % 128 * 2 + 1) :: (d / 128 % 256) :: (d % 128 * 2 + 1) :: (pl ++ more)) 11) (rd (0 :: 0 :: 1 :: id :: (s / 256 % 256) :: (s % 256) :: 128 :: 192 :: 10 :: (16 * 3 + p / 1073741824 * 2 + 1) :: (p / 4194304 % 256) :: (p / 32768 % 128 * 2 + 1) :: (p / 128 % 256) :: (p % 128 * 2 + 1) :: (16 * 1 + d / 1073741824 * 2 + 1) :: (d / 4194304 % 256) :: (d / 32768 % 128 * 2 + 1) :: (d / 128 % 256) :: (d % 128 * 2 + 1) :: (pl ++ more)) 13) ∧ okV 1 (rd (0 :: 0 :: 1 :: id :: (s / 256 % 256) :: (s % 256) :: 128 :: 192 :: 10 :: (16 * 3 + p / 1073741824 * 2 + 1) :: (p / 4194304 % 256) :: (p / 32768 % 128 * 2 + 1) :: (p / 128 % 256) :: (p % 128 * 2 + 1) :: (16 * 1 + d / 1073741824 * 2 + 1) :: (d / 4194304 % 256) :: (d / 32768 % 128 * 2 + 1) :: (d / 128 % 256) :: (d % 128 * 2 + 1) :: (pl ++ more)) 14) (rd (0 :: 0 :: 1 :: id :: (s / 256 % 256) :: (s % 256) :: 128 :: 192 :: 10 :: (16 * 3 + p / 1073741824 * 2 + 1) :: (p / 4194304 % 256) :: (p / 32768 % 128 * 2 + 1) :: (p / 128 % 256) :: (p % 128 * 2 + 1) :: (16 * 1 + d / 1073741824 * 2 + 1) :: (d / 4194304 % 256) :: (d / 32768 % 128 * 2 + 1) :: (d / 128 % 256) :: (d % 128 * 2 + 1) :: (pl ++ more)) 16) (rd (0 :: 0 :: 1 :: id :: (s / 256 % 256) :: (s % 256) :: 128 :: 192 :: 10 :: (16 * 3 + p / 1073741824 * 2 + 1) :: (p / 4194304 % 256) :: (p / 32768 % 128 * 2 + 1) :: (p / 128 % 256) :: (p % 128 * 2 + 1) :: (16 * 1 + d / 1073741824 * 2 + 1) :: (d / 4194304 % 256) :: (d / 32768 % 128 * 2 + 1) :: (d / 128 % 256) :: (d % 128 * 2 + 1) :: (pl ++ more)) 18) from ⟨ok_stamp 3 p (by omega) (by omega), ok_stamp 1 d (by omega) (by omega)⟩)]
    rw [show (6 + s).toNat = pl.length + 19 by omega]
    show (id, takenV (16 * 3 + p / 1073741824 * 2 + 1) (p / 4194304 % 256) (p / 32768 % 128 * 2 + 1) (p / 128 % 256) (p % 128 * 2 + 1), takenV (16 * 1 + d / 1073741824 * 2 + 1) (d / 4194304 % 256) (d / 32768 % 128 * 2 + 1) (d / 128 % 256) (d % 128 * 2 + 1), (pl ++ more).take pl.length, 6 + s, (0 : Int)) = _
    rw [List.take_left, taken_stamp 3 p (by omega), taken_stamp 1 d (by omega)]
theorem put_bytes (id p d : Int) (pl A : List Int) (hp : putV id p d pl = (A, 0)) (hl : ∀ x ∈ pl, 0 ≤ x ∧ x < 256) : (∀ x ∈ A, 0 ≤ x ∧ x < 256) ∧ A.length ≤ 19 + pl.length := by
  unfold putV at hp
  by_cases hv : validP id p d
  case neg => rw [if_neg hv] at hp; exact absurd (congrArg Prod.snd hp) (show ¬ (1 : Int) = 0 by decide)
  rw [if_pos hv] at hp
  by_cases hz : sizeP p d pl > 65535
  case pos => rw [if_pos hz] at hp; exact absurd (congrArg Prod.snd hp) (show ¬ (5 : Int) = 0 by decide)
  rw [if_neg hz] at hp
  have hA : headP id p d pl ++ stampsL p d ++ pl = A := congrArg Prod.fst hp
  subst hA
  unfold validP at hv
  have hs := stampsL_length p d
  constructor
  · intro x hx
    rw [List.mem_append, List.mem_append] at hx
    rcases hx with (hx | hx) | hx
    · have hF : flagV p d = 0 ∨ flagV p d = 128 ∨ flagV p d = 192 := by
        unfold flagV
        by_cases c1 : p < 0
        · rw [if_pos c1]; exact .inl rfl
        rw [if_neg c1]
        by_cases c2 : d < 0
        · rw [if_pos c2]; exact .inr (.inl rfl)
        · rw [if_neg c2]; exact .inr (.inr rfl)
      unfold headP at hx
      simp only [List.mem_cons, List.not_mem_nil, or_false] at hx
      rcases hx with rfl | rfl | rfl | rfl | rfl | rfl | rfl | rfl | rfl <;> omega
    · unfold stampsL at hx
      by_cases c1 : p < 0
      · rw [if_pos c1] at hx; simp at hx
      rw [if_neg c1] at hx
      by_cases c2 : d < 0
      · rw [if_pos c2] at hx; exact stampL_bd 2 p (by omega) (by omega) x hx
      · rw [if_neg c2, List.mem_append] at hx
        rcases hx with hx | hx
        · exact stampL_bd 3 p (by omega) (by omega) x hx
        · exact stampL_bd 1 d (by omega) (by omega) x hx
    · exact hl x hx
  · simp only [List.length_append, headP, List.length_cons, List.length_nil]; omega
theorem puts_j1_no (more A : List Int) (c id p d : Int) (pl : List Int) (hc : ¬ c = 0) : Ev (fun k => cutroomlaw16_PesPuts.j1 k more A c false id p d pl) true := by
  refine Ev.step (f := fun k => _) (fun k => by rw [cutroomlaw16_PesPuts.j1]) ?_
  simp only [Bool.false_eq_true, if_false, if_neg hc]
  exact Ev.bind awake_ev (Ev.now _)
theorem puts_j1 (id p d : Int) (pl more A : List Int) (hA : putV id p d pl = (A, 0)) (hl : pl.length ≤ 70000) (hm : more.length ≤ 1000) (hb : ∀ x ∈ pl, 0 ≤ x ∧ x < 256) (hmb : ∀ x ∈ more, 0 ≤ x ∧ x < 256) :
    Ev (fun k => cutroomlaw16_PesPuts.j1 k more A 0 false id p d pl) true := by
  obtain ⟨h1, h2⟩ := put_bytes id p d pl A hA hb
  refine Ev.step (f := fun k => _) (fun k => by rw [cutroomlaw16_PesPuts.j1]) ?_
  simp only [Bool.false_eq_true, if_false, if_true, Option.bind_some, List.nil_append, if_pos (show ([] : List Int).length + A.length < 140737488355328 by rw [List.length_nil]; omega), if_pos (show A.length + more.length < 140737488355328 by omega)]
  have ht := take_ev (A ++ more) (by rw [List.length_append]; omega) (by
    intro x hx
    rw [List.mem_append] at hx
    rcases hx with hx | hx
    · exact h1 x hx
    · exact hmb x hx)
  rw [back id p d pl more A hA] at ht
  refine Ev.bind ht (Ev.bind awake_ev ?_)
  simp only [if_true]
  have hsame : cutroomlaw16_same.f id p d pl id p d pl = some true := by
    unfold cutroomlaw16_same.f
    rw [if_pos rfl, if_pos rfl, if_pos rfl, samebytes_self]; rfl
  exact Ev.bind (ev_of hsame) (Ev.now _)
theorem PesPuts (id p d : Int) (pl more : List Int) (hb : ∀ x ∈ pl, (Lit.int .u8 x).wf = true) (hmb : ∀ x ∈ more, (Lit.int .u8 x).wf = true) : ∃ k, cutroomlaw16_PesPuts.f k id p d pl more = some true := by
  have byte : ∀ l : List Int, (∀ x ∈ l, (Lit.int .u8 x).wf = true) → ∀ x ∈ l, 0 ≤ x ∧ x < 256 := by
    intro l h x hx
    have := h x hx
    simp [Lit.wf, IntKind.min, IntKind.max, IntKind.signed, IntKind.bits] at this
    omega
  refine Ev.rounds ?_
  have j0t : Ev (fun k => cutroomlaw16_PesPuts.j0 k more true id p d pl) true := by
    refine Ev.step (f := fun k => _) (fun k => by rw [cutroomlaw16_PesPuts.j0]) ?_
    simp only [if_true]; exact Ev.now _
  unfold cutroomlaw16_PesPuts.f
  by_cases c1 : (pl.length : Int) > 70000
  · simp only [if_pos c1]; exact j0t
  simp only [if_neg c1]
  by_cases c2 : (more.length : Int) > 1000
  · simp only [decide_eq_true c2]; exact j0t
  simp only [decide_eq_false c2]
  refine Ev.step (f := fun k => _) (fun k => by rw [cutroomlaw16_PesPuts.j0]) ?_
  simp only [Bool.false_eq_true, if_false]
  have hg : cutroomlaw16_given.f id p d pl = some (id, p, d, pl) := rfl
  refine Ev.bind (ev_of hg) (Ev.bind (put_ev id p d pl (by omega)) (Ev.bind (rput_ev id p d pl (by omega)) ?_))
  simp only [if_true]
  refine Ev.bind (ev_of (samebytes_self _)) ?_
  simp only [Bool.not_true]
  by_cases hc : (putV id p d pl).2 = 0
  · have hA : putV id p d pl = ((putV id p d pl).1, 0) := by rw [← hc]
    rw [hc]
    exact puts_j1 id p d pl more _ hA (by omega) (by omega) (byte _ hb) (byte _ hmb)
  · exact puts_j1_no _ _ _ _ _ _ _ hc

end Go.Proofs.Ytdkibpdgnocgaaa.Pure
