/- Pure part of PesLong: what the printed Go functions compute answers true, for every input. No conditions. -/
import Derived.Test.YtdkibpdgnocgaaaPPesLongx6
import Derived.Lib.Bytes
import Derived.Lib.ItoaNum
set_option linter.unusedVariables false
set_option linter.unusedSimpArgs false
namespace Go.Proofs.Ytdkibpdgnocgaaa.Pure
open Go.RowKit Go.Proofs.Ytdkibpdgnocgaaa.PPesLong Go.Proofs.YtdkibpdgnocgaaaW.PrintWords Go.Proofs.YtdkibpdgnocgaaaW.PrintLast

/-- The bounds of an int64. -/
theorem b64 {n : Int} (h : (Lit.int .i64 n).wf = true) : -9223372036854775808 ≤ n ∧ n ≤ 9223372036854775807 := by
  simpa [Lit.wf, IntKind.min, IntKind.max, IntKind.signed, IntKind.bits] using h
theorem w64 (n : Int) (h1 : -9223372036854775808 ≤ n) (h2 : n ≤ 9223372036854775807) : wrap64 n = n := by unfold wrap64; omega
theorem tdv (a b : Int) (h : 0 ≤ a) : Int.tdiv a b = a / b := Int.tdiv_eq_ediv_of_nonneg h
theorem tmd (a b : Int) (h : 0 ≤ a) : Int.tmod a b = a % b := Int.tmod_eq_emod_of_nonneg h
theorem ev_of {α : Type} {o : Option α} {r : α} (h : o = some r) : Ev (fun _ => o) r := ⟨0, fun _ _ => h⟩
theorem tmod_bd (n m : Int) (h0 : 0 < m) : -m < Int.tmod n m ∧ Int.tmod n m < m ∧ (Int.tmod n m = n % m ∨ Int.tmod n m = n % m - m) := by
  have a1 : Int.tmod n m < m := Int.tmod_lt_of_pos n h0
  have a2 : -m < Int.tmod n m := by
    have := Int.tmod_lt_of_pos (-n) h0
    rw [Int.neg_tmod] at this; omega
  refine ⟨a2, a1, ?_⟩
  have h3 := Int.tmod_add_mul_tdiv n m
  have h4 : n % m = (Int.tmod n m) % m := by
    conv => lhs; rw [← h3]
    rw [Int.add_mul_emod_self_left]
  by_cases hz : 0 ≤ Int.tmod n m
  · left; rw [h4, Int.emod_eq_of_lt hz a1]
  · right
    rw [h4, ← Int.add_emod_right, Int.emod_eq_of_lt (by omega) (by omega)]; omega

theorem wrapu64 (n : Int) (h₀ : 0 ≤ n) (h₁ : n < 2 ^ 64) : IntKind.u64.wrap n = n := by rw [IntKind.wrap_u64]; omega

/-! ### Div64 ends -/
def U64 (x : Int) : Prop := 0 ≤ x ∧ x < 18446744073709551616
theorem wu_bd (n : Int) : U64 (IntKind.u64.wrap n) := by rw [IntKind.wrap_u64]; unfold U64; omega
theorem shr_bd (x y : Int) (hx : U64 x) : U64 (shr .u64 x y) := by
  unfold U64 at *
  unfold shr
  have hp : (0 : Int) < 2 ^ min y.toNat IntKind.u64.bits := Int.pow_pos (by decide)
  have h1 := Int.ediv_nonneg hx.1 (Int.le_of_lt hp)
  have h2 := Int.ediv_le_self (2 ^ min y.toNat IntKind.u64.bits) hx.1
  omega
/-- The result is a pair of words. -/
def Ends (g : Nat → Option (Int × Int)) : Prop := ∃ q r, U64 q ∧ U64 r ∧ Ev g (q, r)
theorem Ends.step {g f : Nat → Option (Int × Int)} (h : ∀ k, g (k + 1) = f k) (k : Ends f) : Ends g := by
  obtain ⟨q, r, hq, hr, he⟩ := k
  exact ⟨q, r, hq, hr, Ev.step h he⟩
theorem Ends.now (a b : Int) (c : Int) : Ends (fun _ => some (IntKind.u64.wrap a, shr .u64 (IntKind.u64.wrap b) c)) := ⟨_, _, wu_bd a, shr_bd _ _ (wu_bd b), Ev.now _⟩
theorem l1_ends (x2 x8 x9 x10 x14 x15 x17 : Int) (h8 : 0 ≤ x8) (h9 : 2147483648 ≤ x9 ∧ x9 < 4294967296) :
    ∀ (d : Nat) (x16 x18 : Int), U64 x16 → (d = 0 → 2147483648 ≤ x16 ∧ x16 < 4294967296) → (d = 1 → x16 < 4294967296) → d ≤ 2 → Ends (fun k => bits_Div64.l1 k x2 x8 x9 x10 x14 x15 x16 x17 x18) := by
  intro d
  induction d with
  | zero =>
    intro x16 x18 hu h0 _ _
    have h0 := h0 rfl
    have j4 : ∀ c : Bool, Ends (fun k => bits_Div64.j4 k x2 x8 x9 x10 x14 x15 x16 x17 x18 c) := by
      intro c
      refine Ends.step (f := fun k => _) (fun k => by rw [bits_Div64.j4]) ?_
      cases c
      · simp only [Bool.false_eq_true, if_false, if_pos h8]; exact Ends.now _ _ _
      · have hw : IntKind.u64.wrap (x16 + x9) ≥ 4294967296 := by rw [IntKind.wrap_u64]; omega
        simp only [if_true, if_pos hw, if_pos h8]; exact Ends.now _ _ _
    refine Ends.step (f := fun k => _) (fun k => by rw [bits_Div64.l1]) ?_
    by_cases c : x18 ≥ 4294967296
    · simp only [if_pos c]; exact j4 true
    · simp only [if_neg c]; exact j4 _
  | succ d ih =>
    intro x16 x18 hu _ h1 hd
    have j4 : ∀ c : Bool, Ends (fun k => bits_Div64.j4 k x2 x8 x9 x10 x14 x15 x16 x17 x18 c) := by
      intro c
      refine Ends.step (f := fun k => _) (fun k => by rw [bits_Div64.j4]) ?_
      cases c
      · simp only [Bool.false_eq_true, if_false, if_pos h8]; exact Ends.now _ _ _
      · by_cases hw : IntKind.u64.wrap (x16 + x9) ≥ 4294967296
        · simp only [if_true, if_pos hw, if_pos h8]; exact Ends.now _ _ _
        · simp only [if_true, if_neg hw]
          refine ih _ _ (wu_bd _) ?_ ?_ (by omega)
          · intro e
            have := h1 (by omega)
            unfold U64 at hu
            rw [IntKind.wrap_u64] at hw ⊢; omega
          · intro e; omega
    refine Ends.step (f := fun k => _) (fun k => by rw [bits_Div64.l1]) ?_
    by_cases c : x18 ≥ 4294967296
    · simp only [if_pos c]; exact j4 true
    · simp only [if_neg c]; exact j4 _
theorem j2_ends (x2 x8 x9 x10 x11 x13 x14 x15 : Int) (h8 : 0 ≤ x8) (h9 : 2147483648 ≤ x9 ∧ x9 < 4294967296) : Ends (fun k => bits_Div64.j2 k x2 x8 x9 x10 x11 x13 x14 x15) := by
  refine Ends.step (f := fun k => _) (fun k => by rw [bits_Div64.j2]) ?_
  simp only [if_neg (show ¬ x9 = 0 by omega)]
  exact l1_ends x2 x8 x9 x10 x14 x15 _ h8 h9 2 _ _ (wu_bd _) (by omega) (by omega) (by omega)
theorem l0_ends (x2 x8 x9 x10 x11 x13 x14 : Int) (h8 : 0 ≤ x8) (h9 : 2147483648 ≤ x9 ∧ x9 < 4294967296) :
    ∀ (d : Nat) (x15 x16 : Int), U64 x16 → (d = 0 → 2147483648 ≤ x16 ∧ x16 < 4294967296) → (d = 1 → x16 < 4294967296) → d ≤ 2 → Ends (fun k => bits_Div64.l0 k x2 x8 x9 x10 x11 x13 x14 x15 x16) := by
  intro d
  induction d with
  | zero =>
    intro x15 x16 hu h0 _ _
    have h0 := h0 rfl
    have j1 : ∀ c : Bool, Ends (fun k => bits_Div64.j1 k x2 x8 x9 x10 x11 x13 x14 x15 x16 c) := by
      intro c
      refine Ends.step (f := fun k => _) (fun k => by rw [bits_Div64.j1]) ?_
      cases c
      · simp only [Bool.false_eq_true, if_false]; exact j2_ends _ _ _ _ _ _ _ _ h8 h9
      · have hw : IntKind.u64.wrap (x16 + x9) ≥ 4294967296 := by rw [IntKind.wrap_u64]; omega
        simp only [if_true, if_pos hw]; exact j2_ends _ _ _ _ _ _ _ _ h8 h9
    refine Ends.step (f := fun k => _) (fun k => by rw [bits_Div64.l0]) ?_
    by_cases c : x15 ≥ 4294967296
    · simp only [if_pos c]; exact j1 true
    · simp only [if_neg c]; exact j1 _
  | succ d ih =>
    intro x15 x16 hu _ h1 hd
    have j1 : ∀ c : Bool, Ends (fun k => bits_Div64.j1 k x2 x8 x9 x10 x11 x13 x14 x15 x16 c) := by
      intro c
      refine Ends.step (f := fun k => _) (fun k => by rw [bits_Div64.j1]) ?_
      cases c
      · simp only [Bool.false_eq_true, if_false]; exact j2_ends _ _ _ _ _ _ _ _ h8 h9
      · by_cases hw : IntKind.u64.wrap (x16 + x9) ≥ 4294967296
        · simp only [if_true, if_pos hw]; exact j2_ends _ _ _ _ _ _ _ _ h8 h9
        · simp only [if_true, if_neg hw]
          refine ih _ _ (wu_bd _) ?_ ?_ (by omega)
          · intro e
            have := h1 (by omega)
            unfold U64 at hu
            rw [IntKind.wrap_u64] at hw ⊢; omega
          · intro e; omega
    refine Ends.step (f := fun k => _) (fun k => by rw [bits_Div64.l0]) ?_
    by_cases c : x15 ≥ 4294967296
    · simp only [if_pos c]; exact j1 true
    · simp only [if_neg c]; exact j1 _

theorem norm_len (y : Int) (h0 : 0 < y) (h1 : y < 18446744073709551616) : ∃ s : Nat, s ≤ 63 ∧ ((Go.Lib.bitLen y.toNat : Nat) : Int) = 64 - (s : Int) ∧ 9223372036854775808 ≤ y * 2 ^ s ∧ y * 2 ^ s < 18446744073709551616 := by
  obtain ⟨Y, rfl⟩ := Int.eq_ofNat_of_zero_le (Int.le_of_lt h0)
  have hb := Go.Lib.bitLenAux_bounds 64 Y (by omega) (by omega)
  have hle := Go.Lib.bitLen_le Y 64 (by decide) (by omega)
  rw [show Go.Lib.bitLenAux 64 Y = Go.Lib.bitLen Y from rfl] at hb
  obtain ⟨b1, b2, b3⟩ := hb
  simp only [Int.toNat_natCast]
  generalize Go.Lib.bitLen Y = b at *
  have hI : (2 : Int) ^ (64 - b) = ((2 ^ (64 - b) : Nat) : Int) := (Int.natCast_pow 2 _).symm
  refine ⟨64 - b, by omega, by omega, ?_, ?_⟩
  · have e : 2 ^ (b - 1) * 2 ^ (64 - b) = 9223372036854775808 := by rw [← Nat.pow_add, show b - 1 + (64 - b) = 63 by omega]
    have := Nat.mul_le_mul_right (2 ^ (64 - b)) b2
    rw [e] at this
    rw [hI, ← Int.natCast_mul]
    exact Int.ofNat_le.mpr this
  · have e : 2 ^ b * 2 ^ (64 - b) = 18446744073709551616 := by rw [← Nat.pow_add, show b + (64 - b) = 64 by omega]
    have hp : 0 < 2 ^ (64 - b) := Nat.two_pow_pos _
    have := Nat.mul_lt_mul_of_pos_right b3 hp
    rw [e] at this
    rw [hI, ← Int.natCast_mul]
    exact Int.ofNat_lt.mpr this
theorem div_ends (hi lo y : Int) (h0 : U64 hi) (hlo : U64 lo) (hy : U64 y) (hlt : hi < y) :
    ∃ q r, U64 q ∧ U64 r ∧ (hi = 0 → q = lo / y ∧ r = lo % y) ∧ Ev (fun k => bits_Div64.f k hi lo y) (q, r) := by
  unfold U64 at h0 hlo hy
  unfold bits_Div64.f
  have hy0 : ¬ y = 0 := by omega
  by_cases hz : hi = 0
  · refine ⟨lo / y, lo % y, ?_, ?_, fun _ => ⟨rfl, rfl⟩, ?_⟩
    · have h1 : 0 ≤ lo / y := Int.ediv_nonneg hlo.1 hy.1
      have h2 : lo / y ≤ lo := Int.ediv_le_self _ hlo.1
      unfold U64; omega
    · have h1 := Int.emod_nonneg lo hy0
      have h2 := Int.emod_lt_of_pos lo (show 0 < y by omega)
      unfold U64; omega
    · have h1 : 0 ≤ lo / y := Int.ediv_nonneg hlo.1 hy.1
      have h2 : lo / y ≤ lo := Int.ediv_le_self _ hlo.1
      simp only [if_neg hy0, if_neg (show ¬ y ≤ hi by omega), if_pos hz]
      rw [tdv _ _ hlo.1, tmd _ _ hlo.1, wrapu64 _ h1 (by omega)]
      exact Ev.now _
  · obtain ⟨s, hs, hbl, hl, hu⟩ := norm_len y (by omega) hy.2
    have hlz : bits_LeadingZeros64.f y = some (s : Int) := by
      unfold bits_LeadingZeros64.f bits_Len64.f
      rw [if_pos ⟨hy.1, by omega⟩, Option.bind_some, hbl, w64 _ (by omega) (by omega)]
      congr 1; omega
    have hY : shl .u64 y (s : Int) = y * 2 ^ s := by
      unfold shl
      rw [show min ((s : Int)).toNat IntKind.u64.bits = s by simp [IntKind.bits]; omega, wrapu64 _ (by omega) (by omega)]
    have key : Ends (fun k => (bits_LeadingZeros64.f y).bind fun t166 => (if 0 ≤ (IntKind.u64.wrap (t166)) then (if 0 ≤ (IntKind.u64.wrap (64 - (IntKind.u64.wrap (t166)))) then (if ((shl .u64 y (IntKind.u64.wrap (t166))) / 4294967296) = 0 then (none) else (bits_Div64.l0 k (shl .u64 y (IntKind.u64.wrap (t166))) (IntKind.u64.wrap (t166)) ((shl .u64 y (IntKind.u64.wrap (t166))) / 4294967296) (Go.bits .and .u64 (shl .u64 y (IntKind.u64.wrap (t166))) 4294967295) (Go.bits .or .u64 (shl .u64 hi (IntKind.u64.wrap (t166))) (shr .u64 lo (IntKind.u64.wrap (64 - (IntKind.u64.wrap (t166)))))) ((shl .u64 lo (IntKind.u64.wrap (t166))) / 4294967296) (Go.bits .and .u64 (shl .u64 lo (IntKind.u64.wrap (t166))) 4294967295) (IntKind.u64.wrap (Int.tdiv (Go.bits .or .u64 (shl .u64 hi (IntKind.u64.wrap (t166))) (shr .u64 lo (IntKind.u64.wrap (64 - (IntKind.u64.wrap (t166)))))) ((shl .u64 y (IntKind.u64.wrap (t166))) / 4294967296))) (IntKind.u64.wrap ((Go.bits .or .u64 (shl .u64 hi (IntKind.u64.wrap (t166))) (shr .u64 lo (IntKind.u64.wrap (64 - (IntKind.u64.wrap (t166)))))) - (IntKind.u64.wrap ((IntKind.u64.wrap (Int.tdiv (Go.bits .or .u64 (shl .u64 hi (IntKind.u64.wrap (t166))) (shr .u64 lo (IntKind.u64.wrap (64 - (IntKind.u64.wrap (t166)))))) ((shl .u64 y (IntKind.u64.wrap (t166))) / 4294967296))) * ((shl .u64 y (IntKind.u64.wrap (t166))) / 4294967296))))))) else (none)) else (none))) := by
      rw [hlz]
      simp only [Option.bind_some]
      rw [wrapu64 (s : Int) (by omega) (by omega), hY]
      simp only [if_pos (show 0 ≤ (s : Int) by omega), if_pos (wu_bd (64 - (s : Int))).1, if_neg (show ¬ (y * 2 ^ s) / 4294967296 = 0 by omega)]
      exact l0_ends _ _ _ _ _ _ _ (by omega) (by omega) 2 _ _ (wu_bd _) (by omega) (by omega) (by omega)
    obtain ⟨q, r, hq, hr, he⟩ := key
    refine ⟨q, r, hq, hr, fun h => absurd h hz, ?_⟩
    simp only [if_neg hy0, if_neg (show ¬ y ≤ hi by omega), if_neg hz]
    exact he

theorem wu (n : Int) : IntKind.u64.wrap n = n % 18446744073709551616 := by simp [IntKind.wrap, IntKind.bits, IntKind.signed]
theorem wu_id (n : Int) (h0 : 0 ≤ n) (h1 : n < 18446744073709551616) : IntKind.u64.wrap n = n := by rw [wu]; omega

theorem gcd_ev (b : Nat) : ∀ a : Nat, Ev (fun k => rational_gcd.f k a b) ((Nat.gcd a b : Nat) : Int) := by
  induction b using Nat.strongRecOn with
  | _ b ih =>
    intro a
    show Ev (fun k => rational_gcd.l0 k a b) _
    refine Ev.step (f := fun k => _) (fun k => by rw [rational_gcd.l0]) ?_
    by_cases hb : b = 0
    · subst hb
      simp only [Int.natCast_zero, if_true, Nat.gcd_zero_right]
      exact Ev.now _
    · have hb' : ¬ (b : Int) = 0 := by omega
      simp only [if_neg hb']
      have e : Int.tmod (a : Int) (b : Int) = ((a % b : Nat) : Int) := by
        rw [tmd _ _ (by omega)]; rfl
      rw [e]
      have h := ih (a % b) (Nat.mod_lt _ (by omega)) b
      have eg : Nat.gcd b (a % b) = Nat.gcd a b := by
        rw [Nat.gcd_comm b, ← Nat.gcd_rec, Nat.gcd_comm]
      rw [eg] at h
      exact h

theorem abs_eq (a : Int) (h0 : -9223372036854775808 ≤ a) (h1 : a ≤ 9223372036854775807) : rational_abs.f a = some (a.natAbs : Int) := by
  unfold rational_abs.f
  rw [wu, wu]
  by_cases h : a < 0
  · rw [if_pos h]; congr 1; omega
  · rw [if_neg h]; congr 1; omega


theorem mul64_eq (a b : Int) (a0 : 0 ≤ a) (a1 : a < 18446744073709551616) (b0 : 0 ≤ b) (b1 : b < 18446744073709551616) :
    bits_Mul64.f a b = some (a * b / 18446744073709551616, a * b % 18446744073709551616) := by
  unfold bits_Mul64.f
  rw [Go.and_low32 a a0 a1, Go.and_low32 b b0 b1]
  obtain ⟨p, q, hp0, hp1, hq0, hq1, rfl⟩ : ∃ p q : Int, 0 ≤ p ∧ p < 4294967296 ∧ 0 ≤ q ∧ q < 4294967296 ∧ a = 4294967296 * p + q := ⟨a / 4294967296, a % 4294967296, by omega, by omega, by omega, by omega, by omega⟩
  obtain ⟨r, s, hr0, hr1, hs0, hs1, rfl⟩ : ∃ r s : Int, 0 ≤ r ∧ r < 4294967296 ∧ 0 ≤ s ∧ s < 4294967296 ∧ b = 4294967296 * r + s := ⟨b / 4294967296, b % 4294967296, by omega, by omega, by omega, by omega, by omega⟩
  rw [show (4294967296 * p + q) / 4294967296 = p by omega, show (4294967296 * p + q) % 4294967296 = q by omega, show (4294967296 * r + s) / 4294967296 = r by omega, show (4294967296 * r + s) % 4294967296 = s by omega]
  have bd : ∀ x y : Int, 0 ≤ x → x < 4294967296 → 0 ≤ y → y < 4294967296 → 0 ≤ x * y ∧ x * y ≤ 18446744065119617025 := by
    intro x y x0 x1 y0 y1
    refine ⟨Int.mul_nonneg x0 y0, ?_⟩
    have h1 : x * y ≤ 4294967295 * y := Int.mul_le_mul_of_nonneg_right (by omega) y0
    have h2 : 4294967295 * y ≤ 4294967295 * 4294967295 := Int.mul_le_mul_of_nonneg_left (by omega) (by omega)
    omega
  have e : (4294967296 * p + q) * (4294967296 * r + s) = 18446744073709551616 * (p * r) + 4294967296 * (p * s) + 4294967296 * (q * r) + q * s := by
    rw [Int.add_mul, Int.mul_add, Int.mul_add, show 4294967296 * p * (4294967296 * r) = 18446744073709551616 * (p * r) by rw [Int.mul_assoc, Int.mul_left_comm p]; omega, show 4294967296 * p * s = 4294967296 * (p * s) by rw [Int.mul_assoc], show q * (4294967296 * r) = 4294967296 * (q * r) by rw [Int.mul_left_comm]]
    omega
  obtain ⟨x1, x2⟩ := bd p r hp0 hp1 hr0 hr1
  obtain ⟨y1, y2⟩ := bd p s hp0 hp1 hs0 hs1
  obtain ⟨z1, z2⟩ := bd q r hq0 hq1 hr0 hr1
  obtain ⟨t1, t2⟩ := bd q s hq0 hq1 hs0 hs1
  rw [e]
  generalize p * r = A at *
  generalize p * s = B at *
  generalize q * r = C at *
  generalize q * s = D at *
  clear e bd
  rw [wu_id A (by omega) (by omega), wu_id B (by omega) (by omega), wu_id C (by omega) (by omega), wu_id D (by omega) (by omega)]
  rw [wu_id (B + D / 4294967296) (by omega) (by omega)]
  rw [Go.and_low32 _ (by omega) (by omega)]
  rw [wu_id ((B + D / 4294967296) % 4294967296 + C) (by omega) (by omega)]
  rw [wu_id (A + (B + D / 4294967296) / 4294967296) (by omega) (by omega)]
  rw [wu_id (A + (B + D / 4294967296) / 4294967296 + _) (by omega) (by omega), wu]
  congr 2
  omega


theorem awake_ev : Ev (fun k => cutroomlaw16_awake.f k) true := by
  refine Ev.of cutroomlaw16_awake.mono (k := 60) ?_
  decide +kernel

/-- The time near another one that has a timestamp. -/
def unwrapV (a b : Int) : Int := if a < -4611686018427387904 ∨ a > 4611686018427387904 ∨ b < 0 ∨ b ≥ 8589934592 then 0 else a + 4294967296 - (a + 4294967296 - b) % 8589934592

theorem within_eq (n : Int) (hn : -9223372036854775808 ≤ n ∧ n ≤ 9223372036854775807) : pes_within.f n = some (n % 8589934592) := by
  unfold pes_within.f
  obtain ⟨h1, h2, h3⟩ := tmod_bd n 8589934592 (by omega)
  rw [w64 _ (by omega) (by omega), tmd _ _ (by omega)]
  congr 1
  rcases h3 with h3 | h3 <;> (rw [h3]; omega)

theorem unwrap_ev (a b : Int) : Ev (fun k => pes_Unwrap.f k a b) (unwrapV a b) := by
  have hj : ∀ c : Bool, (c = decide (a < -4611686018427387904 ∨ a > 4611686018427387904 ∨ b < 0 ∨ b ≥ 8589934592)) → Ev (fun k => pes_Unwrap.j0 k a b c) (unwrapV a b) := by
    intro c hc
    refine Ev.step (f := fun k => _) (fun k => by rw [pes_Unwrap.j0]) ?_
    by_cases h : a < -4611686018427387904 ∨ a > 4611686018427387904 ∨ b < 0 ∨ b ≥ 8589934592
    · rw [decide_eq_true h] at hc; subst hc
      simp only [if_true, unwrapV, if_pos h]; exact Ev.now _
    · rw [decide_eq_false h] at hc; subst hc
      simp only [Bool.false_eq_true, if_false, unwrapV, if_neg h]
      rw [w64 (b - a) (by omega) (by omega), within_eq _ (by omega)]
      simp only [Option.bind_some]
      by_cases hd : (b - a) % 8589934592 > 4294967296
      · simp only [if_pos hd]
        rw [w64 ((b - a) % 8589934592 - 8589934592) (by omega) (by omega), w64 _ (by omega) (by omega)]
        refine ev_of ?_
        congr 1; omega
      · simp only [if_neg hd]
        rw [w64 _ (by omega) (by omega)]
        refine ev_of ?_
        congr 1; omega
  unfold pes_Unwrap.f
  by_cases c1 : a < -4611686018427387904
  · simp only [if_pos c1]; exact hj true (decide_eq_true (.inl c1)).symm
  by_cases c2 : a > 4611686018427387904
  · simp only [if_neg c1, if_pos c2]; exact hj true (decide_eq_true (.inr (.inl c2))).symm
  by_cases c3 : b < 0
  · simp only [if_neg c1, if_neg c2, if_pos c3]; exact hj true (decide_eq_true (.inr (.inr (.inl c3)))).symm
  simp only [if_neg c1, if_neg c2, if_neg c3]
  refine hj _ ?_
  rw [decide_eq_decide]; omega

/-! ### The two ways to a position -/
theorem gcd_same : ∀ (k : Nat) (a b : Int), cutroomref01_gcd.l0 k a b = rational_gcd.l0 k a b
  | 0, a, b => by rw [cutroomref01_gcd.l0, rational_gcd.l0]
  | k + 1, a, b => by rw [cutroomref01_gcd.l0, rational_gcd.l0, gcd_same k]
theorem mag_eq (a : Int) (h0 : -9223372036854775808 ≤ a) (h1 : a ≤ 9223372036854775807) : cutroomref01_mag.f a = some (a.natAbs : Int) := by
  unfold cutroomref01_mag.f
  by_cases h : a < 0
  · rw [if_pos h, w64 (a + 1) (by omega) (by omega), w64 (-(a + 1)) (by omega) (by omega), wu, wu]; congr 1; omega
  · rw [if_neg h, wu]; congr 1; omega
/-- Both tell alike whether a number is valid. -/
theorem valid_both (n d : Int) (hn : -9223372036854775808 ≤ n ∧ n ≤ 9223372036854775807) (hd : -9223372036854775808 ≤ d ∧ d ≤ 9223372036854775807) :
    ∃ b : Bool, Ev (fun k => rational_Valid.f k n d) b ∧ Ev (fun k => cutroomref01_Valid.f k n d) b ∧ (b = true → 1 ≤ d) := by
  unfold rational_Valid.f cutroomref01_Valid.f
  by_cases c1 : d ≥ 1
  case neg => simp only [if_neg c1]; exact ⟨false, Ev.now _, Ev.now _, fun h => by cases h⟩
  simp only [if_pos c1]
  by_cases c2 : n ≥ -9223372036854775807
  case neg => simp only [if_neg c2]; exact ⟨false, Ev.now _, Ev.now _, fun h => by cases h⟩
  simp only [if_pos c2]
  have hg := gcd_ev d.natAbs n.natAbs
  rw [show ((d.natAbs : Nat) : Int) = d by omega] at hg
  have hg2 : Ev (fun k => cutroomref01_gcd.f k (n.natAbs : Int) d) ((Nat.gcd n.natAbs d.natAbs : Nat) : Int) := by
    refine Ev.congr (f := fun k => rational_gcd.f k (n.natAbs : Int) d) (fun k => ?_) hg
    exact gcd_same k _ _
  rw [wu_id d (by omega) (by omega)]
  exact ⟨_, Ev.bind (ev_of (abs_eq n hn.1 hn.2)) (Ev.bind hg (Ev.now _)), Ev.bind (ev_of (mag_eq n hn.1 hn.2)) (Ev.bind hg2 (Ev.now _)), fun _ => c1⟩
theorem valid_ev (n d : Int) (hn : -9223372036854775808 ≤ n ∧ n ≤ 9223372036854775807) (hd : -9223372036854775808 ≤ d ∧ d ≤ 9223372036854775807) :
    ∃ b : Bool, Ev (fun k => cutroomref01_Valid.f k n d) b ∧ (b = true → 1 ≤ d) := by
  obtain ⟨b, _, h2, h3⟩ := valid_both n d hn hd
  exact ⟨b, h2, h3⟩
/-- Both tell alike whether a scale is good. -/
theorem scale_both (n d : Int) (hn : -9223372036854775808 ≤ n ∧ n ≤ 9223372036854775807) (hd : -9223372036854775808 ≤ d ∧ d ≤ 9223372036854775807) :
    ∃ b : Bool, Ev (fun k => rational_scale.f k n d) b ∧ Ev (fun k => cutroomref01_scale.f k n d) b ∧ (b = true → 0 < n ∧ n ≤ 2147483648 ∧ 1 ≤ d ∧ d ≤ 2147483648) := by
  have hv := valid_both n d hn hd
  obtain ⟨b, h1, h2, h3⟩ := hv
  unfold rational_scale.f cutroomref01_scale.f
  cases b
  · exact ⟨false, Ev.bind h1 (Ev.now _), Ev.bind h2 (Ev.now _), fun h => by cases h⟩
  by_cases c1 : n > 0
  case neg =>
    refine ⟨false, Ev.bind h1 ?_, Ev.bind h2 ?_, fun h => by cases h⟩
    · simp only [if_true, if_neg c1]; exact Ev.now _
    · simp only [if_true, if_neg c1]; exact Ev.now _
  by_cases c2 : n ≤ 2147483648
  case neg =>
    refine ⟨false, Ev.bind h1 ?_, Ev.bind h2 ?_, fun h => by cases h⟩
    · simp only [if_true, if_pos c1, if_neg c2]; exact Ev.now _
    · simp only [if_true, if_pos c1, if_neg c2]; exact Ev.now _
  refine ⟨decide (d ≤ 2147483648), Ev.bind h1 ?_, Ev.bind h2 ?_, fun h => ⟨c1, c2, h3 rfl, of_decide_eq_true h⟩⟩
  · simp only [if_true, if_pos c1, if_pos c2]; exact Ev.now _
  · simp only [if_true, if_pos c1, if_pos c2]; exact Ev.now _

theorem times_gen (a b : Int) (ha : -9223372036854775808 ≤ a ∧ a ≤ 9223372036854775807) (hb : 0 ≤ b) (hb1 : b < 18446744073709551616) :
    rational_times.f a b = some (decide (a < 0), (a.natAbs : Int) * b / 18446744073709551616, (a.natAbs : Int) * b % 18446744073709551616) := by
  unfold rational_times.f
  simp only [abs_eq a ha.1 ha.2, Option.bind_some]
  rw [mul64_eq _ _ (by omega) (by omega) hb hb1]
  rfl
theorem rtimes_gen (a b : Int) (h0 : 0 ≤ a) (ha : a < 18446744073709551616) (hb : 0 ≤ b) (hb1 : b < 18446744073709551616) :
    cutroomref01_times.f a b = some (a * b / 18446744073709551616, a * b % 18446744073709551616) := by
  unfold cutroomref01_times.f
  rw [mul64_eq _ _ h0 ha hb hb1]
  rfl
/-- What both make of a quotient, told of its sign. -/
def outV (neg : Bool) (q r : Int) : Int × Int :=
  if neg then (if q > 9223372036854775808 ∨ (q = 9223372036854775808 ∧ r > 0) then (0, 2) else (-(q + (if r > 0 then 1 else 0)), 0))
  else (if q ≤ 9223372036854775807 then (q, 0) else (0, 2))
theorem floor_j0 (x1 q r : Int) (hq : U64 q) (hr : U64 r) (c : Bool) (hc : c = decide (q > 9223372036854775808 ∨ (q = 9223372036854775808 ∧ r > 0))) :
    ∃ s : Int × Int × Bool, Ev (fun k => rational_wide_floor.j0 k x1 q r c) s ∧ (if s.2.2 = true then (s.1, (0 : Int)) else ((0 : Int), (2 : Int))) = outV true q r := by
  unfold U64 at hq hr
  unfold outV
  cases c
  · have hn : ¬ (q > 9223372036854775808 ∨ (q = 9223372036854775808 ∧ r > 0)) := of_decide_eq_false hc.symm
    by_cases h : r > 0
    · refine ⟨_, Ev.step (f := fun k => _) (fun k => by rw [rational_wide_floor.j0]) (by simp only [Bool.false_eq_true, if_false, if_pos h]; exact Ev.now _), ?_⟩
      simp only [if_true, if_neg hn, if_pos h]
      rw [wu_id (q + 1) (by omega) (by omega)]
      by_cases e : q = 9223372036854775807
      · subst e; decide +kernel
      · rw [w64 (q + 1) (by omega) (by omega), w64 _ (by omega) (by omega)]
    · refine ⟨_, Ev.step (f := fun k => _) (fun k => by rw [rational_wide_floor.j0]) (by simp only [Bool.false_eq_true, if_false, if_neg h]; exact Ev.now _), ?_⟩
      simp only [if_true, if_neg hn, if_neg h]
      by_cases e : q = 9223372036854775808
      · subst e; decide +kernel
      · rw [w64 q (by omega) (by omega), w64 _ (by omega) (by omega), Int.add_zero]
  · have hn : q > 9223372036854775808 ∨ (q = 9223372036854775808 ∧ r > 0) := of_decide_eq_true hc.symm
    refine ⟨_, Ev.step (f := fun k => _) (fun k => by rw [rational_wide_floor.j0]) (by simp only [if_true]; exact Ev.now _), ?_⟩
    simp only [if_true, if_pos hn]; rfl
theorem floor_ev (neg : Bool) (h l y q r : Int) (hlt : h < y) (hq : U64 q) (hr : U64 r) (hd : Ev (fun k => bits_Div64.f k h l y) (q, r)) :
    ∃ s : Int × Int × Bool, Ev (fun k => rational_wide_floor.f k neg h l y) s ∧ (if s.2.2 = true then (s.1, (0 : Int)) else ((0 : Int), (2 : Int))) = outV neg q r := by
  unfold rational_wide_floor.f
  simp only [if_neg (show ¬ h ≥ y by omega)]
  cases neg
  · refine ⟨_, Ev.bind hd (by simp only [Bool.false_eq_true, if_false]; exact Ev.now _), ?_⟩
    unfold U64 at hq hr
    unfold outV
    simp only [Bool.false_eq_true, if_false]
    by_cases c : q ≤ 9223372036854775807
    · rw [decide_eq_true c, if_pos rfl, if_pos c, w64 q (by omega) (by omega)]
    · rw [decide_eq_false c, if_neg (by decide), if_neg c]
  · obtain ⟨s, h1, h2⟩ := floor_j0 y q r hq hr _ rfl
    refine ⟨s, Ev.bind hd ?_, h2⟩
    simp only [if_true]
    by_cases c1 : q > 9223372036854775808
    · simp only [if_pos c1]
      rw [decide_eq_true (show q > 9223372036854775808 ∨ (q = 9223372036854775808 ∧ r > 0) from .inl c1)] at h1
      exact h1
    · by_cases c2 : q = 9223372036854775808
      · simp only [if_neg c1, if_pos c2]
        rw [show decide (q > 9223372036854775808 ∨ (q = 9223372036854775808 ∧ r > 0)) = decide (r > 0) by rw [decide_eq_decide]; omega] at h1
        exact h1
      · simp only [if_neg c1, if_neg c2]
        rw [decide_eq_false (show ¬ (q > 9223372036854775808 ∨ (q = 9223372036854775808 ∧ r > 0)) by omega)] at h1
        exact h1
theorem rj5 (neg : Bool) (q : Int) (hq : 0 ≤ q ∧ q ≤ 9223372036854775809) : Ev (fun k => cutroomref01_Position.j5 k neg q) (if neg then (if q ≤ 9223372036854775808 then (-q, 0) else (0, 2)) else (if q ≤ 9223372036854775807 then (q, 0) else (0, 2))) := by
  refine Ev.step (f := fun k => _) (fun k => by rw [cutroomref01_Position.j5]) ?_
  unfold cutroomref01_signed.f
  cases neg
  · simp only [Bool.false_eq_true, if_false, Option.bind_some]
    by_cases c : q ≤ 9223372036854775807
    · simp only [decide_eq_true c, if_true, if_pos c, w64 q (by omega) (by omega)]; exact Ev.now _
    · simp only [decide_eq_false c, Bool.false_eq_true, if_false, if_neg c]; exact Ev.now _
  · simp only [if_true]
    by_cases e : q = 9223372036854775808
    · subst e; exact Ev.now _
    · simp only [if_neg e, Option.bind_some]
      by_cases c : q ≤ 9223372036854775807
      · rw [w64 q (by omega) (by omega), w64 (-q) (by omega) (by omega)]
        simp only [decide_eq_true c, if_true, if_pos (show q ≤ 9223372036854775808 by omega)]; exact Ev.now _
      · simp only [decide_eq_false c, Bool.false_eq_true, if_false, if_neg (show ¬ q ≤ 9223372036854775808 by omega)]; exact Ev.now _
theorem rj3 (neg : Bool) (q r : Int) (hq : U64 q) (hr : U64 r) : Ev (fun k => cutroomref01_Position.j3 k neg q r (decide (q > 9223372036854775808))) (outV neg q r) := by
  unfold U64 at hq hr
  refine Ev.step (f := fun k => _) (fun k => by rw [cutroomref01_Position.j3]) ?_
  unfold outV
  by_cases c : q > 9223372036854775808
  · simp only [decide_eq_true c, if_true]
    cases neg
    · simp only [Bool.false_eq_true, if_false, if_neg (show ¬ q ≤ 9223372036854775807 by omega)]; exact Ev.now _
    · simp only [if_true, if_pos (show q > 9223372036854775808 ∨ (q = 9223372036854775808 ∧ r > 0) from .inl c)]; exact Ev.now _
  · simp only [decide_eq_false c, Bool.false_eq_true, if_false]
    cases neg
    · simp only [Bool.false_eq_true, if_false]
      refine Ev.step (f := fun k => _) (fun k => by rw [cutroomref01_Position.j4]) ?_
      simp only [Bool.false_eq_true, if_false]
      have := rj5 false q (by omega)
      simpa using this
    · simp only [if_true]
      refine Ev.step (f := fun k => _) (fun k => by rw [cutroomref01_Position.j4]) ?_
      by_cases h : r > 0
      · simp only [decide_eq_true h, if_true, wu_id (q + 1) (by omega) (by omega)]
        have := rj5 true (q + 1) (by omega)
        simp only [if_true] at this
        by_cases e : q = 9223372036854775808
        · rw [if_neg (show ¬ q + 1 ≤ 9223372036854775808 by omega)] at this
          rw [if_pos (show q > 9223372036854775808 ∨ (q = 9223372036854775808 ∧ r > 0) from .inr ⟨e, h⟩)]; exact this
        · rw [if_pos (show q + 1 ≤ 9223372036854775808 by omega)] at this
          rw [if_neg (show ¬ (q > 9223372036854775808 ∨ (q = 9223372036854775808 ∧ r > 0)) by omega), if_pos h]; exact this
      · simp only [decide_eq_false h, Bool.false_eq_true, if_false]
        have := rj5 true q (by omega)
        simp only [if_true, if_pos (show q ≤ 9223372036854775808 by omega)] at this
        rw [if_neg (show ¬ (q > 9223372036854775808 ∨ (q = 9223372036854775808 ∧ r > 0)) by omega), if_neg h, Int.add_zero]; exact this

/-! ### Both positions -/
theorem rplus_words (neg : Bool) (M D : Int) (hM : 0 ≤ M ∧ M ≤ 85070591730234615865843651857942052864) (hD : 0 ≤ D ∧ D ≤ 4611686018427387904) :
    rational_plus.f neg (M / 18446744073709551616) (M % 18446744073709551616) false 0 D =
      some (if neg = false then (false, (M + D) / 18446744073709551616, (M + D) % 18446744073709551616)
        else if M < D then (false, 0, D - M) else (true, (M - D) / 18446744073709551616, (M - D) % 18446744073709551616)) := by
  obtain ⟨h, l, h0, h1, l0, l1, rfl⟩ : ∃ h l : Int, 0 ≤ h ∧ h ≤ 4611686018427387904 ∧ 0 ≤ l ∧ l < 18446744073709551616 ∧ M = 18446744073709551616 * h + l := ⟨M / 18446744073709551616, M % 18446744073709551616, by omega, by omega, by omega, by omega, by omega⟩
  rw [show (18446744073709551616 * h + l) / 18446744073709551616 = h by omega, show (18446744073709551616 * h + l) % 18446744073709551616 = l by omega]
  unfold rational_plus.f
  rw [if_pos ⟨h0, by omega, l0, l1, by omega, by omega, hD.1, by omega⟩]
  cases neg
  · rw [if_pos rfl, if_pos rfl]
    congr 3
    · omega
    · omega
  · rw [if_neg (show ¬ (true = false) by decide)]
    simp only [Bool.true_eq_false, if_false]
    by_cases c : 18446744073709551616 * h + l < D
    · obtain rfl : h = 0 := by omega
      rw [if_pos (show (0 : Int) < 0 ∨ ((0 : Int) = 0 ∧ l < D) from .inr ⟨rfl, by omega⟩), if_pos c, if_neg (show ¬ D < l by omega)]
      congr 3
      omega
    · rw [if_neg c, if_neg (show ¬ (h < 0 ∨ (h = 0 ∧ l < D)) by omega)]
      congr 3
      · by_cases e : l < D
        · rw [if_pos e]; omega
        · rw [if_neg e]; omega
      · omega
theorem fplus_words (M D : Int) (hM : 0 ≤ M ∧ M ≤ 85070591730234615865843651857942052864) (hD : 0 ≤ D ∧ D ≤ 4611686018427387904) :
    cutroomref01_plus.f (M / 18446744073709551616) (M % 18446744073709551616) 0 D = some ((M + D) / 18446744073709551616, (M + D) % 18446744073709551616) := by
  unfold cutroomref01_plus.f
  rw [if_pos ⟨by omega, by omega, by omega, by omega, by omega, by omega, hD.1, by omega⟩]
  congr 2
  · omega
  · omega
theorem fplus_twice (M : Int) (hM : 0 ≤ M ∧ M ≤ 42535295865117307932921825928971026432) :
    cutroomref01_plus.f (M / 18446744073709551616) (M % 18446744073709551616) (M / 18446744073709551616) (M % 18446744073709551616) = some ((2 * M) / 18446744073709551616, (2 * M) % 18446744073709551616) := by
  unfold cutroomref01_plus.f
  rw [if_pos ⟨by omega, by omega, by omega, by omega, by omega, by omega, by omega, by omega⟩]
  congr 2
  · omega
  · omega
theorem fminus_words (M D : Int) (hM : 0 ≤ M ∧ M ≤ 85070591730234615865843651857942052864) (hD : 0 ≤ D ∧ D ≤ 4611686018427387904) (hl : D ≤ M) :
    cutroomref01_minus.f (M / 18446744073709551616) (M % 18446744073709551616) 0 D = some ((M - D) / 18446744073709551616, (M - D) % 18446744073709551616) := by
  unfold cutroomref01_minus.f
  rw [if_pos ⟨by omega, by omega, by omega, by omega, by omega, by omega, hD.1, by omega⟩]
  congr 2
  · by_cases e : M % 18446744073709551616 < D
    · rw [if_pos e]; omega
    · rw [if_neg e]; omega
  · omega
theorem fless_words (M D : Int) (hM : 0 ≤ M) (hD : 0 ≤ D ∧ D ≤ 4611686018427387904) :
    cutroomref01_less.f 0 D (M / 18446744073709551616) (M % 18446744073709551616) = some (decide (D < M)) := by
  unfold cutroomref01_less.f
  by_cases c : (0 : Int) < M / 18446744073709551616
  · rw [if_pos c, decide_eq_true (show D < M by omega)]
  · rw [if_neg c, if_pos (show (0 : Int) = M / 18446744073709551616 by omega)]
    congr 1
    rw [decide_eq_decide]; omega
theorem outV_bd (neg : Bool) (q r : Int) (hq : U64 q) (hr : U64 r) : (-9223372036854775808 ≤ (outV neg q r).1 ∧ (outV neg q r).1 ≤ 9223372036854775807) ∧ ((outV neg q r).2 = 0 ∨ (outV neg q r).1 = 0) := by
  unfold U64 at hq hr
  unfold outV
  cases neg
  · simp only [Bool.false_eq_true, if_false]
    by_cases c : q ≤ 9223372036854775807
    · rw [if_pos c]; exact ⟨⟨by simp only; omega, by simp only; omega⟩, .inl rfl⟩
    · rw [if_neg c]; exact ⟨by decide, .inr rfl⟩
  · simp only [if_true]
    by_cases c : q > 9223372036854775808 ∨ (q = 9223372036854775808 ∧ r > 0)
    · rw [if_pos c]; exact ⟨by decide, .inr rfl⟩
    · rw [if_neg c]
      refine ⟨?_, .inl rfl⟩
      by_cases h : r > 0
      · rw [if_pos h]; exact ⟨by simp only; omega, by simp only; omega⟩
      · rw [if_neg h]; exact ⟨by simp only; omega, by simp only; omega⟩
theorem ev_one {α : Type} {g : Nat → Option α} {a b : α} (h1 : Ev g a) (h2 : Ev g b) : a = b := by
  obtain ⟨k1, h1⟩ := h1
  obtain ⟨k2, h2⟩ := h2
  exact Option.some.inj ((h1 (max k1 k2) (Nat.le_max_left _ _)).symm.trans (h2 (max k1 k2) (Nat.le_max_right _ _)))
theorem tail_both (neg : Bool) (D h l : Int) (hD : 1 ≤ D ∧ D ≤ 4611686018427387904) (hh : U64 h) (hl : U64 l) :
    ∃ v : Int × Int,
      Ev (fun k => (rational_wide_floor.f k neg h l (2 * D)).bind fun bt180 => (if bt180.2.2 = true then (some (bt180.1, 0)) else (some (0, 2)))) v ∧
      Ev (fun k => cutroomref01_Position.j2 k D neg h l) v ∧
      (-9223372036854775808 ≤ v.1 ∧ v.1 ≤ 9223372036854775807) ∧ (v.2 = 0 ∨ v.1 = 0) := by
  unfold U64 at hh hl
  have e2 : IntKind.u64.wrap (2 * D) = 2 * D := wu_id _ (by omega) (by omega)
  by_cases c : h ≥ 2 * D
  · refine ⟨(0, 2), ?_, ?_, by decide, .inr rfl⟩
    · unfold rational_wide_floor.f
      simp only [if_pos c, Option.bind_some, Bool.false_eq_true, if_false]; exact Ev.now _
    · refine Ev.step (f := fun k => _) (fun k => by rw [cutroomref01_Position.j2]) ?_
      unfold cutroomref01_over.f
      simp only [e2, if_pos c, Option.bind_some, Bool.false_eq_true, if_false]
      refine Ev.step (f := fun k => _) (fun k => by rw [cutroomref01_Position.j3]) ?_
      simp only [if_true]; exact Ev.now _
  · obtain ⟨q, r, hq, hr, _, he⟩ := div_ends h l (2 * D) hh hl ⟨by omega, by omega⟩ (by omega)
    obtain ⟨s, h1, h2⟩ := floor_ev neg h l (2 * D) q r (by omega) hq hr he
    obtain ⟨b1, b2⟩ := outV_bd neg q r hq hr
    refine ⟨outV neg q r, ?_, ?_, b1, b2⟩
    · refine Ev.bind h1 ?_
      rw [← h2]
      by_cases g : s.2.2 = true
      · simp only [if_pos g]; exact Ev.now _
      · simp only [if_neg g]; exact Ev.now _
    · refine Ev.step (f := fun k => _) (fun k => by rw [cutroomref01_Position.j2]) ?_
      unfold cutroomref01_over.f
      simp only [e2, if_neg c]
      refine Ev.bind (Ev.bind he (Ev.now (q, r, true))) ?_
      simp only [if_true]
      exact rj3 neg q r hq hr
/-- The program and the reference turn a number of units alike. -/
theorem pos_both (n a b c d : Int) (hn : -9223372036854775808 ≤ n ∧ n ≤ 9223372036854775807)
    (ha : -9223372036854775808 ≤ a ∧ a ≤ 9223372036854775807) (hb : -9223372036854775808 ≤ b ∧ b ≤ 9223372036854775807)
    (hc : -9223372036854775808 ≤ c ∧ c ≤ 9223372036854775807) (hd : -9223372036854775808 ≤ d ∧ d ≤ 9223372036854775807) :
    ∃ v : Int × Int, Ev (fun k => rational_Position.f k n a b c d) v ∧ Ev (fun k => cutroomref01_Position.f k n a b c d) v ∧
      (-9223372036854775808 ≤ v.1 ∧ v.1 ≤ 9223372036854775807) ∧ (v.2 = 0 ∨ v.1 = 0) ∧
      (v.2 = 0 → 0 ≤ n → 0 < d * a ∧ 0 < c * b ∧ ((n * (2 * (c * b)) + d * a < 18446744073709551616) → v.1 = (n * (2 * (c * b)) + d * a) / (2 * (d * a)))) := by
  obtain ⟨s, hs1, hs2, hs⟩ := scale_both a b ha hb
  obtain ⟨t, ht1, ht2, ht⟩ := scale_both c d hc hd
  unfold rational_Position.f cutroomref01_Position.f
  have bad : ∃ v : Int × Int, Ev (fun k => rational_Position.j0 k n true a b c d) v ∧ Ev (fun k => cutroomref01_Position.j0 k n true a b c d) v ∧
      (-9223372036854775808 ≤ v.1 ∧ v.1 ≤ 9223372036854775807) ∧ (v.2 = 0 ∨ v.1 = 0) ∧
      (v.2 = 0 → 0 ≤ n → 0 < d * a ∧ 0 < c * b ∧ ((n * (2 * (c * b)) + d * a < 18446744073709551616) → v.1 = (n * (2 * (c * b)) + d * a) / (2 * (d * a)))) := by
    refine ⟨(0, 1), ?_, ?_, by decide, .inr rfl, fun h => absurd h (by decide)⟩
    · refine Ev.step (f := fun k => _) (fun k => by rw [rational_Position.j0]) ?_
      simp only [if_true]; exact Ev.now _
    · refine Ev.step (f := fun k => _) (fun k => by rw [cutroomref01_Position.j0]) ?_
      simp only [if_true]; exact Ev.now _
  cases s
  · obtain ⟨v, h1, h2, h3⟩ := bad
    exact ⟨v, Ev.bind hs1 (by simpa using h1), Ev.bind hs2 (by simpa using h2), h3⟩
  cases t
  · obtain ⟨v, h1, h2, h3⟩ := bad
    exact ⟨v, Ev.bind hs1 (by simp only [if_true]; exact Ev.bind ht1 (by simpa using h1)), Ev.bind hs2 (by simp only [if_true]; exact Ev.bind ht2 (by simpa using h2)), h3⟩
  obtain ⟨a0, a1, b0, b1⟩ := hs rfl
  obtain ⟨c0, c1, d0, d1⟩ := ht rfl
  clear bad hs ht
  have bd : ∀ x y : Int, 0 < x → x ≤ 2147483648 → 1 ≤ y → y ≤ 2147483648 → 1 ≤ x * y ∧ x * y ≤ 4611686018427387904 := by
    intro x y x0 x1 y0 y1
    have h1 : x * y ≤ 2147483648 * y := Int.mul_le_mul_of_nonneg_right (by omega) (by omega)
    have h2 : 2147483648 * y ≤ 2147483648 * 2147483648 := Int.mul_le_mul_of_nonneg_left (by omega) (by omega)
    have h3 : 1 * y ≤ x * y := Int.mul_le_mul_of_nonneg_right (by omega) (by omega)
    omega
  obtain ⟨P0, P1⟩ := bd c b c0 c1 b0 b1
  obtain ⟨D0, D1⟩ := bd a d a0 a1 d0 d1
  rw [Int.mul_comm a d] at D0 D1
  suffices H : ∃ v : Int × Int, Ev (fun k => rational_Position.j0 k n false a b c d) v ∧ Ev (fun k => cutroomref01_Position.j0 k n false a b c d) v ∧
      (-9223372036854775808 ≤ v.1 ∧ v.1 ≤ 9223372036854775807) ∧ (v.2 = 0 ∨ v.1 = 0) ∧
      (v.2 = 0 → 0 ≤ n → 0 < d * a ∧ 0 < c * b ∧ ((n * (2 * (c * b)) + d * a < 18446744073709551616) → v.1 = (n * (2 * (c * b)) + d * a) / (2 * (d * a)))) by
    obtain ⟨v, h1, h2, h3⟩ := H
    exact ⟨v, Ev.bind hs1 (by simp only [if_true]; exact Ev.bind ht1 (by simpa using h1)), Ev.bind hs2 (by simp only [if_true]; exact Ev.bind ht2 (by simpa using h2)), h3⟩
  clear hs1 hs2 ht1 ht2
  have eP : IntKind.u64.wrap (IntKind.u64.wrap c * IntKind.u64.wrap b) = c * b := by
    rw [wu_id c (by omega) (by omega), wu_id b (by omega) (by omega), wu_id _ (by omega) (by omega)]
  have eD : IntKind.u64.wrap (IntKind.u64.wrap d * IntKind.u64.wrap a) = d * a := by
    rw [wu_id d (by omega) (by omega), wu_id a (by omega) (by omega), wu_id _ (by omega) (by omega)]
  have eP2 : IntKind.u64.wrap (2 * (c * b)) = 2 * (c * b) := wu_id _ (by omega) (by omega)
  have eD2 : IntKind.u64.wrap (2 * (d * a)) = 2 * (d * a) := wu_id _ (by omega) (by omega)
  -- the first round of each
  suffices H : ∃ v : Int × Int,
      Ev (fun k => (rational_times.f n (2 * (c * b))).bind fun bt174 => ((rational_plus.f bt174.1 bt174.2.1 bt174.2.2 false 0 (d * a)).bind fun bt177 => ((rational_wide_floor.f k bt177.1 bt177.2.1 bt177.2.2 (2 * (d * a))).bind fun bt180 => (if bt180.2.2 = true then (some (bt180.1, 0)) else (some (0, 2)))))) v ∧
      Ev (fun k => (cutroomref01_mag.f n).bind fun t204 => ((cutroomref01_times.f t204 (c * b)).bind fun bt205 => ((cutroomref01_plus.f bt205.1 bt205.2 bt205.1 bt205.2).bind fun bt208 => (if n < 0 then ((cutroomref01_less.f 0 (d * a) bt208.1 bt208.2).bind fun t210 => (cutroomref01_Position.j1 k n (d * a) (!t210) bt208.1 bt208.2)) else (cutroomref01_Position.j1 k n (d * a) false bt208.1 bt208.2))))) v ∧
      (-9223372036854775808 ≤ v.1 ∧ v.1 ≤ 9223372036854775807) ∧ (v.2 = 0 ∨ v.1 = 0) ∧
      (v.2 = 0 → 0 ≤ n → 0 < d * a ∧ 0 < c * b ∧ ((n * (2 * (c * b)) + d * a < 18446744073709551616) → v.1 = (n * (2 * (c * b)) + d * a) / (2 * (d * a)))) by
    obtain ⟨v, h1, h2, h3⟩ := H
    refine ⟨v, ?_, ?_, h3⟩
    · refine Ev.step (f := fun k => _) (fun k => by rw [rational_Position.j0]) ?_
      simp only [Bool.false_eq_true, if_false, eP, eD, eP2, eD2]; exact h1
    · refine Ev.step (f := fun k => _) (fun k => by rw [cutroomref01_Position.j0]) ?_
      simp only [Bool.false_eq_true, if_false, eP, eD]; exact h2
  clear eP eD eP2
  generalize c * b = P at *
  generalize d * a = D at *
  clear bd a0 a1 b0 b1 c0 c1 d0 d1 ha hb hc hd
  have hN : 0 ≤ (n.natAbs : Int) ∧ (n.natAbs : Int) ≤ 9223372036854775808 := by omega
  have hMb : 0 ≤ (n.natAbs : Int) * (2 * P) ∧ (n.natAbs : Int) * (2 * P) ≤ 85070591730234615865843651857942052864 := by
    refine ⟨Int.mul_nonneg hN.1 (by omega), ?_⟩
    have h1 : (n.natAbs : Int) * (2 * P) ≤ 9223372036854775808 * (2 * P) := Int.mul_le_mul_of_nonneg_right hN.2 (by omega)
    omega
  have e2 : 2 * ((n.natAbs : Int) * P) = (n.natAbs : Int) * (2 * P) := by rw [Int.mul_left_comm]
  have hMp : 0 ≤ (n.natAbs : Int) * P ∧ (n.natAbs : Int) * P ≤ 42535295865117307932921825928971026432 := by omega
  have hnM : 0 ≤ n → n * (2 * P) = (n.natAbs : Int) * (2 * P) := fun h => by rw [show (n.natAbs : Int) = n by omega]
  rw [times_gen n (2 * P) hn (by omega) (by omega), mag_eq n hn.1 hn.2]
  simp only [Option.bind_some]
  rw [rtimes_gen _ P hN.1 (by omega) (by omega) (by omega)]
  simp only [Option.bind_some]
  rw [fplus_twice _ hMp]
  simp only [Option.bind_some]
  rw [e2, rplus_words _ _ D hMb ⟨by omega, D1⟩]
  simp only [Option.bind_some]
  rw [fless_words _ D hMb.1 ⟨by omega, D1⟩]
  simp only [Option.bind_some]
  by_cases hneg : n < 0
  · simp only [if_pos hneg, decide_eq_true hneg, Bool.true_eq_false, if_false]
    generalize hM : (n.natAbs : Int) * (2 * P) = M at *
    clear hM hnM hMp e2
    by_cases hle : M ≤ D
    · refine ⟨(0, 0), ?_, ?_, by decide, .inl rfl, fun _ h => by omega⟩
      · by_cases hlt : M < D
        · simp only [if_pos hlt]
          obtain ⟨q, r, hq, hr, hz, he⟩ := div_ends 0 (D - M) (2 * D) ⟨by omega, by omega⟩ ⟨by omega, by omega⟩ ⟨by omega, by omega⟩ (by omega)
          obtain ⟨rfl, rfl⟩ := hz rfl
          obtain ⟨s, h1, h2⟩ := floor_ev false 0 (D - M) (2 * D) _ _ (by omega) hq hr he
          refine Ev.bind h1 ?_
          have e0 : (D - M) / (2 * D) = 0 := Int.ediv_eq_zero_of_lt (by omega) (by omega)
          rw [show (0, 0) = (if s.2.2 = true then (s.1, (0 : Int)) else ((0 : Int), (2 : Int))) by rw [h2, e0]; rfl]
          by_cases g : s.2.2 = true
          · simp only [if_pos g]; exact Ev.now _
          · simp only [if_neg g]; exact Ev.now _
        · simp only [if_neg hlt]
          obtain rfl : M = D := by omega
          rw [Int.sub_self]
          obtain ⟨q, r, hq, hr, hz, he⟩ := div_ends 0 0 (2 * M) ⟨by omega, by omega⟩ ⟨by omega, by omega⟩ ⟨by omega, by omega⟩ (by omega)
          obtain ⟨rfl, rfl⟩ := hz rfl
          obtain ⟨s, h1, h2⟩ := floor_ev true 0 0 (2 * M) _ _ (by omega) hq hr he
          refine Ev.bind h1 ?_
          rw [show (0, 0) = (if s.2.2 = true then (s.1, (0 : Int)) else ((0 : Int), (2 : Int))) by rw [h2, Int.zero_ediv, Int.zero_emod]; rfl]
          by_cases g : s.2.2 = true
          · simp only [if_pos g]; exact Ev.now _
          · simp only [if_neg g]; exact Ev.now _
      · rw [decide_eq_false (show ¬ D < M by omega)]
        refine Ev.step (f := fun k => _) (fun k => by rw [cutroomref01_Position.j1]) ?_
        simp only [Bool.not_false, if_true]; exact Ev.now _
    · simp only [if_neg (show ¬ M < D by omega), decide_eq_true (show D < M by omega), Bool.not_true]
      suffices H : ∃ v : Int × Int,
          Ev (fun k => (rational_wide_floor.f k true ((M - D) / 18446744073709551616) ((M - D) % 18446744073709551616) (2 * D)).bind fun bt180 => (if bt180.2.2 = true then (some (bt180.1, 0)) else (some (0, 2)))) v ∧
          Ev (fun k => cutroomref01_Position.j2 k D true ((M - D) / 18446744073709551616) ((M - D) % 18446744073709551616)) v ∧
          (-9223372036854775808 ≤ v.1 ∧ v.1 ≤ 9223372036854775807) ∧ (v.2 = 0 ∨ v.1 = 0) by
        obtain ⟨v, h1, h2, h3, h4⟩ := H
        refine ⟨v, h1, ?_, h3, h4, fun _ h => by omega⟩
        refine Ev.step (f := fun k => _) (fun k => by rw [cutroomref01_Position.j1]) ?_
        simp only [Bool.false_eq_true, if_false, if_pos hneg]
        rw [fminus_words M D hMb ⟨by omega, D1⟩ (by omega)]
        exact h2
      exact tail_both true D ((M - D) / 18446744073709551616) ((M - D) % 18446744073709551616) ⟨by omega, D1⟩ ⟨by omega, by omega⟩ ⟨by omega, by omega⟩
  · simp only [if_neg hneg, decide_eq_false hneg, if_true]
    rw [hnM (by omega)]
    generalize hM : (n.natAbs : Int) * (2 * P) = M at *
    clear hM hnM hMp e2
    obtain ⟨v, h1, h2, h3, h4⟩ := tail_both false D ((M + D) / 18446744073709551616) ((M + D) % 18446744073709551616) ⟨by omega, D1⟩ ⟨by omega, by omega⟩ ⟨by omega, by omega⟩
    refine ⟨v, h1, ?_, h3, h4, fun hv _ => ⟨by omega, by omega, fun hs => ?_⟩⟩
    · refine Ev.step (f := fun k => _) (fun k => by rw [cutroomref01_Position.j1]) ?_
      simp only [Bool.false_eq_true, if_false, if_neg hneg]
      rw [fplus_words M D hMb ⟨by omega, D1⟩]
      exact h2
    · -- the plain path
      obtain ⟨q, r, hq, hr, hz, he⟩ := div_ends ((M + D) / 18446744073709551616) ((M + D) % 18446744073709551616) (2 * D) ⟨by omega, by omega⟩ ⟨by omega, by omega⟩ ⟨by omega, by omega⟩ (by omega)
      obtain ⟨rfl, rfl⟩ := hz (by omega)
      obtain ⟨s, g1, g2⟩ := floor_ev false _ _ (2 * D) _ _ (by omega) hq hr he
      have g3 : Ev (fun k => (rational_wide_floor.f k false ((M + D) / 18446744073709551616) ((M + D) % 18446744073709551616) (2 * D)).bind fun bt180 => (if bt180.2.2 = true then (some (bt180.1, (0 : Int))) else (some ((0 : Int), (2 : Int))))) (if s.2.2 = true then (s.1, (0 : Int)) else ((0 : Int), (2 : Int))) := by
        refine Ev.bind g1 ?_
        by_cases g : s.2.2 = true
        · simp only [if_pos g]; exact Ev.now _
        · simp only [if_neg g]; exact Ev.now _
      have g4 := ev_one h1 g3
      rw [g2, show (M + D) % 18446744073709551616 = M + D by omega] at g4
      unfold outV at g4
      simp only [Bool.false_eq_true, if_false] at g4
      by_cases g : (M + D) / (2 * D) ≤ 9223372036854775807
      · rw [if_pos g] at g4; rw [g4]
      · rw [if_neg g] at g4; rw [g4] at hv; exact absurd hv (by decide)

theorem PesLong (n s a b : Int) (hn : (Lit.int .i64 n).wf = true) (hs : (Lit.int .i64 s).wf = true) (ha : (Lit.int .i64 a).wf = true) (hb : (Lit.int .i64 b).wf = true) : ∃ k, cutroomlaw16_PesLong.f k n s a b = some true := by
  refine Ev.rounds ?_
  have hn := b64 hn
  have hs := b64 hs
  have ha := b64 ha
  have hb := b64 hb
  have aw : Ev (fun k => (cutroomlaw16_awake.f k).bind fun t223 => (some t223)) true := Ev.bind awake_ev (Ev.now _)
  have j0 : Ev (fun k => cutroomlaw16_PesLong.j0 k n s true a b) true := by
    refine Ev.step (f := fun k => _) (fun k => by rw [cutroomlaw16_PesLong.j0]) ?_
    simp only [if_true]; exact aw
  have j1 : ∀ p q, Ev (fun k => cutroomlaw16_PesLong.j1 k n s p q true a b) true := by
    intro p q
    refine Ev.step (f := fun k => _) (fun k => by rw [cutroomlaw16_PesLong.j1]) ?_
    simp only [if_true]; exact aw
  unfold cutroomlaw16_PesLong.f
  by_cases c1 : n < 0
  · simp only [if_pos c1]; exact j0
  by_cases c2 : n > 1073741824
  · simp only [if_neg c1, if_pos c2]; exact j0
  by_cases c3 : s < 1
  · simp only [if_neg c1, if_neg c2, if_pos c3]; exact j0
  by_cases c4 : s > 1048576
  · simp only [if_neg c1, if_neg c2, if_neg c3, if_pos c4]; exact j0
  simp only [if_neg c1, if_neg c2, if_neg c3, if_neg c4]
  obtain ⟨v, hv, _⟩ := valid_ev a b ha hb
  refine Ev.bind hv ?_
  cases v
  · simp only [Bool.false_eq_true, if_false]; exact j0
  simp only [if_true]
  by_cases c5 : a < 1
  · simp only [if_pos c5]; exact j0
  by_cases c6 : a > 1048576
  · simp only [if_neg c5, if_pos c6]; exact j0
  simp only [if_neg c5, if_neg c6]
  by_cases c7 : b > 65536
  · rw [decide_eq_true c7]; exact j0
  rw [decide_eq_false c7]
  refine Ev.step (f := fun k => _) (fun k => by rw [cutroomlaw16_PesLong.j0]) ?_
  simp only [Bool.false_eq_true, if_false]
  rw [w64 (n + s) (by omega) (by omega)]
  obtain ⟨⟨p, e⟩, p1, p2, p3, p4, p5⟩ := pos_both n a b 90000 1 hn ha hb (by omega) (by omega)
  obtain ⟨⟨q, f⟩, q1, q2, q3, q4, q5⟩ := pos_both (n + s) a b 90000 1 (by omega) ha hb (by omega) (by omega)
  refine Ev.bind p2 (Ev.bind q2 ?_)
  simp only at p3 p4 p5 q3 q4 q5 ⊢
  by_cases d1 : e = 0
  case neg => simp only [if_neg d1]; exact j1 _ _
  by_cases d2 : f = 0
  case neg => simp only [if_pos d1, if_neg d2]; exact j1 _ _
  simp only [if_pos d1, if_pos d2]
  obtain ⟨x1, x2, x3⟩ := p5 d1 (by omega)
  obtain ⟨y1, y2, y3⟩ := q5 d2 (by omega)
  have hM : n * (2 * (90000 * b)) ≤ 1073741824 * (2 * (90000 * b)) := Int.mul_le_mul_of_nonneg_right (by omega) (by omega)
  have hM0 : 0 ≤ n * (2 * (90000 * b)) := Int.mul_nonneg (by omega) (by omega)
  have hS : s * (2 * (90000 * b)) ≤ 1048576 * (2 * (90000 * b)) := Int.mul_le_mul_of_nonneg_right (by omega) (by omega)
  have hS0 : 0 ≤ s * (2 * (90000 * b)) := Int.mul_nonneg (by omega) (by omega)
  rw [Int.add_mul] at y3
  replace x3 := x3 (by omega)
  replace y3 := y3 (by omega)
  have hle : p ≤ q := by
    rw [x3, y3]
    exact Int.ediv_le_ediv (by omega) (by omega)
  have hp0 : 0 ≤ p := by
    rw [x3]
    exact Int.ediv_nonneg (by omega) (by omega)
  clear x3 y3 hM hM0 hS hS0 p5 q5
  rw [w64 (q - p) (by omega) (by omega)]
  by_cases g1 : q - p ≥ 4294967296
  · simp only [if_pos g1]; exact j1 _ _
  simp only [if_neg g1]
  by_cases g2 : q > 2305843009213693952
  · rw [decide_eq_true g2]; exact j1 _ _
  rw [decide_eq_false g2]
  refine Ev.step (f := fun k => _) (fun k => by rw [cutroomlaw16_PesLong.j1]) ?_
  simp only [Bool.false_eq_true, if_false]
  rw [w64 (n + s) (by omega) (by omega)]
  have ht : Ev (fun k => pes_Ticks.f k (n + s) a b) (q % 8589934592, 0) := by
    unfold pes_Ticks.f
    refine Ev.bind q1 ?_
    simp only [if_pos d2]
    rw [within_eq q q3]
    exact Ev.now _
  have hu : unwrapV p (q % 8589934592) = q := by
    unfold unwrapV
    rw [if_neg (by omega)]; omega
  have hw := unwrap_ev p (q % 8589934592)
  rw [hu] at hw
  refine Ev.bind ht ?_
  simp only [if_true]
  refine Ev.bind awake_ev ?_
  simp only [if_true]
  refine Ev.bind hw ?_
  rw [beq_self_eq_true]
  exact Ev.now _

end Go.Proofs.Ytdkibpdgnocgaaa.Pure
