-- Written for this claim by a turned copy of the kit's print (wip/printx/mk.py). By an AI agent.
import Derived.Test.YtbladhplpceomaaGreatProg
import Derived.Below
import Derived.Deep.Draws
import Derived.Deep.AppendLies
import Derived.Maps.AppendAt
import Derived.OwnWalk
import Derived.Laws.BytesArg
import Derived.Laws.MakeOwn
import Derived.Laws.OwnMore
import Derived.Deep.OwnRows
import Derived.Tactics
import Derived.Lib.ConvBytes
import Derived.Laws.Slices
import Derived.WalkKit
import Derived.KernelRfl
import Derived.RowKit3
import Derived.Deep.LoopGhost
import Derived.Deep.QuietTactic
import Derived.BigQuiet
import Derived.WideLaws
import Derived.Deep.DeepCutAuto
import Derived.Deep.CutBlock
import Derived.Deep.RegionHeld3
import Derived.Laws.Rows
import Derived.Lib.AppendStr
import Derived.ArgAppend
import Derived.Laws.IdiomCopy
import Derived.OrdersHeld
import Derived.Laws.BitsLemmas
import Derived.RowKit
import Derived.Laws.Runes
import Derived.WalkSpells
import Derived.Laws.Externs
import Derived.Shelf.Spec.BitsCarry
import Derived.Lib.Strings
import Derived.Lib.Slices
import Derived.Lib.Small
import Derived.Lib.Walk
import Derived.Lib.BitFns
import Derived.Deep.Light
import Derived.Test.YtbladhplpceomaaGreatWWords
import Derived.Test.YtbladhplpceomaaGreatWLast
import Derived.Test.YtbladhplpceomaaGreatWTab
import Derived.Test.YtbladhplpceomaaGreatWFour
import Derived.Test.YtbladhplpceomaaGreatWQPut
import Derived.Test.YtbladhplpceomaaGreatWApart
import Derived.Test.YtbladhplpceomaaGreatWArr
import Derived.Test.YtbladhplpceomaaGreatWZeros
import Derived.Test.YtbladhplpceomaaGreatWFoot
import Derived.Test.YtbladhplpceomaaGreatWKept
import Derived.Test.YtbladhplpceomaaGreatWShare
import Derived.Test.YtbladhplpceomaaGreatWN
import Derived.Test.YtbladhplpceomaaGreatWFootNe
import Derived.Test.YtbladhplpceomaaGreatWAt
import Derived.Test.YtbladhplpceomaaGreatWEqStruct
import Derived.Test.YtbladhplpceomaaGreatWRepsOne
import Derived.Test.YtbladhplpceomaaGreatWInv
import Derived.Test.YtbladhplpceomaaGreatWInvWords
import Derived.Test.YtbladhplpceomaaGreatWGuard
import Derived.Test.YtbladhplpceomaaGreatWNEv
import Derived.Test.YtbladhplpceomaaGreatWMore
import Derived.Test.YtbladhplpceomaaGreatMWords
namespace Go.Proofs.YtbladhplpceomaaGreat.PJournalSums
open Go.RowKit Go.Proofs.YtbladhplpceomaaGreatW.PrintWords Go.Proofs.YtbladhplpceomaaGreatW.PrintLast Go.Proofs.YtbladhplpceomaaGreatW.PrintMore
attribute [local go_sem] max2_int min2_int max_two min_two max_three min_three max_four min_four   -- for this text's walks alone
set_option linter.unusedVariables false
set_option linter.unusedSimpArgs false



def errW : Option Int → Value
  | none => .nilIface
  | some c => .iface 0 (.int .i64 c)
theorem errW_none : errW none = .nilIface := rfl
theorem errW_some (c : Int) : errW (some c) = .iface 0 (.int .i64 c) := rfl

theorem info5 : (Tryz.prog.info? 5).map (fun i => (i.zero, i.size, i.bytes)) = some (some (.int .u8 0), 1, 1) := by kernel_rfl
-- the values' own types
def rd_L1 (xs : List (List Int)) (i : Int) : (List Int) := xs.getD i.toNat ([] : List Int)
theorem at_L1 {w : World} {A : Option Addr} {n : Nat} {xs : List (List Int)} (h : Kd.C (Kd.slice 5 (Kd.int .u8)) w A n xs) (i : Int) (h0 : 0 ≤ i) (h1 : i < n) : ∃ ad A0 c0, A = some ad ∧ w.cell? (ad.add i.toNat) = some (.slice A0 (rd_L1 xs i).length c0) ∧ (rd_L1 xs i).length ≤ c0 ∧ (Kd.int .u8).C w A0 (rd_L1 xs i).length (rd_L1 xs i) := by
  obtain ⟨ad, c, e, _, hK, hc0⟩ := Kd.C_get h ([] : List Int) i h0 h1
  have hc : ∀ j u, c[j]? = some u → w.cell? (ad.add (i.toNat * 1 + j)) = some u := hc0
  obtain ⟨A0, c0, rfl, l0, g0⟩ := hK
  exact ⟨ad, A0, c0, e, by have hq := hc 0 _ rfl; rwa [Nat.mul_one, Nat.add_zero] at hq, l0, g0⟩

/-! #### struct type 95 -/
structure S95 where
  f0 : Int
  f1 : Int
def z95 : S95 := ⟨(0 : Int), (0 : Int)⟩
def k95 : Kd S95 := Kd.iso (Kd.pair (Kd.int .i64) (Kd.int .i64)) (fun x : S95 => (x.f0, x.f1))
theorem k95_open {w : World} {x : S95} {cs : List Value} (h : k95.K w x cs) : cs = [.int .i64 x.f0, .int .i64 x.f1] := by
  obtain ⟨_, _, rfl, rfl, rfl⟩ := h
  exact rfl
theorem k95_openM {w : World} {base : Nat} {ok : Nat → Prop} {x : S95} {cs : List Value} (h : k95.M w base ok x cs) : cs = [.int .i64 x.f0, .int .i64 x.f1] := by
  obtain ⟨_, _, rfl, rfl, rfl⟩ := h
  exact rfl
theorem k95_mk (w : World) (x : S95)  : k95.K w x [.int .i64 x.f0, .int .i64 x.f1] := ⟨[.int .i64 x.f0], [.int .i64 x.f1], rfl, rfl, rfl⟩
theorem k95_mkM (w : World) (base : Nat) (ok : Nat → Prop) (x : S95)  : k95.M w base ok x [.int .i64 x.f0, .int .i64 x.f1] := ⟨[.int .i64 x.f0], [.int .i64 x.f1], rfl, rfl, rfl⟩
def rd_T95 (xs : List S95) (i : Int) : S95 := xs.getD i.toNat z95
theorem at_T95 {w : World} {A : Option Addr} {n : Nat} {xs : List S95} (h : Kd.C k95 w A n xs) (i : Int) (h0 : 0 ≤ i) (h1 : i < n) : ∃ ad , A = some ad ∧ w.cell? (ad.add (i.toNat * 2)) = some (.int .i64 (rd_T95 xs i).f0) ∧ w.cell? ⟨(ad.add (i.toNat * 2)).block, (ad.add (i.toNat * 2)).off + 1, none⟩ = some (.int .i64 (rd_T95 xs i).f1) := by
  obtain ⟨ad, c, e, _, hK, hc0⟩ := Kd.C_get h z95 i h0 h1
  have hc : ∀ j u, c[j]? = some u → w.cell? (ad.add (i.toNat * 2 + j)) = some u := hc0
  obtain rfl := k95_open hK
  exact ⟨ad, e, hc 0 _ rfl, by rw [← add_field _ _ 1 (by omega)]; exact hc 1 _ rfl⟩

/-! #### struct type 97 -/
structure S97 where
  f0 : Int
  f1 : ByteArray
  f2 : S95
  f3 : S95
  f4 : Bool
def z97 : S97 := ⟨(0 : Int), (⟨#[]⟩ : ByteArray), z95, z95, false⟩
def k97 : Kd S97 := Kd.iso (Kd.pair (Kd.int .i64) (Kd.pair Kd.string (Kd.pair k95 (Kd.pair k95 Kd.bool)))) (fun x : S97 => (x.f0, x.f1, x.f2, x.f3, x.f4))
theorem k97_open {w : World} {x : S97} {cs : List Value} (h : k97.K w x cs) : cs = [.int .i64 x.f0, .string x.f1, .int .i64 x.f2.f0, .int .i64 x.f2.f1, .int .i64 x.f3.f0, .int .i64 x.f3.f1, .bool x.f4] := by
  obtain ⟨_, _, rfl, rfl, ⟨_, _, rfl, rfl, ⟨_, _, rfl, s2, ⟨_, _, rfl, s4, rfl⟩⟩⟩⟩ := h
  obtain rfl := k95_open s2
  obtain rfl := k95_open s4
  exact rfl
theorem k97_openM {w : World} {base : Nat} {ok : Nat → Prop} {x : S97} {cs : List Value} (h : k97.M w base ok x cs) : cs = [.int .i64 x.f0, .string x.f1, .int .i64 x.f2.f0, .int .i64 x.f2.f1, .int .i64 x.f3.f0, .int .i64 x.f3.f1, .bool x.f4] := by
  obtain ⟨_, _, rfl, rfl, ⟨_, _, rfl, rfl, ⟨_, _, rfl, s2, ⟨_, _, rfl, s4, rfl⟩⟩⟩⟩ := h
  obtain rfl := k95_openM s2
  obtain rfl := k95_openM s4
  exact rfl
theorem k97_mk (w : World) (x : S97)  : k97.K w x [.int .i64 x.f0, .string x.f1, .int .i64 x.f2.f0, .int .i64 x.f2.f1, .int .i64 x.f3.f0, .int .i64 x.f3.f1, .bool x.f4] := ⟨[.int .i64 x.f0], [.string x.f1, .int .i64 x.f2.f0, .int .i64 x.f2.f1, .int .i64 x.f3.f0, .int .i64 x.f3.f1, .bool x.f4], rfl, rfl, ⟨[.string x.f1], [.int .i64 x.f2.f0, .int .i64 x.f2.f1, .int .i64 x.f3.f0, .int .i64 x.f3.f1, .bool x.f4], rfl, rfl, ⟨[.int .i64 x.f2.f0, .int .i64 x.f2.f1], [.int .i64 x.f3.f0, .int .i64 x.f3.f1, .bool x.f4], rfl, (k95_mk w x.f2 ), ⟨[.int .i64 x.f3.f0, .int .i64 x.f3.f1], [.bool x.f4], rfl, (k95_mk w x.f3 ), rfl⟩⟩⟩⟩
theorem k97_mkM (w : World) (base : Nat) (ok : Nat → Prop) (x : S97)  : k97.M w base ok x [.int .i64 x.f0, .string x.f1, .int .i64 x.f2.f0, .int .i64 x.f2.f1, .int .i64 x.f3.f0, .int .i64 x.f3.f1, .bool x.f4] := ⟨[.int .i64 x.f0], [.string x.f1, .int .i64 x.f2.f0, .int .i64 x.f2.f1, .int .i64 x.f3.f0, .int .i64 x.f3.f1, .bool x.f4], rfl, rfl, ⟨[.string x.f1], [.int .i64 x.f2.f0, .int .i64 x.f2.f1, .int .i64 x.f3.f0, .int .i64 x.f3.f1, .bool x.f4], rfl, rfl, ⟨[.int .i64 x.f2.f0, .int .i64 x.f2.f1], [.int .i64 x.f3.f0, .int .i64 x.f3.f1, .bool x.f4], rfl, (k95_mkM w base ok x.f2 ), ⟨[.int .i64 x.f3.f0, .int .i64 x.f3.f1], [.bool x.f4], rfl, (k95_mkM w base ok x.f3 ), rfl⟩⟩⟩⟩
def rd_T97 (xs : List S97) (i : Int) : S97 := xs.getD i.toNat z97
theorem at_T97 {w : World} {A : Option Addr} {n : Nat} {xs : List S97} (h : Kd.C k97 w A n xs) (i : Int) (h0 : 0 ≤ i) (h1 : i < n) : ∃ ad , A = some ad ∧ w.cell? (ad.add (i.toNat * 7)) = some (.int .i64 (rd_T97 xs i).f0) ∧ w.cell? ⟨(ad.add (i.toNat * 7)).block, (ad.add (i.toNat * 7)).off + 1, none⟩ = some (.string (rd_T97 xs i).f1) ∧ w.cell? ⟨(ad.add (i.toNat * 7)).block, (ad.add (i.toNat * 7)).off + 2, none⟩ = some (.int .i64 (rd_T97 xs i).f2.f0) ∧ w.cell? ⟨(ad.add (i.toNat * 7)).block, (ad.add (i.toNat * 7)).off + 3, none⟩ = some (.int .i64 (rd_T97 xs i).f2.f1) ∧ w.cell? ⟨(ad.add (i.toNat * 7)).block, (ad.add (i.toNat * 7)).off + 4, none⟩ = some (.int .i64 (rd_T97 xs i).f3.f0) ∧ w.cell? ⟨(ad.add (i.toNat * 7)).block, (ad.add (i.toNat * 7)).off + 5, none⟩ = some (.int .i64 (rd_T97 xs i).f3.f1) ∧ w.cell? ⟨(ad.add (i.toNat * 7)).block, (ad.add (i.toNat * 7)).off + 6, none⟩ = some (.bool (rd_T97 xs i).f4) := by
  obtain ⟨ad, c, e, _, hK, hc0⟩ := Kd.C_get h z97 i h0 h1
  have hc : ∀ j u, c[j]? = some u → w.cell? (ad.add (i.toNat * 7 + j)) = some u := hc0
  obtain rfl := k97_open hK
  exact ⟨ad, e, hc 0 _ rfl, by rw [← add_field _ _ 1 (by omega)]; exact hc 1 _ rfl, by rw [← add_field _ _ 2 (by omega)]; exact hc 2 _ rfl, by rw [← add_field _ _ 3 (by omega)]; exact hc 3 _ rfl, by rw [← add_field _ _ 4 (by omega)]; exact hc 4 _ rfl, by rw [← add_field _ _ 5 (by omega)]; exact hc 5 _ rfl, by rw [← add_field _ _ 6 (by omega)]; exact hc 6 _ rfl⟩

def rd_L7 (xs : List (List Int)) (i : Int) : (List Int) := xs.getD i.toNat ([] : List Int)
theorem at_L7 {w : World} {A : Option Addr} {n : Nat} {xs : List (List Int)} (h : Kd.C (Kd.slice 3 (Kd.int .i64)) w A n xs) (i : Int) (h0 : 0 ≤ i) (h1 : i < n) : ∃ ad A0 c0, A = some ad ∧ w.cell? (ad.add i.toNat) = some (.slice A0 (rd_L7 xs i).length c0) ∧ (rd_L7 xs i).length ≤ c0 ∧ (Kd.int .i64).C w A0 (rd_L7 xs i).length (rd_L7 xs i) := by
  obtain ⟨ad, c, e, _, hK, hc0⟩ := Kd.C_get h ([] : List Int) i h0 h1
  have hc : ∀ j u, c[j]? = some u → w.cell? (ad.add (i.toNat * 1 + j)) = some u := hc0
  obtain ⟨A0, c0, rfl, l0, g0⟩ := hK
  exact ⟨ad, A0, c0, e, by have hq := hc 0 _ rfl; rwa [Nat.mul_one, Nat.add_zero] at hq, l0, g0⟩

/-! #### struct type 99 -/
structure S99 where
  f0 : Int
  f1 : Int
  f2 : S97
  f3 : S97
  f4 : Int
  f5 : Int
  f6 : Int
  f7 : ByteArray
  f8 : Int
  f9 : (List Int)
def z99 : S99 := ⟨(0 : Int), (0 : Int), z97, z97, (0 : Int), (0 : Int), (0 : Int), (⟨#[]⟩ : ByteArray), (0 : Int), ([] : List Int)⟩
def k99 : Kd S99 := Kd.iso (Kd.pair (Kd.int .i64) (Kd.pair (Kd.int .i64) (Kd.pair k97 (Kd.pair k97 (Kd.pair (Kd.int .i64) (Kd.pair (Kd.int .i64) (Kd.pair (Kd.int .i64) (Kd.pair Kd.string (Kd.pair (Kd.int .i64) (Kd.slice 3 (Kd.int .i64))))))))))) (fun x : S99 => (x.f0, x.f1, x.f2, x.f3, x.f4, x.f5, x.f6, x.f7, x.f8, x.f9))
theorem k99_open {w : World} {x : S99} {cs : List Value} (h : k99.K w x cs) : ∃ A21 c21, cs = [.int .i64 x.f0, .int .i64 x.f1, .int .i64 x.f2.f0, .string x.f2.f1, .int .i64 x.f2.f2.f0, .int .i64 x.f2.f2.f1, .int .i64 x.f2.f3.f0, .int .i64 x.f2.f3.f1, .bool x.f2.f4, .int .i64 x.f3.f0, .string x.f3.f1, .int .i64 x.f3.f2.f0, .int .i64 x.f3.f2.f1, .int .i64 x.f3.f3.f0, .int .i64 x.f3.f3.f1, .bool x.f3.f4, .int .i64 x.f4, .int .i64 x.f5, .int .i64 x.f6, .string x.f7, .int .i64 x.f8, .slice A21 x.f9.length c21] ∧ x.f9.length ≤ c21 ∧ (Kd.int .i64).C w A21 x.f9.length x.f9 := by
  obtain ⟨_, _, rfl, rfl, ⟨_, _, rfl, rfl, ⟨_, _, rfl, s2, ⟨_, _, rfl, s9, ⟨_, _, rfl, rfl, ⟨_, _, rfl, rfl, ⟨_, _, rfl, rfl, ⟨_, _, rfl, rfl, ⟨_, _, rfl, rfl, ⟨A21, c21, rfl, l21, g21⟩⟩⟩⟩⟩⟩⟩⟩⟩⟩ := h
  obtain rfl := k97_open s2
  obtain rfl := k97_open s9
  exact ⟨A21, c21, rfl, l21, g21⟩
theorem k99_openM {w : World} {base : Nat} {ok : Nat → Prop} {x : S99} {cs : List Value} (h : k99.M w base ok x cs) : ∃ v21, cs = [.int .i64 x.f0, .int .i64 x.f1, .int .i64 x.f2.f0, .string x.f2.f1, .int .i64 x.f2.f2.f0, .int .i64 x.f2.f2.f1, .int .i64 x.f2.f3.f0, .int .i64 x.f2.f3.f1, .bool x.f2.f4, .int .i64 x.f3.f0, .string x.f3.f1, .int .i64 x.f3.f2.f0, .int .i64 x.f3.f2.f1, .int .i64 x.f3.f3.f0, .int .i64 x.f3.f3.f1, .bool x.f3.f4, .int .i64 x.f4, .int .i64 x.f5, .int .i64 x.f6, .string x.f7, .int .i64 x.f8, v21] ∧ (Kd.int .i64).R 3 w base ok v21 x.f9 := by
  obtain ⟨_, _, rfl, rfl, ⟨_, _, rfl, rfl, ⟨_, _, rfl, s2, ⟨_, _, rfl, s9, ⟨_, _, rfl, rfl, ⟨_, _, rfl, rfl, ⟨_, _, rfl, rfl, ⟨_, _, rfl, rfl, ⟨_, _, rfl, rfl, ⟨v21, rfl, g21⟩⟩⟩⟩⟩⟩⟩⟩⟩⟩ := h
  obtain rfl := k97_openM s2
  obtain rfl := k97_openM s9
  exact ⟨v21, rfl, g21⟩
theorem k99_mk (w : World) (x : S99) {A21 : Option Addr} {c21 : Nat} (l21 : x.f9.length ≤ c21) (g21 : (Kd.int .i64).C w A21 x.f9.length x.f9) : k99.K w x [.int .i64 x.f0, .int .i64 x.f1, .int .i64 x.f2.f0, .string x.f2.f1, .int .i64 x.f2.f2.f0, .int .i64 x.f2.f2.f1, .int .i64 x.f2.f3.f0, .int .i64 x.f2.f3.f1, .bool x.f2.f4, .int .i64 x.f3.f0, .string x.f3.f1, .int .i64 x.f3.f2.f0, .int .i64 x.f3.f2.f1, .int .i64 x.f3.f3.f0, .int .i64 x.f3.f3.f1, .bool x.f3.f4, .int .i64 x.f4, .int .i64 x.f5, .int .i64 x.f6, .string x.f7, .int .i64 x.f8, .slice A21 x.f9.length c21] := ⟨[.int .i64 x.f0], [.int .i64 x.f1, .int .i64 x.f2.f0, .string x.f2.f1, .int .i64 x.f2.f2.f0, .int .i64 x.f2.f2.f1, .int .i64 x.f2.f3.f0, .int .i64 x.f2.f3.f1, .bool x.f2.f4, .int .i64 x.f3.f0, .string x.f3.f1, .int .i64 x.f3.f2.f0, .int .i64 x.f3.f2.f1, .int .i64 x.f3.f3.f0, .int .i64 x.f3.f3.f1, .bool x.f3.f4, .int .i64 x.f4, .int .i64 x.f5, .int .i64 x.f6, .string x.f7, .int .i64 x.f8, .slice A21 x.f9.length c21], rfl, rfl, ⟨[.int .i64 x.f1], [.int .i64 x.f2.f0, .string x.f2.f1, .int .i64 x.f2.f2.f0, .int .i64 x.f2.f2.f1, .int .i64 x.f2.f3.f0, .int .i64 x.f2.f3.f1, .bool x.f2.f4, .int .i64 x.f3.f0, .string x.f3.f1, .int .i64 x.f3.f2.f0, .int .i64 x.f3.f2.f1, .int .i64 x.f3.f3.f0, .int .i64 x.f3.f3.f1, .bool x.f3.f4, .int .i64 x.f4, .int .i64 x.f5, .int .i64 x.f6, .string x.f7, .int .i64 x.f8, .slice A21 x.f9.length c21], rfl, rfl, ⟨[.int .i64 x.f2.f0, .string x.f2.f1, .int .i64 x.f2.f2.f0, .int .i64 x.f2.f2.f1, .int .i64 x.f2.f3.f0, .int .i64 x.f2.f3.f1, .bool x.f2.f4], [.int .i64 x.f3.f0, .string x.f3.f1, .int .i64 x.f3.f2.f0, .int .i64 x.f3.f2.f1, .int .i64 x.f3.f3.f0, .int .i64 x.f3.f3.f1, .bool x.f3.f4, .int .i64 x.f4, .int .i64 x.f5, .int .i64 x.f6, .string x.f7, .int .i64 x.f8, .slice A21 x.f9.length c21], rfl, (k97_mk w x.f2 ), ⟨[.int .i64 x.f3.f0, .string x.f3.f1, .int .i64 x.f3.f2.f0, .int .i64 x.f3.f2.f1, .int .i64 x.f3.f3.f0, .int .i64 x.f3.f3.f1, .bool x.f3.f4], [.int .i64 x.f4, .int .i64 x.f5, .int .i64 x.f6, .string x.f7, .int .i64 x.f8, .slice A21 x.f9.length c21], rfl, (k97_mk w x.f3 ), ⟨[.int .i64 x.f4], [.int .i64 x.f5, .int .i64 x.f6, .string x.f7, .int .i64 x.f8, .slice A21 x.f9.length c21], rfl, rfl, ⟨[.int .i64 x.f5], [.int .i64 x.f6, .string x.f7, .int .i64 x.f8, .slice A21 x.f9.length c21], rfl, rfl, ⟨[.int .i64 x.f6], [.string x.f7, .int .i64 x.f8, .slice A21 x.f9.length c21], rfl, rfl, ⟨[.string x.f7], [.int .i64 x.f8, .slice A21 x.f9.length c21], rfl, rfl, ⟨[.int .i64 x.f8], [.slice A21 x.f9.length c21], rfl, rfl, ⟨A21, c21, rfl, l21, g21⟩⟩⟩⟩⟩⟩⟩⟩⟩⟩
theorem k99_mkM (w : World) (base : Nat) (ok : Nat → Prop) (x : S99) {v21 : Value} (g21 : (Kd.int .i64).R 3 w base ok v21 x.f9) : k99.M w base ok x [.int .i64 x.f0, .int .i64 x.f1, .int .i64 x.f2.f0, .string x.f2.f1, .int .i64 x.f2.f2.f0, .int .i64 x.f2.f2.f1, .int .i64 x.f2.f3.f0, .int .i64 x.f2.f3.f1, .bool x.f2.f4, .int .i64 x.f3.f0, .string x.f3.f1, .int .i64 x.f3.f2.f0, .int .i64 x.f3.f2.f1, .int .i64 x.f3.f3.f0, .int .i64 x.f3.f3.f1, .bool x.f3.f4, .int .i64 x.f4, .int .i64 x.f5, .int .i64 x.f6, .string x.f7, .int .i64 x.f8, v21] := ⟨[.int .i64 x.f0], [.int .i64 x.f1, .int .i64 x.f2.f0, .string x.f2.f1, .int .i64 x.f2.f2.f0, .int .i64 x.f2.f2.f1, .int .i64 x.f2.f3.f0, .int .i64 x.f2.f3.f1, .bool x.f2.f4, .int .i64 x.f3.f0, .string x.f3.f1, .int .i64 x.f3.f2.f0, .int .i64 x.f3.f2.f1, .int .i64 x.f3.f3.f0, .int .i64 x.f3.f3.f1, .bool x.f3.f4, .int .i64 x.f4, .int .i64 x.f5, .int .i64 x.f6, .string x.f7, .int .i64 x.f8, v21], rfl, rfl, ⟨[.int .i64 x.f1], [.int .i64 x.f2.f0, .string x.f2.f1, .int .i64 x.f2.f2.f0, .int .i64 x.f2.f2.f1, .int .i64 x.f2.f3.f0, .int .i64 x.f2.f3.f1, .bool x.f2.f4, .int .i64 x.f3.f0, .string x.f3.f1, .int .i64 x.f3.f2.f0, .int .i64 x.f3.f2.f1, .int .i64 x.f3.f3.f0, .int .i64 x.f3.f3.f1, .bool x.f3.f4, .int .i64 x.f4, .int .i64 x.f5, .int .i64 x.f6, .string x.f7, .int .i64 x.f8, v21], rfl, rfl, ⟨[.int .i64 x.f2.f0, .string x.f2.f1, .int .i64 x.f2.f2.f0, .int .i64 x.f2.f2.f1, .int .i64 x.f2.f3.f0, .int .i64 x.f2.f3.f1, .bool x.f2.f4], [.int .i64 x.f3.f0, .string x.f3.f1, .int .i64 x.f3.f2.f0, .int .i64 x.f3.f2.f1, .int .i64 x.f3.f3.f0, .int .i64 x.f3.f3.f1, .bool x.f3.f4, .int .i64 x.f4, .int .i64 x.f5, .int .i64 x.f6, .string x.f7, .int .i64 x.f8, v21], rfl, (k97_mkM w base ok x.f2 ), ⟨[.int .i64 x.f3.f0, .string x.f3.f1, .int .i64 x.f3.f2.f0, .int .i64 x.f3.f2.f1, .int .i64 x.f3.f3.f0, .int .i64 x.f3.f3.f1, .bool x.f3.f4], [.int .i64 x.f4, .int .i64 x.f5, .int .i64 x.f6, .string x.f7, .int .i64 x.f8, v21], rfl, (k97_mkM w base ok x.f3 ), ⟨[.int .i64 x.f4], [.int .i64 x.f5, .int .i64 x.f6, .string x.f7, .int .i64 x.f8, v21], rfl, rfl, ⟨[.int .i64 x.f5], [.int .i64 x.f6, .string x.f7, .int .i64 x.f8, v21], rfl, rfl, ⟨[.int .i64 x.f6], [.string x.f7, .int .i64 x.f8, v21], rfl, rfl, ⟨[.string x.f7], [.int .i64 x.f8, v21], rfl, rfl, ⟨[.int .i64 x.f8], [v21], rfl, rfl, ⟨v21, rfl, g21⟩⟩⟩⟩⟩⟩⟩⟩⟩⟩
def rd_T99 (xs : List S99) (i : Int) : S99 := xs.getD i.toNat z99
theorem at_T99 {w : World} {A : Option Addr} {n : Nat} {xs : List S99} (h : Kd.C k99 w A n xs) (i : Int) (h0 : 0 ≤ i) (h1 : i < n) : ∃ ad A21 c21, A = some ad ∧ w.cell? (ad.add (i.toNat * 22)) = some (.int .i64 (rd_T99 xs i).f0) ∧ w.cell? ⟨(ad.add (i.toNat * 22)).block, (ad.add (i.toNat * 22)).off + 1, none⟩ = some (.int .i64 (rd_T99 xs i).f1) ∧ w.cell? ⟨(ad.add (i.toNat * 22)).block, (ad.add (i.toNat * 22)).off + 2, none⟩ = some (.int .i64 (rd_T99 xs i).f2.f0) ∧ w.cell? ⟨(ad.add (i.toNat * 22)).block, (ad.add (i.toNat * 22)).off + 3, none⟩ = some (.string (rd_T99 xs i).f2.f1) ∧ w.cell? ⟨(ad.add (i.toNat * 22)).block, (ad.add (i.toNat * 22)).off + 4, none⟩ = some (.int .i64 (rd_T99 xs i).f2.f2.f0) ∧ w.cell? ⟨(ad.add (i.toNat * 22)).block, (ad.add (i.toNat * 22)).off + 5, none⟩ = some (.int .i64 (rd_T99 xs i).f2.f2.f1) ∧ w.cell? ⟨(ad.add (i.toNat * 22)).block, (ad.add (i.toNat * 22)).off + 6, none⟩ = some (.int .i64 (rd_T99 xs i).f2.f3.f0) ∧ w.cell? ⟨(ad.add (i.toNat * 22)).block, (ad.add (i.toNat * 22)).off + 7, none⟩ = some (.int .i64 (rd_T99 xs i).f2.f3.f1) ∧ w.cell? ⟨(ad.add (i.toNat * 22)).block, (ad.add (i.toNat * 22)).off + 8, none⟩ = some (.bool (rd_T99 xs i).f2.f4) ∧ w.cell? ⟨(ad.add (i.toNat * 22)).block, (ad.add (i.toNat * 22)).off + 9, none⟩ = some (.int .i64 (rd_T99 xs i).f3.f0) ∧ w.cell? ⟨(ad.add (i.toNat * 22)).block, (ad.add (i.toNat * 22)).off + 10, none⟩ = some (.string (rd_T99 xs i).f3.f1) ∧ w.cell? ⟨(ad.add (i.toNat * 22)).block, (ad.add (i.toNat * 22)).off + 11, none⟩ = some (.int .i64 (rd_T99 xs i).f3.f2.f0) ∧ w.cell? ⟨(ad.add (i.toNat * 22)).block, (ad.add (i.toNat * 22)).off + 12, none⟩ = some (.int .i64 (rd_T99 xs i).f3.f2.f1) ∧ w.cell? ⟨(ad.add (i.toNat * 22)).block, (ad.add (i.toNat * 22)).off + 13, none⟩ = some (.int .i64 (rd_T99 xs i).f3.f3.f0) ∧ w.cell? ⟨(ad.add (i.toNat * 22)).block, (ad.add (i.toNat * 22)).off + 14, none⟩ = some (.int .i64 (rd_T99 xs i).f3.f3.f1) ∧ w.cell? ⟨(ad.add (i.toNat * 22)).block, (ad.add (i.toNat * 22)).off + 15, none⟩ = some (.bool (rd_T99 xs i).f3.f4) ∧ w.cell? ⟨(ad.add (i.toNat * 22)).block, (ad.add (i.toNat * 22)).off + 16, none⟩ = some (.int .i64 (rd_T99 xs i).f4) ∧ w.cell? ⟨(ad.add (i.toNat * 22)).block, (ad.add (i.toNat * 22)).off + 17, none⟩ = some (.int .i64 (rd_T99 xs i).f5) ∧ w.cell? ⟨(ad.add (i.toNat * 22)).block, (ad.add (i.toNat * 22)).off + 18, none⟩ = some (.int .i64 (rd_T99 xs i).f6) ∧ w.cell? ⟨(ad.add (i.toNat * 22)).block, (ad.add (i.toNat * 22)).off + 19, none⟩ = some (.string (rd_T99 xs i).f7) ∧ w.cell? ⟨(ad.add (i.toNat * 22)).block, (ad.add (i.toNat * 22)).off + 20, none⟩ = some (.int .i64 (rd_T99 xs i).f8) ∧ w.cell? ⟨(ad.add (i.toNat * 22)).block, (ad.add (i.toNat * 22)).off + 21, none⟩ = some (.slice A21 (rd_T99 xs i).f9.length c21) ∧ (rd_T99 xs i).f9.length ≤ c21 ∧ (Kd.int .i64).C w A21 (rd_T99 xs i).f9.length (rd_T99 xs i).f9 := by
  obtain ⟨ad, c, e, _, hK, hc0⟩ := Kd.C_get h z99 i h0 h1
  have hc : ∀ j u, c[j]? = some u → w.cell? (ad.add (i.toNat * 22 + j)) = some u := hc0
  obtain ⟨A21, c21, rfl, l21, g21⟩ := k99_open hK
  exact ⟨ad, A21, c21, e, hc 0 _ rfl, by rw [← add_field _ _ 1 (by omega)]; exact hc 1 _ rfl, by rw [← add_field _ _ 2 (by omega)]; exact hc 2 _ rfl, by rw [← add_field _ _ 3 (by omega)]; exact hc 3 _ rfl, by rw [← add_field _ _ 4 (by omega)]; exact hc 4 _ rfl, by rw [← add_field _ _ 5 (by omega)]; exact hc 5 _ rfl, by rw [← add_field _ _ 6 (by omega)]; exact hc 6 _ rfl, by rw [← add_field _ _ 7 (by omega)]; exact hc 7 _ rfl, by rw [← add_field _ _ 8 (by omega)]; exact hc 8 _ rfl, by rw [← add_field _ _ 9 (by omega)]; exact hc 9 _ rfl, by rw [← add_field _ _ 10 (by omega)]; exact hc 10 _ rfl, by rw [← add_field _ _ 11 (by omega)]; exact hc 11 _ rfl, by rw [← add_field _ _ 12 (by omega)]; exact hc 12 _ rfl, by rw [← add_field _ _ 13 (by omega)]; exact hc 13 _ rfl, by rw [← add_field _ _ 14 (by omega)]; exact hc 14 _ rfl, by rw [← add_field _ _ 15 (by omega)]; exact hc 15 _ rfl, by rw [← add_field _ _ 16 (by omega)]; exact hc 16 _ rfl, by rw [← add_field _ _ 17 (by omega)]; exact hc 17 _ rfl, by rw [← add_field _ _ 18 (by omega)]; exact hc 18 _ rfl, by rw [← add_field _ _ 19 (by omega)]; exact hc 19 _ rfl, by rw [← add_field _ _ 20 (by omega)]; exact hc 20 _ rfl, by rw [← add_field _ _ 21 (by omega)]; exact hc 21 _ rfl, l21, g21⟩

/-! #### struct type 240 -/
structure S240 where
  f0 : Bool
  f1 : Int
  f2 : Int
def z240 : S240 := ⟨false, (0 : Int), (0 : Int)⟩
def k240 : Kd S240 := Kd.iso (Kd.pair Kd.bool (Kd.pair (Kd.int .u64) (Kd.int .u64))) (fun x : S240 => (x.f0, x.f1, x.f2))
theorem k240_open {w : World} {x : S240} {cs : List Value} (h : k240.K w x cs) : cs = [.bool x.f0, .int .u64 x.f1, .int .u64 x.f2] := by
  obtain ⟨_, _, rfl, rfl, ⟨_, _, rfl, rfl, rfl⟩⟩ := h
  exact rfl
theorem k240_openM {w : World} {base : Nat} {ok : Nat → Prop} {x : S240} {cs : List Value} (h : k240.M w base ok x cs) : cs = [.bool x.f0, .int .u64 x.f1, .int .u64 x.f2] := by
  obtain ⟨_, _, rfl, rfl, ⟨_, _, rfl, rfl, rfl⟩⟩ := h
  exact rfl
theorem k240_mk (w : World) (x : S240)  : k240.K w x [.bool x.f0, .int .u64 x.f1, .int .u64 x.f2] := ⟨[.bool x.f0], [.int .u64 x.f1, .int .u64 x.f2], rfl, rfl, ⟨[.int .u64 x.f1], [.int .u64 x.f2], rfl, rfl, rfl⟩⟩
theorem k240_mkM (w : World) (base : Nat) (ok : Nat → Prop) (x : S240)  : k240.M w base ok x [.bool x.f0, .int .u64 x.f1, .int .u64 x.f2] := ⟨[.bool x.f0], [.int .u64 x.f1, .int .u64 x.f2], rfl, rfl, ⟨[.int .u64 x.f1], [.int .u64 x.f2], rfl, rfl, rfl⟩⟩
def rd_T240 (xs : List S240) (i : Int) : S240 := xs.getD i.toNat z240
theorem at_T240 {w : World} {A : Option Addr} {n : Nat} {xs : List S240} (h : Kd.C k240 w A n xs) (i : Int) (h0 : 0 ≤ i) (h1 : i < n) : ∃ ad , A = some ad ∧ w.cell? (ad.add (i.toNat * 3)) = some (.bool (rd_T240 xs i).f0) ∧ w.cell? ⟨(ad.add (i.toNat * 3)).block, (ad.add (i.toNat * 3)).off + 1, none⟩ = some (.int .u64 (rd_T240 xs i).f1) ∧ w.cell? ⟨(ad.add (i.toNat * 3)).block, (ad.add (i.toNat * 3)).off + 2, none⟩ = some (.int .u64 (rd_T240 xs i).f2) := by
  obtain ⟨ad, c, e, _, hK, hc0⟩ := Kd.C_get h z240 i h0 h1
  have hc : ∀ j u, c[j]? = some u → w.cell? (ad.add (i.toNat * 3 + j)) = some u := hc0
  obtain rfl := k240_open hK
  exact ⟨ad, e, hc 0 _ rfl, by rw [← add_field _ _ 1 (by omega)]; exact hc 1 _ rfl, by rw [← add_field _ _ 2 (by omega)]; exact hc 2 _ rfl⟩

def rd_L11 (xs : List (List S99)) (i : Int) : (List S99) := xs.getD i.toNat ([] : List S99)
theorem at_L11 {w : World} {A : Option Addr} {n : Nat} {xs : List (List S99)} (h : Kd.C (Kd.slice 99 k99) w A n xs) (i : Int) (h0 : 0 ≤ i) (h1 : i < n) : ∃ ad A0 c0, A = some ad ∧ w.cell? (ad.add i.toNat) = some (.slice A0 (rd_L11 xs i).length c0) ∧ (rd_L11 xs i).length ≤ c0 ∧ k99.C w A0 (rd_L11 xs i).length (rd_L11 xs i) := by
  obtain ⟨ad, c, e, _, hK, hc0⟩ := Kd.C_get h ([] : List S99) i h0 h1
  have hc : ∀ j u, c[j]? = some u → w.cell? (ad.add (i.toNat * 1 + j)) = some u := hc0
  obtain ⟨A0, c0, rfl, l0, g0⟩ := hK
  exact ⟨ad, A0, c0, e, by have hq := hc 0 _ rfl; rwa [Nat.mul_one, Nat.add_zero] at hq, l0, g0⟩

/-! #### struct type 129 -/
structure S129 where
  f0 : Int
  f1 : ByteArray
  f2 : Int
  f3 : Bool
  f4 : (List S99)
def z129 : S129 := ⟨(0 : Int), (⟨#[]⟩ : ByteArray), (0 : Int), false, ([] : List S99)⟩
def k129 : Kd S129 := Kd.iso (Kd.pair (Kd.int .i64) (Kd.pair Kd.string (Kd.pair (Kd.int .i64) (Kd.pair Kd.bool (Kd.slice 99 k99))))) (fun x : S129 => (x.f0, x.f1, x.f2, x.f3, x.f4))
theorem k129_open {w : World} {x : S129} {cs : List Value} (h : k129.K w x cs) : ∃ A4 c4, cs = [.int .i64 x.f0, .string x.f1, .int .i64 x.f2, .bool x.f3, .slice A4 x.f4.length c4] ∧ x.f4.length ≤ c4 ∧ k99.C w A4 x.f4.length x.f4 := by
  obtain ⟨_, _, rfl, rfl, ⟨_, _, rfl, rfl, ⟨_, _, rfl, rfl, ⟨_, _, rfl, rfl, ⟨A4, c4, rfl, l4, g4⟩⟩⟩⟩⟩ := h
  exact ⟨A4, c4, rfl, l4, g4⟩
theorem k129_openM {w : World} {base : Nat} {ok : Nat → Prop} {x : S129} {cs : List Value} (h : k129.M w base ok x cs) : ∃ v4, cs = [.int .i64 x.f0, .string x.f1, .int .i64 x.f2, .bool x.f3, v4] ∧ k99.R 99 w base ok v4 x.f4 := by
  obtain ⟨_, _, rfl, rfl, ⟨_, _, rfl, rfl, ⟨_, _, rfl, rfl, ⟨_, _, rfl, rfl, ⟨v4, rfl, g4⟩⟩⟩⟩⟩ := h
  exact ⟨v4, rfl, g4⟩
theorem k129_mk (w : World) (x : S129) {A4 : Option Addr} {c4 : Nat} (l4 : x.f4.length ≤ c4) (g4 : k99.C w A4 x.f4.length x.f4) : k129.K w x [.int .i64 x.f0, .string x.f1, .int .i64 x.f2, .bool x.f3, .slice A4 x.f4.length c4] := ⟨[.int .i64 x.f0], [.string x.f1, .int .i64 x.f2, .bool x.f3, .slice A4 x.f4.length c4], rfl, rfl, ⟨[.string x.f1], [.int .i64 x.f2, .bool x.f3, .slice A4 x.f4.length c4], rfl, rfl, ⟨[.int .i64 x.f2], [.bool x.f3, .slice A4 x.f4.length c4], rfl, rfl, ⟨[.bool x.f3], [.slice A4 x.f4.length c4], rfl, rfl, ⟨A4, c4, rfl, l4, g4⟩⟩⟩⟩⟩
theorem k129_mkM (w : World) (base : Nat) (ok : Nat → Prop) (x : S129) {v4 : Value} (g4 : k99.R 99 w base ok v4 x.f4) : k129.M w base ok x [.int .i64 x.f0, .string x.f1, .int .i64 x.f2, .bool x.f3, v4] := ⟨[.int .i64 x.f0], [.string x.f1, .int .i64 x.f2, .bool x.f3, v4], rfl, rfl, ⟨[.string x.f1], [.int .i64 x.f2, .bool x.f3, v4], rfl, rfl, ⟨[.int .i64 x.f2], [.bool x.f3, v4], rfl, rfl, ⟨[.bool x.f3], [v4], rfl, rfl, ⟨v4, rfl, g4⟩⟩⟩⟩⟩
def rd_T129 (xs : List S129) (i : Int) : S129 := xs.getD i.toNat z129
theorem at_T129 {w : World} {A : Option Addr} {n : Nat} {xs : List S129} (h : Kd.C k129 w A n xs) (i : Int) (h0 : 0 ≤ i) (h1 : i < n) : ∃ ad A4 c4, A = some ad ∧ w.cell? (ad.add (i.toNat * 5)) = some (.int .i64 (rd_T129 xs i).f0) ∧ w.cell? ⟨(ad.add (i.toNat * 5)).block, (ad.add (i.toNat * 5)).off + 1, none⟩ = some (.string (rd_T129 xs i).f1) ∧ w.cell? ⟨(ad.add (i.toNat * 5)).block, (ad.add (i.toNat * 5)).off + 2, none⟩ = some (.int .i64 (rd_T129 xs i).f2) ∧ w.cell? ⟨(ad.add (i.toNat * 5)).block, (ad.add (i.toNat * 5)).off + 3, none⟩ = some (.bool (rd_T129 xs i).f3) ∧ w.cell? ⟨(ad.add (i.toNat * 5)).block, (ad.add (i.toNat * 5)).off + 4, none⟩ = some (.slice A4 (rd_T129 xs i).f4.length c4) ∧ (rd_T129 xs i).f4.length ≤ c4 ∧ k99.C w A4 (rd_T129 xs i).f4.length (rd_T129 xs i).f4 := by
  obtain ⟨ad, c, e, _, hK, hc0⟩ := Kd.C_get h z129 i h0 h1
  have hc : ∀ j u, c[j]? = some u → w.cell? (ad.add (i.toNat * 5 + j)) = some u := hc0
  obtain ⟨A4, c4, rfl, l4, g4⟩ := k129_open hK
  exact ⟨ad, A4, c4, e, hc 0 _ rfl, by rw [← add_field _ _ 1 (by omega)]; exact hc 1 _ rfl, by rw [← add_field _ _ 2 (by omega)]; exact hc 2 _ rfl, by rw [← add_field _ _ 3 (by omega)]; exact hc 3 _ rfl, by rw [← add_field _ _ 4 (by omega)]; exact hc 4 _ rfl, l4, g4⟩

def rd_L13 (xs : List (List S129)) (i : Int) : (List S129) := xs.getD i.toNat ([] : List S129)
theorem at_L13 {w : World} {A : Option Addr} {n : Nat} {xs : List (List S129)} (h : Kd.C (Kd.slice 129 k129) w A n xs) (i : Int) (h0 : 0 ≤ i) (h1 : i < n) : ∃ ad A0 c0, A = some ad ∧ w.cell? (ad.add i.toNat) = some (.slice A0 (rd_L13 xs i).length c0) ∧ (rd_L13 xs i).length ≤ c0 ∧ k129.C w A0 (rd_L13 xs i).length (rd_L13 xs i) := by
  obtain ⟨ad, c, e, _, hK, hc0⟩ := Kd.C_get h ([] : List S129) i h0 h1
  have hc : ∀ j u, c[j]? = some u → w.cell? (ad.add (i.toNat * 1 + j)) = some u := hc0
  obtain ⟨A0, c0, rfl, l0, g0⟩ := hK
  exact ⟨ad, A0, c0, e, by have hq := hc 0 _ rfl; rwa [Nat.mul_one, Nat.add_zero] at hq, l0, g0⟩

/-! #### struct type 127 -/
structure S127 where
  f0 : ByteArray
  f1 : ByteArray
  f2 : Int
  f3 : (List S129)
def z127 : S127 := ⟨(⟨#[]⟩ : ByteArray), (⟨#[]⟩ : ByteArray), (0 : Int), ([] : List S129)⟩
def k127 : Kd S127 := Kd.iso (Kd.pair Kd.string (Kd.pair Kd.string (Kd.pair (Kd.int .i64) (Kd.slice 129 k129)))) (fun x : S127 => (x.f0, x.f1, x.f2, x.f3))
theorem k127_open {w : World} {x : S127} {cs : List Value} (h : k127.K w x cs) : ∃ A3 c3, cs = [.string x.f0, .string x.f1, .int .i64 x.f2, .slice A3 x.f3.length c3] ∧ x.f3.length ≤ c3 ∧ k129.C w A3 x.f3.length x.f3 := by
  obtain ⟨_, _, rfl, rfl, ⟨_, _, rfl, rfl, ⟨_, _, rfl, rfl, ⟨A3, c3, rfl, l3, g3⟩⟩⟩⟩ := h
  exact ⟨A3, c3, rfl, l3, g3⟩
theorem k127_openM {w : World} {base : Nat} {ok : Nat → Prop} {x : S127} {cs : List Value} (h : k127.M w base ok x cs) : ∃ v3, cs = [.string x.f0, .string x.f1, .int .i64 x.f2, v3] ∧ k129.R 129 w base ok v3 x.f3 := by
  obtain ⟨_, _, rfl, rfl, ⟨_, _, rfl, rfl, ⟨_, _, rfl, rfl, ⟨v3, rfl, g3⟩⟩⟩⟩ := h
  exact ⟨v3, rfl, g3⟩
theorem k127_mk (w : World) (x : S127) {A3 : Option Addr} {c3 : Nat} (l3 : x.f3.length ≤ c3) (g3 : k129.C w A3 x.f3.length x.f3) : k127.K w x [.string x.f0, .string x.f1, .int .i64 x.f2, .slice A3 x.f3.length c3] := ⟨[.string x.f0], [.string x.f1, .int .i64 x.f2, .slice A3 x.f3.length c3], rfl, rfl, ⟨[.string x.f1], [.int .i64 x.f2, .slice A3 x.f3.length c3], rfl, rfl, ⟨[.int .i64 x.f2], [.slice A3 x.f3.length c3], rfl, rfl, ⟨A3, c3, rfl, l3, g3⟩⟩⟩⟩
theorem k127_mkM (w : World) (base : Nat) (ok : Nat → Prop) (x : S127) {v3 : Value} (g3 : k129.R 129 w base ok v3 x.f3) : k127.M w base ok x [.string x.f0, .string x.f1, .int .i64 x.f2, v3] := ⟨[.string x.f0], [.string x.f1, .int .i64 x.f2, v3], rfl, rfl, ⟨[.string x.f1], [.int .i64 x.f2, v3], rfl, rfl, ⟨[.int .i64 x.f2], [v3], rfl, rfl, ⟨v3, rfl, g3⟩⟩⟩⟩
def rd_T127 (xs : List S127) (i : Int) : S127 := xs.getD i.toNat z127
theorem at_T127 {w : World} {A : Option Addr} {n : Nat} {xs : List S127} (h : Kd.C k127 w A n xs) (i : Int) (h0 : 0 ≤ i) (h1 : i < n) : ∃ ad A3 c3, A = some ad ∧ w.cell? (ad.add (i.toNat * 4)) = some (.string (rd_T127 xs i).f0) ∧ w.cell? ⟨(ad.add (i.toNat * 4)).block, (ad.add (i.toNat * 4)).off + 1, none⟩ = some (.string (rd_T127 xs i).f1) ∧ w.cell? ⟨(ad.add (i.toNat * 4)).block, (ad.add (i.toNat * 4)).off + 2, none⟩ = some (.int .i64 (rd_T127 xs i).f2) ∧ w.cell? ⟨(ad.add (i.toNat * 4)).block, (ad.add (i.toNat * 4)).off + 3, none⟩ = some (.slice A3 (rd_T127 xs i).f3.length c3) ∧ (rd_T127 xs i).f3.length ≤ c3 ∧ k129.C w A3 (rd_T127 xs i).f3.length (rd_T127 xs i).f3 := by
  obtain ⟨ad, c, e, _, hK, hc0⟩ := Kd.C_get h z127 i h0 h1
  have hc : ∀ j u, c[j]? = some u → w.cell? (ad.add (i.toNat * 4 + j)) = some u := hc0
  obtain ⟨A3, c3, rfl, l3, g3⟩ := k127_open hK
  exact ⟨ad, A3, c3, e, hc 0 _ rfl, by rw [← add_field _ _ 1 (by omega)]; exact hc 1 _ rfl, by rw [← add_field _ _ 2 (by omega)]; exact hc 2 _ rfl, by rw [← add_field _ _ 3 (by omega)]; exact hc 3 _ rfl, l3, g3⟩

end Go.Proofs.YtbladhplpceomaaGreat.PJournalSums
