/- PesTicksSaid: for every input the law PesTicks answers true and leaves its arguments as they were. No conditions. -/
import Derived.Test.YtdkibpdgnocgaaaRows
import Derived.Test.YtdkibpdgnocgaaaPurePesTicks
import Derived.WalkKit
import Derived.ProofKit
import Derived.OpenShut
import Derived.ShutString
import Derived.ChangeOld
import Derived.Below
import Derived.SizedLaws
import Derived.Lib.SmallJoins
import Derived.Carry
set_option linter.unusedVariables false
namespace Go.Proofs.Ytdkibpdgnocgaaa.pesTicks
open Go.ChangeShapes Go.WideShapes Go.ChangeAt Go.RowKit Go.Joins Go.Deep
open Go.ChangeMaps (open_string shut_string)
theorem own : ownKnob Try.prog.godebug = none := by kernel_rfl
theorem laidOut : laidOutB Try.prog = true := by kernel_rfl
set_option maxRecDepth 100000 in
theorem lifted (os : Os) (started : os.Started) (H : Type) (enc : TypeId × Value → H) :
    ReturnsInHanded {} Try.checked os 8 .any (Rows.pesTicksSpec.pre6 enc Try.prog Try.f8 Rows.pesTicksRow.domain false) (Rows.pesTicksSpec.post enc Try.prog Try.f8 false true false false) := by
  refine returnsInHanded_of_change_sized (C := Try.checked) own started (by kernel_rfl) Try.func8
    (ChangeSpec.witness6 (enc := enc) (C := Try.checked) false ⟨#[], #[.int .i64 0, .agg #[.int .i64 0, .int .i64 0]], []⟩ 8 (by kernel_rfl) (by kernel_rfl) (by kernel_rfl) (by kernel_rfl)) ?_
  intro W base args ds gs before hval0 hW hcnd hsz0 _
  have hval : ∀ (j : Nat) t v, Try.f8.params[j]? = some t → args[j]? = some v → Value.okWide Try.prog W .any base t v := hval0
  have hW' := hW
  obtain ⟨p, q, hA0, hV, rfl, hfz, hnd⟩ := hW
  have hA : DataW.TrodAll enc Try.prog W 0 (fun _ => true) true Try.f8.params.toList args.toList ds p := hA0
  rw [Try.params8] at hA hval
  obtain ⟨v0, vs0, d0, ds0, p0, q0, hargs, rfl, rfl, h0, r0⟩ := trodAll_cons hA
  obtain ⟨v1, vs1, d1, ds1, p1, q1, rfl, rfl, rfl, h1, r1⟩ := trodAll_cons r0
  obtain ⟨rfl, rfl, rfl⟩ := trodAll_nil r1
  obtain rfl : args = #[v0, v1] := by cases args; simp_all
  obtain ⟨rfl, rfl⟩ := trodVars_none hV
  obtain ⟨a0, rfl, rfl, rfl, w0⟩ := open_int Try.underlying2 (hval 0 2 v0 rfl rfl) h0
  have k1 := h1
  have lt1 : ∀ x ∈ p1, x.block < W.heap.size := by obtain ⟨m, hm⟩ := k1; exact DataW.trod_lt m _ _ _ hm
  obtain ⟨c1_0, c1_1, y1_0, y1_1, n1, rfl, hd1, hp1, g1_0, g1_1⟩ := open_agg2 Try.underlying55 (by kernel_rfl) (by kernel_rfl) (hval 1 55 v1 rfl rfl) h1
  obtain ⟨a1_0, e1_0, -, w1_0⟩ := DataW.trod_int Try.underlying2 g1_0
  obtain rfl : c1_0 = _ := (List.cons.inj e1_0).1
  obtain ⟨a1_1, e1_1, -, w1_1⟩ := DataW.trod_int Try.underlying2 g1_1
  obtain rfl : c1_1 = _ := (List.cons.inj e1_1).1
  obtain ⟨k, hk⟩ := Pure.PesTicks a0 a1_0 a1_1 w0 w1_0 w1_1
  refine (PPesTicks.cutroomlaw16_PesTicks.calls k a0 a1_0 a1_1 true W hk).mono fun e W' ⟨he, bel0⟩ => ?_
  have bel : Below W.heap.size W W' := by first | exact bel0 | exact bel0.below
  subst he
  exact ⟨_, rfl, _, _, _, [], _, [], hW', trodAll_mk1 (shut_bool Try.underlying4 _), (trodAll_cons_mk (shut_int Try.underlying2 w0) (trodAll_cons_mk (Below.trod laidOut (by kernel_rfl) (of_decide_eq_true (by kernel_rfl)) k1 bel lt1) trodAll_mk0)), rfl, bel.frame _, fun h => by cases h⟩
theorem over : Rows.pesTicksRow.holds Try.pinned (OpenSpec.ofChange Rows.pesTicksSpec) :=
  OpenClaim.holds_of_wide 8 Try.f8 rfl rfl rfl rfl rfl rfl rfl ⟨rfl, rfl, rfl, rfl, rfl⟩ rfl rfl rfl rfl rfl (by kernel_rfl) Try.func8 (by kernel_rfl)
    (of_decide_eq_true (by kernel_rfl)) (by unfold Func.isWrapper; first | (rw [if_pos (by decide +kernel)]; kernel_rfl) | (rw [if_neg (by decide +kernel)]; exact ⟨rfl, rfl⟩))
    (fun os started H enc _ => lifted os started H enc)
theorem proved : Rows.PesTicksSaid := over
#print axioms proved
end Go.Proofs.Ytdkibpdgnocgaaa.pesTicks
namespace Go.Proofs.Ytdkibpdgnocgaaa
/-- The row, under a short name, for the claim. -/
theorem pesTicks_holds : Rows.PesTicksSaid := pesTicks.proved
end Go.Proofs.Ytdkibpdgnocgaaa
