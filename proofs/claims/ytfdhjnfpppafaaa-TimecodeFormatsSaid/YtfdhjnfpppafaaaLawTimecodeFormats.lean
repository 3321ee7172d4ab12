/- TimecodeFormatsSaid: for every input the law TimecodeFormats answers true and leaves its arguments as they were. No conditions. -/
import Derived.Test.YtfdhjnfpppafaaaRows
import Derived.Test.YtfdhjnfpppafaaaPureTimecodeFormats
import Derived.WalkKit
import Derived.ProofKit
import Derived.OpenShut
import Derived.ShutString
import Derived.ChangeOld
import Derived.Below
import Derived.SizedLaws
import Derived.Lib.SmallJoins
import Derived.Carry
set_option linter.unusedVariables false
namespace Go.Proofs.Ytfdhjnfpppafaaa.timecodeFormats
open Go.ChangeShapes Go.WideShapes Go.ChangeAt Go.RowKit Go.Joins Go.Deep
open Go.ChangeMaps (open_string shut_string)
section
variable {H : Type} {enc : TypeId × Value → H} {P : Program} {w : World} {base : Nat} {spare : Nat → Bool} {held : Bool}
theorem open_aggN6 {r : Reach} {b0 : Nat} {t : TypeId} {f0 f1 f2 f3 f4 f5 : Field} {v : Value} {d : DataW H} {p : List MemPlace} (hs : P.underlying t = some (.struct #[f0, f1, f2, f3, f4, f5])) (hone : oneCellFields P #[f0, f1, f2, f3, f4, f5] = true) (hC : P.cellsOf t = 6)
    (hv : Value.okWide P w r b0 t v) (h : DataW.Trod enc P w base spare held t v d p) :
    ∃ (v0 v1 v2 v3 v4 v5 : Value) (y0 y1 y2 y3 y4 y5 : DataW H × List MemPlace) (n : Nat), v = .agg #[v0, v1, v2, v3, v4, v5] ∧ d = .agg [y0.1, y1.1, y2.1, y3.1, y4.1, y5.1] ∧ DataW.trod enc P w base spare held n f0.type [v0] = some y0 ∧ DataW.trod enc P w base spare held n f1.type [v1] = some y1 ∧ DataW.trod enc P w base spare held n f2.type [v2] = some y2 ∧ DataW.trod enc P w base spare held n f3.type [v3] = some y3 ∧ DataW.trod enc P w base spare held n f4.type [v4] = some y4 ∧ DataW.trod enc P w base spare held n f5.type [v5] = some y5 := by
  obtain ⟨cs, rfl, hsz⟩ := okWide_struct hs hv
  obtain ⟨l⟩ := cs
  match l, hsz.trans hC with
  | [c0, c1, c2, c3, c4, c5], _ =>
    obtain ⟨fuel, hf⟩ := h
    obtain ⟨xs, n, _, hx, _, hlen, hg⟩ := DataW.trod_struct hs hf
    obtain ⟨o0, k0⟩ := hone_of hone 0 f0 rfl
    obtain ⟨o1, k1⟩ := hone_of hone 1 f1 rfl
    obtain ⟨o2, k2⟩ := hone_of hone 2 f2 rfl
    obtain ⟨o3, k3⟩ := hone_of hone 3 f3 rfl
    obtain ⟨o4, k4⟩ := hone_of hone 4 f4 rfl
    obtain ⟨o5, k5⟩ := hone_of hone 5 f5 rfl
    match xs, hlen with
    | [y0, y1, y2, y3, y4, y5], _ =>
      simp only [Prod.mk.injEq] at hx
      exact ⟨c0, c1, c2, c3, c4, c5, y0, y1, y2, y3, y4, y5, n, rfl, by simpa using hx.1, by simpa [Value.cells, o0, k0] using hg 0 f0 rfl, by simpa [Value.cells, o1, k1] using hg 1 f1 rfl, by simpa [Value.cells, o2, k2] using hg 2 f2 rfl, by simpa [Value.cells, o3, k3] using hg 3 f3 rfl, by simpa [Value.cells, o4, k4] using hg 4 f4 rfl, by simpa [Value.cells, o5, k5] using hg 5 f5 rfl⟩
end
theorem own : ownKnob Try.prog.godebug = none := by kernel_rfl
theorem laidOut : laidOutB Try.prog = true := by kernel_rfl
set_option maxRecDepth 100000 in
theorem lifted (os : Os) (started : os.Started) (H : Type) (enc : TypeId × Value → H) :
    ReturnsInHanded {} Try.checked os 13 .any (Rows.timecodeFormatsSpec.pre6 enc Try.prog Try.f13 Rows.timecodeFormatsRow.domain false) (Rows.timecodeFormatsSpec.post enc Try.prog Try.f13 false true false false) := by
  refine returnsInHanded_of_change_sized (C := Try.checked) own started (by kernel_rfl) Try.func13
    (ChangeSpec.witness6 (enc := enc) (C := Try.checked) false ⟨#[], #[.agg #[.int .i64 0, .int .i64 0, .int .i64 0, .int .i64 0, .int .i64 0, .bool false]], []⟩ 8 (by kernel_rfl) (by kernel_rfl) (by kernel_rfl) (by kernel_rfl)) ?_
  intro W base args ds gs before hval0 hW hcnd hsz0 _
  have hval : ∀ (j : Nat) t v, Try.f13.params[j]? = some t → args[j]? = some v → Value.okWide Try.prog W .any base t v := hval0
  have hW' := hW
  obtain ⟨p, q, hA0, hV, rfl, hfz, hnd⟩ := hW
  have hA : DataW.TrodAll enc Try.prog W 0 (fun _ => true) true Try.f13.params.toList args.toList ds p := hA0
  rw [Try.params13] at hA hval
  obtain ⟨v0, vs0, d0, ds0, p0, q0, hargs, rfl, rfl, h0, r0⟩ := trodAll_cons hA
  obtain ⟨rfl, rfl, rfl⟩ := trodAll_nil r0
  obtain rfl : args = #[v0] := by cases args; simp_all
  obtain ⟨rfl, rfl⟩ := trodVars_none hV
  have k0 := h0
  have lt0 : ∀ x ∈ p0, x.block < W.heap.size := by obtain ⟨m, hm⟩ := k0; exact DataW.trod_lt m _ _ _ hm
  obtain ⟨c0_0, c0_1, c0_2, c0_3, c0_4, c0_5, y0_0, y0_1, y0_2, y0_3, y0_4, y0_5, n0, rfl, hd0, g0_0, g0_1, g0_2, g0_3, g0_4, g0_5⟩ := open_aggN6 Try.underlying34 (by kernel_rfl) (by kernel_rfl) (hval 0 34 v0 rfl rfl) h0
  obtain ⟨a0_0, e0_0, -, w0_0⟩ := DataW.trod_int Try.underlying3 g0_0
  obtain rfl : c0_0 = _ := (List.cons.inj e0_0).1
  obtain ⟨a0_1, e0_1, -, w0_1⟩ := DataW.trod_int Try.underlying3 g0_1
  obtain rfl : c0_1 = _ := (List.cons.inj e0_1).1
  obtain ⟨a0_2, e0_2, -, w0_2⟩ := DataW.trod_int Try.underlying3 g0_2
  obtain rfl : c0_2 = _ := (List.cons.inj e0_2).1
  obtain ⟨a0_3, e0_3, -, w0_3⟩ := DataW.trod_int Try.underlying3 g0_3
  obtain rfl : c0_3 = _ := (List.cons.inj e0_3).1
  obtain ⟨a0_4, e0_4, -, w0_4⟩ := DataW.trod_int Try.underlying3 g0_4
  obtain rfl : c0_4 = _ := (List.cons.inj e0_4).1
  obtain ⟨a0_5, e0_5, -⟩ := DataW.trod_bool Try.underlying4 g0_5
  obtain rfl : c0_5 = _ := (List.cons.inj e0_5).1
  obtain ⟨k, hk⟩ := Pure.TimecodeFormats a0_0 a0_1 a0_2 a0_3 a0_4 a0_5
  refine (PTimecodeFormats.cutroomlaw19_TimecodeFormats.calls k a0_0 a0_1 a0_2 a0_3 a0_4 a0_5 true W hk).mono fun e W' ⟨he, bel0⟩ => ?_
  have bel : Below W.heap.size W W' := by first | exact bel0 | exact bel0.below
  subst he
  exact ⟨_, rfl, _, _, _, [], _, [], hW', trodAll_mk1 (shut_bool Try.underlying4 _), (trodAll_cons_mk (Below.trod laidOut (by kernel_rfl) (of_decide_eq_true (by kernel_rfl)) k0 bel lt0) trodAll_mk0), rfl, bel.frame _, fun h => by cases h⟩
theorem over : Rows.timecodeFormatsRow.holds Try.pinned (OpenSpec.ofChange Rows.timecodeFormatsSpec) :=
  OpenClaim.holds_of_wide 13 Try.f13 rfl rfl rfl rfl rfl rfl rfl ⟨rfl, rfl, rfl, rfl, rfl⟩ rfl rfl rfl rfl rfl (by kernel_rfl) Try.func13 (by kernel_rfl)
    (of_decide_eq_true (by kernel_rfl)) (by unfold Func.isWrapper; first | (rw [if_pos (by decide +kernel)]; kernel_rfl) | (rw [if_neg (by decide +kernel)]; exact ⟨rfl, rfl⟩))
    (fun os started H enc _ => lifted os started H enc)
theorem proved : Rows.TimecodeFormatsSaid := over
#print axioms proved
end Go.Proofs.Ytfdhjnfpppafaaa.timecodeFormats
namespace Go.Proofs.Ytfdhjnfpppafaaa
/-- The row, under a short name, for the claim. -/
theorem timecodeFormats_holds : Rows.TimecodeFormatsSaid := timecodeFormats.proved
end Go.Proofs.Ytfdhjnfpppafaaa
