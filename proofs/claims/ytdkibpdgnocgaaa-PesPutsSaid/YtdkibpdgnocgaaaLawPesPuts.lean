/- PesPutsSaid: for every input the law PesPuts answers true and leaves its arguments as they were. No conditions. -/
import Derived.Test.YtdkibpdgnocgaaaRows
import Derived.Test.YtdkibpdgnocgaaaPurePesPuts
import Derived.Test.YtdkibpdgnocgaaaMFit
import Derived.WalkKit
import Derived.ProofKit
import Derived.OpenShut
import Derived.ShutString
import Derived.ChangeOld
import Derived.Below
import Derived.SizedLaws
import Derived.Lib.SmallJoins
import Derived.Carry
set_option linter.unusedVariables false
namespace Go.Proofs.Ytdkibpdgnocgaaa.pesPuts
open Go.ChangeShapes Go.WideShapes Go.ChangeAt Go.RowKit Go.Joins Go.Deep Go.Proofs.YtdkibpdgnocgaaaW.PrintWords
open Go.ChangeMaps (open_string shut_string)
theorem own : ownKnob Try.prog.godebug = none := by kernel_rfl
theorem laidOut : laidOutB Try.prog = true := by kernel_rfl
theorem fitU8s : Fit (Kd.slice 5 (Kd.int .u8)) Try.prog 27 (fun xs => xs.length ≤ maxLen ∧ ∀ a ∈ xs, (Lit.int .u8 a).wf = true) := Fit.slice 5 Try.underlying27 (by kernel_rfl) (Fit.int Try.underlying5)
theorem fit29 : Fit (Kd.pair (Kd.int .i64) (Kd.pair (Kd.int .i64) (Kd.pair (Kd.int .i64) (Kd.slice 5 (Kd.int .u8))))) Try.prog 29 (fun x => (Lit.int .i64 x.1).wf = true ∧ (Lit.int .i64 x.2.1).wf = true ∧ (Lit.int .i64 x.2.2.1).wf = true ∧ (x.2.2.2.length ≤ maxLen ∧ ∀ a ∈ x.2.2.2, (Lit.int .u8 a).wf = true)) :=
  Fit.struct Try.underlying29 (by kernel_rfl) (FitL.cons (Fit.int Try.underlying3) (FitL.cons (Fit.int Try.underlying2) (FitL.cons (Fit.int Try.underlying2) (FitL.one fitU8s))))
set_option maxRecDepth 100000 in
theorem lifted (os : Os) (started : os.Started) (H : Type) (enc : TypeId × Value → H) :
    ReturnsInHanded {} Try.checked os 6 .any (Rows.pesPutsSpec.pre6 enc Try.prog Try.f6 Rows.pesPutsRow.domain false) (Rows.pesPutsSpec.post enc Try.prog Try.f6 false true false false) := by
  refine returnsInHanded_of_change_sized (C := Try.checked) own started (by kernel_rfl) Try.func6
    (ChangeSpec.witness6 (enc := enc) (C := Try.checked) false ⟨#[], #[.agg #[.int .i64 0, .int .i64 0, .int .i64 0, .slice none 0 0], .slice none 0 0], []⟩ 8 (by kernel_rfl) (by kernel_rfl) (by kernel_rfl) (by kernel_rfl)) ?_
  intro W base args ds gs before hval0 hW hcnd hsz0 _
  have hval : ∀ (j : Nat) t v, Try.f6.params[j]? = some t → args[j]? = some v → Value.okWide Try.prog W .any base t v := hval0
  have hW' := hW
  obtain ⟨p, q, hA0, hV, rfl, hfz, hnd⟩ := hW
  have hA : DataW.TrodAll enc Try.prog W 0 (fun _ => true) true Try.f6.params.toList args.toList ds p := hA0
  rw [Try.params6] at hA hval
  obtain ⟨v0, vs0, d0, ds0, p0, q0, hargs, rfl, rfl, h0, r0⟩ := trodAll_cons hA
  obtain ⟨v1, vs1, d1, ds1, p1, q1, rfl, rfl, rfl, h1, r1⟩ := trodAll_cons r0
  obtain ⟨rfl, rfl, rfl⟩ := trodAll_nil r1
  obtain rfl : args = #[v0, v1] := by cases args; simp_all
  obtain ⟨rfl, rfl⟩ := trodVars_none hV
  have k0 := h0
  have lt0 : ∀ x ∈ p0, x.block < W.heap.size := by obtain ⟨m, hm⟩ := k0; exact DataW.trod_lt m _ _ _ hm
  obtain ⟨fuel0, hf0⟩ := h0
  have k1 := h1
  have lt1 : ∀ x ∈ p1, x.block < W.heap.size := by obtain ⟨m, hm⟩ := k1; exact DataW.trod_lt m _ _ _ hm
  obtain ⟨fuel1, hf1⟩ := h1
  obtain ⟨cs0, rfl, hs0⟩ := okWide_struct Try.underlying29 (hval 0 29 v0 rfl rfl)
  obtain ⟨⟨x0, x1, x2, l0⟩, hK0, hG0⟩ := fit29 enc W _ _ _ fuel0 _ _ hf0
  obtain ⟨_, _, e0, rfl, _, _, rfl, rfl, _, _, rfl, rfl, A0, c0, rfl, hl0, hC0⟩ := hK0
  obtain rfl : cs0 = #[.int .i64 x0, .int .i64 x1, .int .i64 x2, .slice A0 l0.length c0] := by
    obtain ⟨l⟩ := cs0
    simp [Value.cells] at e0
    rw [e0]
  obtain ⟨a1, len1, cap1, rfl⟩ := okWide_slice Try.underlying27 (hval 1 27 v1 rfl rfl)
  obtain ⟨l1, hK1, hG1⟩ := fitU8s enc W _ _ _ fuel1 _ _ hf1
  obtain ⟨A1, c1, e1, hl1, hC1⟩ := hK1
  simp [Value.cells] at e1
  obtain ⟨rfl, rfl, rfl⟩ := e1
  obtain ⟨k, hk⟩ := Pure.PesPuts x0 x1 x2 l0 l1 hG0.2.2.2.2 hG1.2
  refine (PPesPuts.cutroomlaw16_PesPuts.calls k x0 x1 x2 _ _ l0 _ _ l1 true W hC0 hl0 hC1 hl1 hk).mono fun e W' ⟨he, bel0⟩ => ?_
  have bel : Below W.heap.size W W' := by first | exact bel0 | exact bel0.below
  subst he
  exact ⟨_, rfl, _, _, _, [], _, [], hW', trodAll_mk1 (shut_bool Try.underlying4 _), (trodAll_cons_mk (Below.trod laidOut (by kernel_rfl) (of_decide_eq_true (by kernel_rfl)) k0 bel lt0) (trodAll_cons_mk (Below.trod laidOut (by kernel_rfl) (of_decide_eq_true (by kernel_rfl)) k1 bel lt1) trodAll_mk0)), rfl, bel.frame _, fun h => by cases h⟩
theorem over : Rows.pesPutsRow.holds Try.pinned (OpenSpec.ofChange Rows.pesPutsSpec) :=
  OpenClaim.holds_of_wide 6 Try.f6 rfl rfl rfl rfl rfl rfl rfl ⟨rfl, rfl, rfl, rfl, rfl⟩ rfl rfl rfl rfl rfl (by kernel_rfl) Try.func6 (by kernel_rfl)
    (of_decide_eq_true (by kernel_rfl)) (by unfold Func.isWrapper; first | (rw [if_pos (by decide +kernel)]; kernel_rfl) | (rw [if_neg (by decide +kernel)]; exact ⟨rfl, rfl⟩))
    (fun os started H enc _ => lifted os started H enc)
theorem proved : Rows.PesPutsSaid := over
#print axioms proved
end Go.Proofs.Ytdkibpdgnocgaaa.pesPuts
namespace Go.Proofs.Ytdkibpdgnocgaaa
/-- The row, under a short name, for the claim. -/
theorem pesPuts_holds : Rows.PesPutsSaid := pesPuts.proved
end Go.Proofs.Ytdkibpdgnocgaaa
