/- PesJoinsSaid: for every input the law PesJoins answers true and leaves its arguments as they were. No conditions. -/
import Derived.Test.YtdkibpdgnocgaaaRows
import Derived.Test.YtdkibpdgnocgaaaPurePesJoins
import Derived.Test.YtdkibpdgnocgaaaMFit
import Derived.WalkKit
import Derived.ProofKit
import Derived.OpenShut
import Derived.ShutString
import Derived.ChangeOld
import Derived.Below
import Derived.SizedLaws
import Derived.Lib.SmallJoins
import Derived.Carry
set_option linter.unusedVariables false
namespace Go.Proofs.Ytdkibpdgnocgaaa.pesJoins
open Go.ChangeShapes Go.WideShapes Go.ChangeAt Go.RowKit Go.Joins Go.Deep Go.Proofs.YtdkibpdgnocgaaaW.PrintWords
open Go.ChangeMaps (open_string shut_string)
theorem own : ownKnob Try.prog.godebug = none := by kernel_rfl
theorem laidOut : laidOutB Try.prog = true := by kernel_rfl
theorem fitU8s : Fit (Kd.slice 5 (Kd.int .u8)) Try.prog 27 (fun xs => xs.length ≤ maxLen ∧ ∀ a ∈ xs, (Lit.int .u8 a).wf = true) := Fit.slice 5 Try.underlying27 (by kernel_rfl) (Fit.int Try.underlying5)
theorem fit29 : Fit PPesJoins.k29 Try.prog 29 (fun x => (x.f3.length ≤ maxLen ∧ ∀ a ∈ x.f3, (Lit.int .u8 a).wf = true)) :=
  Fit.mono (Fit.iso (fun x : PPesJoins.S29 => (x.f0, x.f1, x.f2, x.f3)) (fun x => ⟨x.1, x.2.1, x.2.2.1, x.2.2.2⟩) (fun _ => rfl) (Fit.struct Try.underlying29 (by kernel_rfl) (FitL.cons (Fit.int Try.underlying3) (FitL.cons (Fit.int Try.underlying2) (FitL.cons (Fit.int Try.underlying2) (FitL.one fitU8s)))))) (fun _ h => h.2.2.2)
theorem fitL : Fit (Kd.slice 29 PPesJoins.k29) Try.prog 25 (fun xs => xs.length ≤ maxLen ∧ ∀ x ∈ xs, (x.f3.length ≤ maxLen ∧ ∀ a ∈ x.f3, (Lit.int .u8 a).wf = true)) := Fit.slice 29 Try.underlying25 (by kernel_rfl) fit29
set_option maxRecDepth 100000 in
theorem lifted (os : Os) (started : os.Started) (H : Type) (enc : TypeId × Value → H) :
    ReturnsInHanded {} Try.checked os 4 .any (Rows.pesJoinsSpec.pre6 enc Try.prog Try.f4 Rows.pesJoinsRow.domain false) (Rows.pesJoinsSpec.post enc Try.prog Try.f4 false true false false) := by
  refine returnsInHanded_of_change_sized (C := Try.checked) own started (by kernel_rfl) Try.func4
    (ChangeSpec.witness6 (enc := enc) (C := Try.checked) false ⟨#[], #[.slice none 0 0], []⟩ 8 (by kernel_rfl) (by kernel_rfl) (by kernel_rfl) (by kernel_rfl)) ?_
  intro W base args ds gs before hval0 hW hcnd hsz0 _
  have hval : ∀ (j : Nat) t v, Try.f4.params[j]? = some t → args[j]? = some v → Value.okWide Try.prog W .any base t v := hval0
  have hW' := hW
  obtain ⟨p, q, hA0, hV, rfl, hfz, hnd⟩ := hW
  have hA : DataW.TrodAll enc Try.prog W 0 (fun _ => true) true Try.f4.params.toList args.toList ds p := hA0
  rw [Try.params4] at hA hval
  obtain ⟨v0, vs0, d0, ds0, p0, q0, hargs, rfl, rfl, h0, r0⟩ := trodAll_cons hA
  obtain ⟨rfl, rfl, rfl⟩ := trodAll_nil r0
  obtain rfl : args = #[v0] := by cases args; simp_all
  obtain ⟨rfl, rfl⟩ := trodVars_none hV
  have k0 := h0
  have lt0 : ∀ x ∈ p0, x.block < W.heap.size := by obtain ⟨m, hm⟩ := k0; exact DataW.trod_lt m _ _ _ hm
  obtain ⟨fuel0, hf0⟩ := h0
  obtain ⟨a0, len0, cap0, rfl⟩ := okWide_slice Try.underlying25 (hval 0 25 v0 rfl rfl)
  obtain ⟨l0, hK0, hG0⟩ := fitL enc W _ _ _ fuel0 _ _ hf0
  obtain ⟨A0, c0, e0, hl0, hC0⟩ := hK0
  simp [Value.cells] at e0
  obtain ⟨rfl, rfl, rfl⟩ := e0
  obtain ⟨k, hk⟩ := Pure.PesJoins l0 (fun x hx => (hG0.2 x hx).2)
  refine (PPesJoins.cutroomlaw16_PesJoins.calls k _ _ l0 true W hC0 hl0 hk).mono fun e W' ⟨he, bel0⟩ => ?_
  have bel : Below W.heap.size W W' := by first | exact bel0 | exact bel0.below
  subst he
  exact ⟨_, rfl, _, _, _, [], _, [], hW', trodAll_mk1 (shut_bool Try.underlying4 _), (trodAll_cons_mk (Below.trod laidOut (by kernel_rfl) (of_decide_eq_true (by kernel_rfl)) k0 bel lt0) trodAll_mk0), rfl, bel.frame _, fun h => by cases h⟩
theorem over : Rows.pesJoinsRow.holds Try.pinned (OpenSpec.ofChange Rows.pesJoinsSpec) :=
  OpenClaim.holds_of_wide 4 Try.f4 rfl rfl rfl rfl rfl rfl rfl ⟨rfl, rfl, rfl, rfl, rfl⟩ rfl rfl rfl rfl rfl (by kernel_rfl) Try.func4 (by kernel_rfl)
    (of_decide_eq_true (by kernel_rfl)) (by unfold Func.isWrapper; first | (rw [if_pos (by decide +kernel)]; kernel_rfl) | (rw [if_neg (by decide +kernel)]; exact ⟨rfl, rfl⟩))
    (fun os started H enc _ => lifted os started H enc)
theorem proved : Rows.PesJoinsSaid := over
#print axioms proved
end Go.Proofs.Ytdkibpdgnocgaaa.pesJoins
namespace Go.Proofs.Ytdkibpdgnocgaaa
/-- The row, under a short name, for the claim. -/
theorem pesJoins_holds : Rows.PesJoinsSaid := pesJoins.proved
end Go.Proofs.Ytdkibpdgnocgaaa
