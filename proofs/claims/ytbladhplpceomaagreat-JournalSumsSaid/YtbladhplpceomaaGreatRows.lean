/-
  No cell of these rows narrows 'for every input' (looked for: loops, veiled, ifaces, maps, wideKeys, modest, calm, conditions, laid).
  DERIVED. THE GIVEN ROWS OF THIS SEAT. 11 by the template 'for every input the law returns true; each argument reads behind the call as it read before'; 0 by the template 'total and deterministic' (their statements: YtbladhplpceomaaGreatTotals.lean).
  GIVEN WITH THE SEED: the statements are not yours to turn. If you find one false, say at which input.
  Laid BY PROGRAM, IN A SANDBOX (cutbox-rows.mjs): the forced cells as the released guide's own fill.sh prints them over the translation cfb361f61c755a10… (all of the seat's roots in one cut). By AI agents, Wed Nov 11 2026. No macro, syntax, notation, axiom, sorry.
-/
import Derived.Test.YtbladhplpceomaaGreatChecked
import GoSem.Claim
import GoSem.ClaimJoined
import GoSem.ClaimMapViews
import Derived.JoinedTies
import Derived.KernelRfl
namespace Go.Proofs.YtbladhplpceomaaGreat
/- THE CELL 'sum', in the pinned program and in every row, IS THE sha256 OF THE DUMP (.gsa) THAT YtbladhplpceomaaGreatProg.lean LOADS. Nothing in Lean hashes anything: it is a label: what it is worth is what the hold of that sum in a sandbox is worth. -/
noncomputable def Tryz.pinned : Pinned := { name := "ytbladhplpceomaagreat", sum := "cfb361f61c755a10b115363df08cf1daf16f0d1194857cf1bd364025565f8c88", checked := Tryz.checked }
namespace Rows
def none {H : Type} : Left H := { results := [], args := [] }

/-- 'cutroomlaw35.JournalSums': WHATEVER THE INPUT: true; the input reads as it did. -/
def journalSumsSpec : ChangeSpec := { name := "journalSums", fn := fun _ => fun
  | [d] => { results := [.lit (.bool true)], args := [d] }
  | _ => none }
def journalSumsRow : OpenClaim := { program := "ytbladhplpceomaagreat", sum := "cfb361f61c755a10b115363df08cf1daf16f0d1194857cf1bd364025565f8c88", func := "cutroom/cutroomlaw35.JournalSums", spec := "journalSums", inPlace := ["math/bits.Add64", "math/bits.Sub64"], unfollowed := true, recurses := true, named := ["math/bits.divideError", "math/bits.overflowError"], apart := false }
def JournalSumsSaid : Prop := journalSumsRow.holds Tryz.pinned (OpenSpec.ofChange journalSumsSpec)

/-- ITS FALSE NEIGHBOUR: 'it returns false'. Refute it at one input. -/
def journalSumsWrong : ChangeSpec := { name := "journalSums", fn := fun _ => fun
  | [d] => { results := [.lit (.bool false)], args := [d] }
  | _ => none }
def JournalSumsWrongFalsely : Prop := journalSumsRow.holds Tryz.pinned (OpenSpec.ofChange journalSumsWrong)

/-- 'cutroomlaw35.JournalEncodes': WHATEVER THE INPUT: true; the input reads as it did. -/
def journalEncodesSpec : ChangeSpec := { name := "journalEncodes", fn := fun _ => fun
  | [d1, d2, d3] => { results := [.lit (.bool true)], args := [d1, d2, d3] }
  | _ => none }
def journalEncodesRow : OpenClaim := { program := "ytbladhplpceomaagreat", sum := "cfb361f61c755a10b115363df08cf1daf16f0d1194857cf1bd364025565f8c88", func := "cutroom/cutroomlaw35.JournalEncodes", spec := "journalEncodes", inPlace := ["math/bits.Add64", "math/bits.Sub64"], unfollowed := true, recurses := true, named := ["math/bits.divideError", "math/bits.overflowError"], apart := false }
def JournalEncodesSaid : Prop := journalEncodesRow.holds Tryz.pinned (OpenSpec.ofChange journalEncodesSpec)

/-- ITS FALSE NEIGHBOUR: 'it returns false'. Refute it at one input. -/
def journalEncodesWrong : ChangeSpec := { name := "journalEncodes", fn := fun _ => fun
  | [d1, d2, d3] => { results := [.lit (.bool false)], args := [d1, d2, d3] }
  | _ => none }
def JournalEncodesWrongFalsely : Prop := journalEncodesRow.holds Tryz.pinned (OpenSpec.ofChange journalEncodesWrong)

/-- 'cutroomlaw35.JournalDecodes': WHATEVER THE INPUT: true; the input reads as it did. -/
def journalDecodesSpec : ChangeSpec := { name := "journalDecodes", fn := fun _ => fun
  | [d1, d2, d3, d4, d5] => { results := [.lit (.bool true)], args := [d1, d2, d3, d4, d5] }
  | _ => none }
def journalDecodesRow : OpenClaim := { program := "ytbladhplpceomaagreat", sum := "cfb361f61c755a10b115363df08cf1daf16f0d1194857cf1bd364025565f8c88", func := "cutroom/cutroomlaw35.JournalDecodes", spec := "journalDecodes", inPlace := ["math/bits.Add64", "math/bits.Sub64"], unfollowed := true, recurses := true, named := ["math/bits.divideError", "math/bits.overflowError"], apart := false }
def JournalDecodesSaid : Prop := journalDecodesRow.holds Tryz.pinned (OpenSpec.ofChange journalDecodesSpec)

/-- ITS FALSE NEIGHBOUR: 'it returns false'. Refute it at one input. -/
def journalDecodesWrong : ChangeSpec := { name := "journalDecodes", fn := fun _ => fun
  | [d1, d2, d3, d4, d5] => { results := [.lit (.bool false)], args := [d1, d2, d3, d4, d5] }
  | _ => none }
def JournalDecodesWrongFalsely : Prop := journalDecodesRow.holds Tryz.pinned (OpenSpec.ofChange journalDecodesWrong)

/-- 'cutroomlaw35.JournalBursts': WHATEVER THE INPUT: true; the input reads as it did. -/
def journalBurstsSpec : ChangeSpec := { name := "journalBursts", fn := fun _ => fun
  | [d1, d2, d3, d4] => { results := [.lit (.bool true)], args := [d1, d2, d3, d4] }
  | _ => none }
def journalBurstsRow : OpenClaim := { program := "ytbladhplpceomaagreat", sum := "cfb361f61c755a10b115363df08cf1daf16f0d1194857cf1bd364025565f8c88", func := "cutroom/cutroomlaw35.JournalBursts", spec := "journalBursts", inPlace := ["math/bits.Add64", "math/bits.Sub64"], unfollowed := true, recurses := true, named := ["math/bits.divideError", "math/bits.overflowError"], apart := false }
def JournalBurstsSaid : Prop := journalBurstsRow.holds Tryz.pinned (OpenSpec.ofChange journalBurstsSpec)

/-- ITS FALSE NEIGHBOUR: 'it returns false'. Refute it at one input. -/
def journalBurstsWrong : ChangeSpec := { name := "journalBursts", fn := fun _ => fun
  | [d1, d2, d3, d4] => { results := [.lit (.bool false)], args := [d1, d2, d3, d4] }
  | _ => none }
def JournalBurstsWrongFalsely : Prop := journalBurstsRow.holds Tryz.pinned (OpenSpec.ofChange journalBurstsWrong)

/-- 'cutroomlaw35.JournalOpens': WHATEVER THE INPUT: true; the input reads as it did. -/
def journalOpensSpec : ChangeSpec := { name := "journalOpens", fn := fun _ => fun
  | [d1, d2, d3] => { results := [.lit (.bool true)], args := [d1, d2, d3] }
  | _ => none }
def journalOpensRow : OpenClaim := { program := "ytbladhplpceomaagreat", sum := "cfb361f61c755a10b115363df08cf1daf16f0d1194857cf1bd364025565f8c88", func := "cutroom/cutroomlaw35.JournalOpens", spec := "journalOpens", inPlace := ["math/bits.Add64", "math/bits.Sub64"], unfollowed := true, recurses := true, named := ["math/bits.divideError", "math/bits.overflowError"], apart := false }
def JournalOpensSaid : Prop := journalOpensRow.holds Tryz.pinned (OpenSpec.ofChange journalOpensSpec)

/-- ITS FALSE NEIGHBOUR: 'it returns false'. Refute it at one input. -/
def journalOpensWrong : ChangeSpec := { name := "journalOpens", fn := fun _ => fun
  | [d1, d2, d3] => { results := [.lit (.bool false)], args := [d1, d2, d3] }
  | _ => none }
def JournalOpensWrongFalsely : Prop := journalOpensRow.holds Tryz.pinned (OpenSpec.ofChange journalOpensWrong)

/-- 'cutroomlaw35.JournalHistories': WHATEVER THE INPUT: true; the input reads as it did. -/
def journalHistoriesSpec : ChangeSpec := { name := "journalHistories", fn := fun _ => fun
  | [d1, d2, d3] => { results := [.lit (.bool true)], args := [d1, d2, d3] }
  | _ => none }
def journalHistoriesRow : OpenClaim := { program := "ytbladhplpceomaagreat", sum := "cfb361f61c755a10b115363df08cf1daf16f0d1194857cf1bd364025565f8c88", func := "cutroom/cutroomlaw35.JournalHistories", spec := "journalHistories", inPlace := ["math/bits.Add64", "math/bits.Sub64"], unfollowed := true, recurses := true, named := ["math/bits.divideError", "math/bits.overflowError"], apart := false }
def JournalHistoriesSaid : Prop := journalHistoriesRow.holds Tryz.pinned (OpenSpec.ofChange journalHistoriesSpec)

/-- ITS FALSE NEIGHBOUR: 'it returns false'. Refute it at one input. -/
def journalHistoriesWrong : ChangeSpec := { name := "journalHistories", fn := fun _ => fun
  | [d1, d2, d3] => { results := [.lit (.bool false)], args := [d1, d2, d3] }
  | _ => none }
def JournalHistoriesWrongFalsely : Prop := journalHistoriesRow.holds Tryz.pinned (OpenSpec.ofChange journalHistoriesWrong)

/-- 'cutroomlaw35.JournalRaw': WHATEVER THE INPUT: true; the input reads as it did. -/
def journalRawSpec : ChangeSpec := { name := "journalRaw", fn := fun _ => fun
  | [d1, d2, d3, d4] => { results := [.lit (.bool true)], args := [d1, d2, d3, d4] }
  | _ => none }
def journalRawRow : OpenClaim := { program := "ytbladhplpceomaagreat", sum := "cfb361f61c755a10b115363df08cf1daf16f0d1194857cf1bd364025565f8c88", func := "cutroom/cutroomlaw35.JournalRaw", spec := "journalRaw", inPlace := ["math/bits.Add64", "math/bits.Sub64"], unfollowed := true, recurses := true, named := ["math/bits.divideError", "math/bits.overflowError"], apart := false }
def JournalRawSaid : Prop := journalRawRow.holds Tryz.pinned (OpenSpec.ofChange journalRawSpec)

/-- ITS FALSE NEIGHBOUR: 'it returns false'. Refute it at one input. -/
def journalRawWrong : ChangeSpec := { name := "journalRaw", fn := fun _ => fun
  | [d1, d2, d3, d4] => { results := [.lit (.bool false)], args := [d1, d2, d3, d4] }
  | _ => none }
def JournalRawWrongFalsely : Prop := journalRawRow.holds Tryz.pinned (OpenSpec.ofChange journalRawWrong)

/-- 'cutroomlaw35.JournalKeeps': WHATEVER THE INPUT: true; the input reads as it did. -/
def journalKeepsSpec : ChangeSpec := { name := "journalKeeps", fn := fun _ => fun
  | [d1, d2, d3] => { results := [.lit (.bool true)], args := [d1, d2, d3] }
  | _ => none }
def journalKeepsRow : OpenClaim := { program := "ytbladhplpceomaagreat", sum := "cfb361f61c755a10b115363df08cf1daf16f0d1194857cf1bd364025565f8c88", func := "cutroom/cutroomlaw35.JournalKeeps", spec := "journalKeeps", inPlace := ["math/bits.Add64", "math/bits.Sub64"], unfollowed := true, recurses := true, named := ["math/bits.divideError", "math/bits.overflowError"], apart := false }
def JournalKeepsSaid : Prop := journalKeepsRow.holds Tryz.pinned (OpenSpec.ofChange journalKeepsSpec)

/-- ITS FALSE NEIGHBOUR: 'it returns false'. Refute it at one input. -/
def journalKeepsWrong : ChangeSpec := { name := "journalKeeps", fn := fun _ => fun
  | [d1, d2, d3] => { results := [.lit (.bool false)], args := [d1, d2, d3] }
  | _ => none }
def JournalKeepsWrongFalsely : Prop := journalKeepsRow.holds Tryz.pinned (OpenSpec.ofChange journalKeepsWrong)

/-- 'cutroomlaw35.JournalGoesOn': WHATEVER THE INPUT: true; the input reads as it did. -/
def journalGoesOnSpec : ChangeSpec := { name := "journalGoesOn", fn := fun _ => fun
  | [d1, d2, d3] => { results := [.lit (.bool true)], args := [d1, d2, d3] }
  | _ => none }
def journalGoesOnRow : OpenClaim := { program := "ytbladhplpceomaagreat", sum := "cfb361f61c755a10b115363df08cf1daf16f0d1194857cf1bd364025565f8c88", func := "cutroom/cutroomlaw35.JournalGoesOn", spec := "journalGoesOn", inPlace := ["math/bits.Add64", "math/bits.Sub64"], unfollowed := true, recurses := true, named := ["math/bits.divideError", "math/bits.overflowError"], apart := false }
def JournalGoesOnSaid : Prop := journalGoesOnRow.holds Tryz.pinned (OpenSpec.ofChange journalGoesOnSpec)

/-- ITS FALSE NEIGHBOUR: 'it returns false'. Refute it at one input. -/
def journalGoesOnWrong : ChangeSpec := { name := "journalGoesOn", fn := fun _ => fun
  | [d1, d2, d3] => { results := [.lit (.bool false)], args := [d1, d2, d3] }
  | _ => none }
def JournalGoesOnWrongFalsely : Prop := journalGoesOnRow.holds Tryz.pinned (OpenSpec.ofChange journalGoesOnWrong)

/-- 'cutroomlaw35.JournalStates': WHATEVER THE INPUT: true; the input reads as it did. -/
def journalStatesSpec : ChangeSpec := { name := "journalStates", fn := fun _ => fun
  | [d1, d2] => { results := [.lit (.bool true)], args := [d1, d2] }
  | _ => none }
def journalStatesRow : OpenClaim := { program := "ytbladhplpceomaagreat", sum := "cfb361f61c755a10b115363df08cf1daf16f0d1194857cf1bd364025565f8c88", func := "cutroom/cutroomlaw35.JournalStates", spec := "journalStates", inPlace := ["math/bits.Add64", "math/bits.Sub64"], unfollowed := true, recurses := true, named := ["math/bits.divideError", "math/bits.overflowError"], apart := false }
def JournalStatesSaid : Prop := journalStatesRow.holds Tryz.pinned (OpenSpec.ofChange journalStatesSpec)

/-- ITS FALSE NEIGHBOUR: 'it returns false'. Refute it at one input. -/
def journalStatesWrong : ChangeSpec := { name := "journalStates", fn := fun _ => fun
  | [d1, d2] => { results := [.lit (.bool false)], args := [d1, d2] }
  | _ => none }
def JournalStatesWrongFalsely : Prop := journalStatesRow.holds Tryz.pinned (OpenSpec.ofChange journalStatesWrong)

/-- 'cutroomlaw35.JournalPrefix': WHATEVER THE INPUT: true; the input reads as it did. -/
def journalPrefixSpec : ChangeSpec := { name := "journalPrefix", fn := fun _ => fun
  | [d1, d2, d3] => { results := [.lit (.bool true)], args := [d1, d2, d3] }
  | _ => none }
def journalPrefixRow : OpenClaim := { program := "ytbladhplpceomaagreat", sum := "cfb361f61c755a10b115363df08cf1daf16f0d1194857cf1bd364025565f8c88", func := "cutroom/cutroomlaw35.JournalPrefix", spec := "journalPrefix", inPlace := ["math/bits.Add64", "math/bits.Sub64"], unfollowed := true, recurses := true, named := ["math/bits.divideError", "math/bits.overflowError"], apart := false }
def JournalPrefixSaid : Prop := journalPrefixRow.holds Tryz.pinned (OpenSpec.ofChange journalPrefixSpec)

/-- ITS FALSE NEIGHBOUR: 'it returns false'. Refute it at one input. -/
def journalPrefixWrong : ChangeSpec := { name := "journalPrefix", fn := fun _ => fun
  | [d1, d2, d3] => { results := [.lit (.bool false)], args := [d1, d2, d3] }
  | _ => none }
def JournalPrefixWrongFalsely : Prop := journalPrefixRow.holds Tryz.pinned (OpenSpec.ofChange journalPrefixWrong)

/- THE SECOND FORM. 'bulk': how many values and letters a reading holds, each counted each time it is reached (what is shared counts as often as it is met; a slice's spare places count too). A statement '..UptoSaid' is the law's where the arguments, and the package variables that the reading takes, are together of bulk at most 1048576: NARROWER than '..Said'. Prove '..Said' where nothing that the law and all that it calls make is longer than what came in: it says more and counts as full. Else prove '..UptoSaid'. A law counts once. -/
mutual
def uptoBulk {H : Type} : DataW H → Nat
  | .lit (.string bytes) => bytes.length + 1
  | .lit _ => 1
  | .nil => 1
  | .ptr d => uptoBulk d + 1
  | .slice elems spare => uptoBulkAll elems + uptoBulkAll spare + 1
  | .agg parts => uptoBulkAll parts + 1
  | .iface _ d => uptoBulk d + 1
  | .map entries => uptoBulkEntries entries + 1
  | .held _ => 1
def uptoBulkAll {H : Type} : List (DataW H) → Nat
  | [] => 0
  | d :: r => uptoBulk d + uptoBulkAll r
def uptoBulkEntries {H : Type} : List (Lit × DataW H) → Nat
  | [] => 0
  | x :: r => uptoBulkEntry x + uptoBulkEntries r
def uptoBulkEntry {H : Type} : Lit × DataW H → Nat
  | (.string bytes, d) => bytes.length + uptoBulk d + 1
  | (_, d) => uptoBulk d + 1
 end
def uptoSmall : (H : Type) → List (DataW H) → Bool := fun _ ds => decide (uptoBulkAll ds ≤ 1048576)
def OpenSpec.upto (s : _root_.Go.ChangeSpec) : _root_.Go.OpenSpec := { _root_.Go.OpenSpec.ofChange s with cond := some uptoSmall }

/-- 'cutroomlaw35.JournalSums', WHERE WHAT IT READS IS OF BULK AT MOST 1048576: true; the input reads as it did. -/
def journalSumsUptoRow : OpenClaim := { program := "ytbladhplpceomaagreat", sum := "cfb361f61c755a10b115363df08cf1daf16f0d1194857cf1bd364025565f8c88", func := "cutroom/cutroomlaw35.JournalSums", spec := "journalSums", inPlace := ["math/bits.Add64", "math/bits.Sub64"], unfollowed := true, recurses := true, named := ["math/bits.divideError", "math/bits.overflowError"], apart := false, narrowed := true }
def JournalSumsUptoSaid : Prop := journalSumsUptoRow.holds Tryz.pinned (OpenSpec.upto journalSumsSpec)

/-- 'cutroomlaw35.JournalEncodes', WHERE WHAT IT READS IS OF BULK AT MOST 1048576: true; the input reads as it did. -/
def journalEncodesUptoRow : OpenClaim := { program := "ytbladhplpceomaagreat", sum := "cfb361f61c755a10b115363df08cf1daf16f0d1194857cf1bd364025565f8c88", func := "cutroom/cutroomlaw35.JournalEncodes", spec := "journalEncodes", inPlace := ["math/bits.Add64", "math/bits.Sub64"], unfollowed := true, recurses := true, named := ["math/bits.divideError", "math/bits.overflowError"], apart := false, narrowed := true }
def JournalEncodesUptoSaid : Prop := journalEncodesUptoRow.holds Tryz.pinned (OpenSpec.upto journalEncodesSpec)

/-- 'cutroomlaw35.JournalDecodes', WHERE WHAT IT READS IS OF BULK AT MOST 1048576: true; the input reads as it did. -/
def journalDecodesUptoRow : OpenClaim := { program := "ytbladhplpceomaagreat", sum := "cfb361f61c755a10b115363df08cf1daf16f0d1194857cf1bd364025565f8c88", func := "cutroom/cutroomlaw35.JournalDecodes", spec := "journalDecodes", inPlace := ["math/bits.Add64", "math/bits.Sub64"], unfollowed := true, recurses := true, named := ["math/bits.divideError", "math/bits.overflowError"], apart := false, narrowed := true }
def JournalDecodesUptoSaid : Prop := journalDecodesUptoRow.holds Tryz.pinned (OpenSpec.upto journalDecodesSpec)

/-- 'cutroomlaw35.JournalBursts', WHERE WHAT IT READS IS OF BULK AT MOST 1048576: true; the input reads as it did. -/
def journalBurstsUptoRow : OpenClaim := { program := "ytbladhplpceomaagreat", sum := "cfb361f61c755a10b115363df08cf1daf16f0d1194857cf1bd364025565f8c88", func := "cutroom/cutroomlaw35.JournalBursts", spec := "journalBursts", inPlace := ["math/bits.Add64", "math/bits.Sub64"], unfollowed := true, recurses := true, named := ["math/bits.divideError", "math/bits.overflowError"], apart := false, narrowed := true }
def JournalBurstsUptoSaid : Prop := journalBurstsUptoRow.holds Tryz.pinned (OpenSpec.upto journalBurstsSpec)

/-- 'cutroomlaw35.JournalOpens', WHERE WHAT IT READS IS OF BULK AT MOST 1048576: true; the input reads as it did. -/
def journalOpensUptoRow : OpenClaim := { program := "ytbladhplpceomaagreat", sum := "cfb361f61c755a10b115363df08cf1daf16f0d1194857cf1bd364025565f8c88", func := "cutroom/cutroomlaw35.JournalOpens", spec := "journalOpens", inPlace := ["math/bits.Add64", "math/bits.Sub64"], unfollowed := true, recurses := true, named := ["math/bits.divideError", "math/bits.overflowError"], apart := false, narrowed := true }
def JournalOpensUptoSaid : Prop := journalOpensUptoRow.holds Tryz.pinned (OpenSpec.upto journalOpensSpec)

/-- 'cutroomlaw35.JournalHistories', WHERE WHAT IT READS IS OF BULK AT MOST 1048576: true; the input reads as it did. -/
def journalHistoriesUptoRow : OpenClaim := { program := "ytbladhplpceomaagreat", sum := "cfb361f61c755a10b115363df08cf1daf16f0d1194857cf1bd364025565f8c88", func := "cutroom/cutroomlaw35.JournalHistories", spec := "journalHistories", inPlace := ["math/bits.Add64", "math/bits.Sub64"], unfollowed := true, recurses := true, named := ["math/bits.divideError", "math/bits.overflowError"], apart := false, narrowed := true }
def JournalHistoriesUptoSaid : Prop := journalHistoriesUptoRow.holds Tryz.pinned (OpenSpec.upto journalHistoriesSpec)

/-- 'cutroomlaw35.JournalRaw', WHERE WHAT IT READS IS OF BULK AT MOST 1048576: true; the input reads as it did. -/
def journalRawUptoRow : OpenClaim := { program := "ytbladhplpceomaagreat", sum := "cfb361f61c755a10b115363df08cf1daf16f0d1194857cf1bd364025565f8c88", func := "cutroom/cutroomlaw35.JournalRaw", spec := "journalRaw", inPlace := ["math/bits.Add64", "math/bits.Sub64"], unfollowed := true, recurses := true, named := ["math/bits.divideError", "math/bits.overflowError"], apart := false, narrowed := true }
def JournalRawUptoSaid : Prop := journalRawUptoRow.holds Tryz.pinned (OpenSpec.upto journalRawSpec)

/-- 'cutroomlaw35.JournalKeeps', WHERE WHAT IT READS IS OF BULK AT MOST 1048576: true; the input reads as it did. -/
def journalKeepsUptoRow : OpenClaim := { program := "ytbladhplpceomaagreat", sum := "cfb361f61c755a10b115363df08cf1daf16f0d1194857cf1bd364025565f8c88", func := "cutroom/cutroomlaw35.JournalKeeps", spec := "journalKeeps", inPlace := ["math/bits.Add64", "math/bits.Sub64"], unfollowed := true, recurses := true, named := ["math/bits.divideError", "math/bits.overflowError"], apart := false, narrowed := true }
def JournalKeepsUptoSaid : Prop := journalKeepsUptoRow.holds Tryz.pinned (OpenSpec.upto journalKeepsSpec)

/-- 'cutroomlaw35.JournalGoesOn', WHERE WHAT IT READS IS OF BULK AT MOST 1048576: true; the input reads as it did. -/
def journalGoesOnUptoRow : OpenClaim := { program := "ytbladhplpceomaagreat", sum := "cfb361f61c755a10b115363df08cf1daf16f0d1194857cf1bd364025565f8c88", func := "cutroom/cutroomlaw35.JournalGoesOn", spec := "journalGoesOn", inPlace := ["math/bits.Add64", "math/bits.Sub64"], unfollowed := true, recurses := true, named := ["math/bits.divideError", "math/bits.overflowError"], apart := false, narrowed := true }
def JournalGoesOnUptoSaid : Prop := journalGoesOnUptoRow.holds Tryz.pinned (OpenSpec.upto journalGoesOnSpec)

/-- 'cutroomlaw35.JournalStates', WHERE WHAT IT READS IS OF BULK AT MOST 1048576: true; the input reads as it did. -/
def journalStatesUptoRow : OpenClaim := { program := "ytbladhplpceomaagreat", sum := "cfb361f61c755a10b115363df08cf1daf16f0d1194857cf1bd364025565f8c88", func := "cutroom/cutroomlaw35.JournalStates", spec := "journalStates", inPlace := ["math/bits.Add64", "math/bits.Sub64"], unfollowed := true, recurses := true, named := ["math/bits.divideError", "math/bits.overflowError"], apart := false, narrowed := true }
def JournalStatesUptoSaid : Prop := journalStatesUptoRow.holds Tryz.pinned (OpenSpec.upto journalStatesSpec)

/-- 'cutroomlaw35.JournalPrefix', WHERE WHAT IT READS IS OF BULK AT MOST 1048576: true; the input reads as it did. -/
def journalPrefixUptoRow : OpenClaim := { program := "ytbladhplpceomaagreat", sum := "cfb361f61c755a10b115363df08cf1daf16f0d1194857cf1bd364025565f8c88", func := "cutroom/cutroomlaw35.JournalPrefix", spec := "journalPrefix", inPlace := ["math/bits.Add64", "math/bits.Sub64"], unfollowed := true, recurses := true, named := ["math/bits.divideError", "math/bits.overflowError"], apart := false, narrowed := true }
def JournalPrefixUptoSaid : Prop := journalPrefixUptoRow.holds Tryz.pinned (OpenSpec.upto journalPrefixSpec)

end Rows
end Go.Proofs.YtbladhplpceomaaGreat
