/-
  No cell of these rows narrows 'for every input' (looked for: loops, veiled, ifaces, maps, wideKeys, modest, calm, conditions, laid).
  DERIVED. THE GIVEN ROWS OF THIS SEAT. 8 by the template 'for every input the law returns true; each argument reads behind the call as it read before'; 0 by the template 'total and deterministic' (their statements: YtoblfbpigajjcaaTotals.lean).
  GIVEN WITH THE SEED: the statements are not yours to turn. If you find one false, say at which input.
  Laid BY PROGRAM, IN A SANDBOX (cutbox-rows.mjs): the forced cells as the released guide's own fill.sh prints them over the translation c486f2308d6978ef… (all of the seat's roots in one cut). By AI agents, Wed Nov 11 2026. No macro, syntax, notation, axiom, sorry.
-/
import Derived.Test.YtoblfbpigajjcaaChecked
import GoSem.Claim
import GoSem.ClaimJoined
import GoSem.ClaimMapViews
import Derived.JoinedTies
import Derived.KernelRfl
namespace Go.Proofs.Ytoblfbpigajjcaa
/- THE CELL 'sum', in the pinned program and in every row, IS THE sha256 OF THE DUMP (.gsa) THAT YtoblfbpigajjcaaProg.lean LOADS. Nothing in Lean hashes anything: it is a label: what it is worth is what the hold of that sum in a sandbox is worth. -/
noncomputable def Try.pinned : Pinned := { name := "ytoblfbpigajjcaa", sum := "c486f2308d6978ef0271e57a9f91a592a34c664775bb8afcd2b0fb7224f6bdd2", checked := Try.checked }
namespace Rows
def none {H : Type} : Left H := { results := [], args := [] }

/-- 'purflinglaw01.FixedShares': WHATEVER THE INPUT: true; the input reads as it did. -/
def fixedSharesSpec : ChangeSpec := { name := "fixedShares", fn := fun _ => fun
  | [d1, d2] => { results := [.lit (.bool true)], args := [d1, d2] }
  | _ => none }
def fixedSharesRow : OpenClaim := { program := "ytoblfbpigajjcaa", sum := "c486f2308d6978ef0271e57a9f91a592a34c664775bb8afcd2b0fb7224f6bdd2", func := "purfling/purflinglaw01.FixedShares", spec := "fixedShares", unfollowed := true, recurses := true, named := ["math/bits.divideError", "math/bits.overflowError"], apart := false }
def FixedSharesSaid : Prop := fixedSharesRow.holds Try.pinned (OpenSpec.ofChange fixedSharesSpec)

/-- ITS FALSE NEIGHBOUR: 'it returns false'. Refute it at one input. -/
def fixedSharesWrong : ChangeSpec := { name := "fixedShares", fn := fun _ => fun
  | [d1, d2] => { results := [.lit (.bool false)], args := [d1, d2] }
  | _ => none }
def FixedSharesWrongFalsely : Prop := fixedSharesRow.holds Try.pinned (OpenSpec.ofChange fixedSharesWrong)

/-- 'purflinglaw01.FixedEvens': WHATEVER THE INPUT: true; the input reads as it did. -/
def fixedEvensSpec : ChangeSpec := { name := "fixedEvens", fn := fun _ => fun
  | [d1, d2] => { results := [.lit (.bool true)], args := [d1, d2] }
  | _ => none }
def fixedEvensRow : OpenClaim := { program := "ytoblfbpigajjcaa", sum := "c486f2308d6978ef0271e57a9f91a592a34c664775bb8afcd2b0fb7224f6bdd2", func := "purfling/purflinglaw01.FixedEvens", spec := "fixedEvens", unfollowed := true, recurses := true, named := ["math/bits.divideError", "math/bits.overflowError"], apart := false }
def FixedEvensSaid : Prop := fixedEvensRow.holds Try.pinned (OpenSpec.ofChange fixedEvensSpec)

/-- ITS FALSE NEIGHBOUR: 'it returns false'. Refute it at one input. -/
def fixedEvensWrong : ChangeSpec := { name := "fixedEvens", fn := fun _ => fun
  | [d1, d2] => { results := [.lit (.bool false)], args := [d1, d2] }
  | _ => none }
def FixedEvensWrongFalsely : Prop := fixedEvensRow.holds Try.pinned (OpenSpec.ofChange fixedEvensWrong)

/-- 'purflinglaw01.FixedAdds': WHATEVER THE INPUT: true; the input reads as it did. -/
def fixedAddsSpec : ChangeSpec := { name := "fixedAdds", fn := fun _ => fun
  | [d1, d2] => { results := [.lit (.bool true)], args := [d1, d2] }
  | _ => none }
def fixedAddsRow : OpenClaim := { program := "ytoblfbpigajjcaa", sum := "c486f2308d6978ef0271e57a9f91a592a34c664775bb8afcd2b0fb7224f6bdd2", func := "purfling/purflinglaw01.FixedAdds", spec := "fixedAdds", unfollowed := true, recurses := true, named := ["math/bits.divideError", "math/bits.overflowError"], apart := false }
def FixedAddsSaid : Prop := fixedAddsRow.holds Try.pinned (OpenSpec.ofChange fixedAddsSpec)

/-- ITS FALSE NEIGHBOUR: 'it returns false'. Refute it at one input. -/
def fixedAddsWrong : ChangeSpec := { name := "fixedAdds", fn := fun _ => fun
  | [d1, d2] => { results := [.lit (.bool false)], args := [d1, d2] }
  | _ => none }
def FixedAddsWrongFalsely : Prop := fixedAddsRow.holds Try.pinned (OpenSpec.ofChange fixedAddsWrong)

/-- 'purflinglaw01.FixedParts': WHATEVER THE INPUT: true; the input reads as it did. -/
def fixedPartsSpec : ChangeSpec := { name := "fixedParts", fn := fun _ => fun
  | [d1, d2, d3] => { results := [.lit (.bool true)], args := [d1, d2, d3] }
  | _ => none }
def fixedPartsRow : OpenClaim := { program := "ytoblfbpigajjcaa", sum := "c486f2308d6978ef0271e57a9f91a592a34c664775bb8afcd2b0fb7224f6bdd2", func := "purfling/purflinglaw01.FixedParts", spec := "fixedParts", unfollowed := true, recurses := true, named := ["math/bits.divideError", "math/bits.overflowError"], apart := false }
def FixedPartsSaid : Prop := fixedPartsRow.holds Try.pinned (OpenSpec.ofChange fixedPartsSpec)

/-- ITS FALSE NEIGHBOUR: 'it returns false'. Refute it at one input. -/
def fixedPartsWrong : ChangeSpec := { name := "fixedParts", fn := fun _ => fun
  | [d1, d2, d3] => { results := [.lit (.bool false)], args := [d1, d2, d3] }
  | _ => none }
def FixedPartsWrongFalsely : Prop := fixedPartsRow.holds Try.pinned (OpenSpec.ofChange fixedPartsWrong)

/-- 'purflinglaw01.FixedMany': WHATEVER THE INPUT: true; the input reads as it did. -/
def fixedManySpec : ChangeSpec := { name := "fixedMany", fn := fun _ => fun
  | [d] => { results := [.lit (.bool true)], args := [d] }
  | _ => none }
def fixedManyRow : OpenClaim := { program := "ytoblfbpigajjcaa", sum := "c486f2308d6978ef0271e57a9f91a592a34c664775bb8afcd2b0fb7224f6bdd2", func := "purfling/purflinglaw01.FixedMany", spec := "fixedMany", unfollowed := true, recurses := true, named := ["math/bits.divideError", "math/bits.overflowError"], apart := false }
def FixedManySaid : Prop := fixedManyRow.holds Try.pinned (OpenSpec.ofChange fixedManySpec)

/-- ITS FALSE NEIGHBOUR: 'it returns false'. Refute it at one input. -/
def fixedManyWrong : ChangeSpec := { name := "fixedMany", fn := fun _ => fun
  | [d] => { results := [.lit (.bool false)], args := [d] }
  | _ => none }
def FixedManyWrongFalsely : Prop := fixedManyRow.holds Try.pinned (OpenSpec.ofChange fixedManyWrong)

/-- 'purflinglaw01.FixedEqual': WHATEVER THE INPUT: true; the input reads as it did. -/
def fixedEqualSpec : ChangeSpec := { name := "fixedEqual", fn := fun _ => fun
  | [d1, d2, d3] => { results := [.lit (.bool true)], args := [d1, d2, d3] }
  | _ => none }
def fixedEqualRow : OpenClaim := { program := "ytoblfbpigajjcaa", sum := "c486f2308d6978ef0271e57a9f91a592a34c664775bb8afcd2b0fb7224f6bdd2", func := "purfling/purflinglaw01.FixedEqual", spec := "fixedEqual", unfollowed := true, recurses := true, named := ["math/bits.divideError", "math/bits.overflowError"], apart := false }
def FixedEqualSaid : Prop := fixedEqualRow.holds Try.pinned (OpenSpec.ofChange fixedEqualSpec)

/-- ITS FALSE NEIGHBOUR: 'it returns false'. Refute it at one input. -/
def fixedEqualWrong : ChangeSpec := { name := "fixedEqual", fn := fun _ => fun
  | [d1, d2, d3] => { results := [.lit (.bool false)], args := [d1, d2, d3] }
  | _ => none }
def FixedEqualWrongFalsely : Prop := fixedEqualRow.holds Try.pinned (OpenSpec.ofChange fixedEqualWrong)

/-- 'purflinglaw01.FixedTurns': WHATEVER THE INPUT: true; the input reads as it did. -/
def fixedTurnsSpec : ChangeSpec := { name := "fixedTurns", fn := fun _ => fun
  | [d1, d2] => { results := [.lit (.bool true)], args := [d1, d2] }
  | _ => none }
def fixedTurnsRow : OpenClaim := { program := "ytoblfbpigajjcaa", sum := "c486f2308d6978ef0271e57a9f91a592a34c664775bb8afcd2b0fb7224f6bdd2", func := "purfling/purflinglaw01.FixedTurns", spec := "fixedTurns", unfollowed := true, recurses := true, named := ["math/bits.divideError", "math/bits.overflowError"], apart := false }
def FixedTurnsSaid : Prop := fixedTurnsRow.holds Try.pinned (OpenSpec.ofChange fixedTurnsSpec)

/-- ITS FALSE NEIGHBOUR: 'it returns false'. Refute it at one input. -/
def fixedTurnsWrong : ChangeSpec := { name := "fixedTurns", fn := fun _ => fun
  | [d1, d2] => { results := [.lit (.bool false)], args := [d1, d2] }
  | _ => none }
def FixedTurnsWrongFalsely : Prop := fixedTurnsRow.holds Try.pinned (OpenSpec.ofChange fixedTurnsWrong)

/-- 'purflinglaw01.FixedSums': WHATEVER THE INPUT: true; the input reads as it did. -/
def fixedSumsSpec : ChangeSpec := { name := "fixedSums", fn := fun _ => fun
  | [d1, d2, d3, d4] => { results := [.lit (.bool true)], args := [d1, d2, d3, d4] }
  | _ => none }
def fixedSumsRow : OpenClaim := { program := "ytoblfbpigajjcaa", sum := "c486f2308d6978ef0271e57a9f91a592a34c664775bb8afcd2b0fb7224f6bdd2", func := "purfling/purflinglaw01.FixedSums", spec := "fixedSums", unfollowed := true, recurses := true, named := ["math/bits.divideError", "math/bits.overflowError"], apart := false }
def FixedSumsSaid : Prop := fixedSumsRow.holds Try.pinned (OpenSpec.ofChange fixedSumsSpec)

/-- ITS FALSE NEIGHBOUR: 'it returns false'. Refute it at one input. -/
def fixedSumsWrong : ChangeSpec := { name := "fixedSums", fn := fun _ => fun
  | [d1, d2, d3, d4] => { results := [.lit (.bool false)], args := [d1, d2, d3, d4] }
  | _ => none }
def FixedSumsWrongFalsely : Prop := fixedSumsRow.holds Try.pinned (OpenSpec.ofChange fixedSumsWrong)

/- THE SECOND FORM. 'bulk': how many values and letters a reading holds, each counted each time it is reached (what is shared counts as often as it is met; a slice's spare places count too). A statement '..UptoSaid' is the law's where the arguments, and the package variables that the reading takes, are together of bulk at most 1048576: NARROWER than '..Said'. Prove '..Said' where nothing that the law and all that it calls make is longer than what came in: it says more and counts as full. Else prove '..UptoSaid'. A law counts once. -/
mutual
def uptoBulk {H : Type} : DataW H → Nat
  | .lit (.string bytes) => bytes.length + 1
  | .lit _ => 1
  | .nil => 1
  | .ptr d => uptoBulk d + 1
  | .slice elems spare => uptoBulkAll elems + uptoBulkAll spare + 1
  | .agg parts => uptoBulkAll parts + 1
  | .iface _ d => uptoBulk d + 1
  | .map entries => uptoBulkEntries entries + 1
  | .held _ => 1
def uptoBulkAll {H : Type} : List (DataW H) → Nat
  | [] => 0
  | d :: r => uptoBulk d + uptoBulkAll r
def uptoBulkEntries {H : Type} : List (Lit × DataW H) → Nat
  | [] => 0
  | x :: r => uptoBulkEntry x + uptoBulkEntries r
def uptoBulkEntry {H : Type} : Lit × DataW H → Nat
  | (.string bytes, d) => bytes.length + uptoBulk d + 1
  | (_, d) => uptoBulk d + 1
 end
def uptoSmall : (H : Type) → List (DataW H) → Bool := fun _ ds => decide (uptoBulkAll ds ≤ 1048576)
def OpenSpec.upto (s : _root_.Go.ChangeSpec) : _root_.Go.OpenSpec := { _root_.Go.OpenSpec.ofChange s with cond := some uptoSmall }

/-- 'purflinglaw01.FixedShares', WHERE WHAT IT READS IS OF BULK AT MOST 1048576: true; the input reads as it did. -/
def fixedSharesUptoRow : OpenClaim := { program := "ytoblfbpigajjcaa", sum := "c486f2308d6978ef0271e57a9f91a592a34c664775bb8afcd2b0fb7224f6bdd2", func := "purfling/purflinglaw01.FixedShares", spec := "fixedShares", unfollowed := true, recurses := true, named := ["math/bits.divideError", "math/bits.overflowError"], apart := false, narrowed := true }
def FixedSharesUptoSaid : Prop := fixedSharesUptoRow.holds Try.pinned (OpenSpec.upto fixedSharesSpec)

/-- 'purflinglaw01.FixedEvens', WHERE WHAT IT READS IS OF BULK AT MOST 1048576: true; the input reads as it did. -/
def fixedEvensUptoRow : OpenClaim := { program := "ytoblfbpigajjcaa", sum := "c486f2308d6978ef0271e57a9f91a592a34c664775bb8afcd2b0fb7224f6bdd2", func := "purfling/purflinglaw01.FixedEvens", spec := "fixedEvens", unfollowed := true, recurses := true, named := ["math/bits.divideError", "math/bits.overflowError"], apart := false, narrowed := true }
def FixedEvensUptoSaid : Prop := fixedEvensUptoRow.holds Try.pinned (OpenSpec.upto fixedEvensSpec)

/-- 'purflinglaw01.FixedAdds', WHERE WHAT IT READS IS OF BULK AT MOST 1048576: true; the input reads as it did. -/
def fixedAddsUptoRow : OpenClaim := { program := "ytoblfbpigajjcaa", sum := "c486f2308d6978ef0271e57a9f91a592a34c664775bb8afcd2b0fb7224f6bdd2", func := "purfling/purflinglaw01.FixedAdds", spec := "fixedAdds", unfollowed := true, recurses := true, named := ["math/bits.divideError", "math/bits.overflowError"], apart := false, narrowed := true }
def FixedAddsUptoSaid : Prop := fixedAddsUptoRow.holds Try.pinned (OpenSpec.upto fixedAddsSpec)

/-- 'purflinglaw01.FixedParts', WHERE WHAT IT READS IS OF BULK AT MOST 1048576: true; the input reads as it did. -/
def fixedPartsUptoRow : OpenClaim := { program := "ytoblfbpigajjcaa", sum := "c486f2308d6978ef0271e57a9f91a592a34c664775bb8afcd2b0fb7224f6bdd2", func := "purfling/purflinglaw01.FixedParts", spec := "fixedParts", unfollowed := true, recurses := true, named := ["math/bits.divideError", "math/bits.overflowError"], apart := false, narrowed := true }
def FixedPartsUptoSaid : Prop := fixedPartsUptoRow.holds Try.pinned (OpenSpec.upto fixedPartsSpec)

/-- 'purflinglaw01.FixedMany', WHERE WHAT IT READS IS OF BULK AT MOST 1048576: true; the input reads as it did. -/
def fixedManyUptoRow : OpenClaim := { program := "ytoblfbpigajjcaa", sum := "c486f2308d6978ef0271e57a9f91a592a34c664775bb8afcd2b0fb7224f6bdd2", func := "purfling/purflinglaw01.FixedMany", spec := "fixedMany", unfollowed := true, recurses := true, named := ["math/bits.divideError", "math/bits.overflowError"], apart := false, narrowed := true }
def FixedManyUptoSaid : Prop := fixedManyUptoRow.holds Try.pinned (OpenSpec.upto fixedManySpec)

/-- 'purflinglaw01.FixedEqual', WHERE WHAT IT READS IS OF BULK AT MOST 1048576: true; the input reads as it did. -/
def fixedEqualUptoRow : OpenClaim := { program := "ytoblfbpigajjcaa", sum := "c486f2308d6978ef0271e57a9f91a592a34c664775bb8afcd2b0fb7224f6bdd2", func := "purfling/purflinglaw01.FixedEqual", spec := "fixedEqual", unfollowed := true, recurses := true, named := ["math/bits.divideError", "math/bits.overflowError"], apart := false, narrowed := true }
def FixedEqualUptoSaid : Prop := fixedEqualUptoRow.holds Try.pinned (OpenSpec.upto fixedEqualSpec)

/-- 'purflinglaw01.FixedTurns', WHERE WHAT IT READS IS OF BULK AT MOST 1048576: true; the input reads as it did. -/
def fixedTurnsUptoRow : OpenClaim := { program := "ytoblfbpigajjcaa", sum := "c486f2308d6978ef0271e57a9f91a592a34c664775bb8afcd2b0fb7224f6bdd2", func := "purfling/purflinglaw01.FixedTurns", spec := "fixedTurns", unfollowed := true, recurses := true, named := ["math/bits.divideError", "math/bits.overflowError"], apart := false, narrowed := true }
def FixedTurnsUptoSaid : Prop := fixedTurnsUptoRow.holds Try.pinned (OpenSpec.upto fixedTurnsSpec)

/-- 'purflinglaw01.FixedSums', WHERE WHAT IT READS IS OF BULK AT MOST 1048576: true; the input reads as it did. -/
def fixedSumsUptoRow : OpenClaim := { program := "ytoblfbpigajjcaa", sum := "c486f2308d6978ef0271e57a9f91a592a34c664775bb8afcd2b0fb7224f6bdd2", func := "purfling/purflinglaw01.FixedSums", spec := "fixedSums", unfollowed := true, recurses := true, named := ["math/bits.divideError", "math/bits.overflowError"], apart := false, narrowed := true }
def FixedSumsUptoSaid : Prop := fixedSumsUptoRow.holds Try.pinned (OpenSpec.upto fixedSumsSpec)

end Rows
end Go.Proofs.Ytoblfbpigajjcaa
