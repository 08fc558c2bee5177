/-
  No cell of these rows narrows 'for every input' (looked for: loops, veiled, ifaces, maps, wideKeys, modest, calm, conditions, laid).
  DERIVED. THE GIVEN ROWS OF THIS SEAT. 3 by the template 'for every input the law returns true; each argument reads behind the call as it read before'; 0 by the template 'total and deterministic' (their statements: YtgghbmhmpkeccaaTotals.lean).
  GIVEN WITH THE SEED: the statements are not yours to turn. If you find one false, say at which input.
  Laid BY PROGRAM, IN A SANDBOX (cutbox-rows.mjs): the forced cells as the released guide's own fill.sh prints them over the translation 981922c725a6b797… (all of the seat's roots in one cut). By AI agents, Wed Nov 11 2026. No macro, syntax, notation, axiom, sorry.
-/
import Derived.Test.YtgghbmhmpkeccaaChecked
import GoSem.Claim
import GoSem.ClaimJoined
import GoSem.ClaimMapViews
import Derived.JoinedTies
import Derived.KernelRfl
namespace Go.Proofs.Ytgghbmhmpkeccaa
/- THE CELL 'sum', in the pinned program and in every row, IS THE sha256 OF THE DUMP (.gsa) THAT YtgghbmhmpkeccaaProg.lean LOADS. Nothing in Lean hashes anything: it is a label: what it is worth is what the hold of that sum in a sandbox is worth. -/
noncomputable def Try.pinned : Pinned := { name := "ytgghbmhmpkeccaa", sum := "981922c725a6b79796c67843d6d10cc0e332ad1b24336c22c8b7c6f7ac2e6f55", checked := Try.checked }
namespace Rows
def none {H : Type} : Left H := { results := [], args := [] }

/-- 'purflinglaw16.HeightsLeast': WHATEVER THE INPUT: true; the input reads as it did. -/
def heightsLeastSpec : ChangeSpec := { name := "heightsLeast", fn := fun _ => fun
  | [d1, d2, d3, d4] => { results := [.lit (.bool true)], args := [d1, d2, d3, d4] }
  | _ => none }
def heightsLeastRow : OpenClaim := { program := "ytgghbmhmpkeccaa", sum := "981922c725a6b79796c67843d6d10cc0e332ad1b24336c22c8b7c6f7ac2e6f55", func := "purfling/purflinglaw16.HeightsLeast", spec := "heightsLeast", unfollowed := true, recurses := true, named := ["math/bits.divideError", "math/bits.overflowError"], apart := false }
def HeightsLeastSaid : Prop := heightsLeastRow.holds Try.pinned (OpenSpec.ofChange heightsLeastSpec)

/-- ITS FALSE NEIGHBOUR: 'it returns false'. Refute it at one input. -/
def heightsLeastWrong : ChangeSpec := { name := "heightsLeast", fn := fun _ => fun
  | [d1, d2, d3, d4] => { results := [.lit (.bool false)], args := [d1, d2, d3, d4] }
  | _ => none }
def HeightsLeastWrongFalsely : Prop := heightsLeastRow.holds Try.pinned (OpenSpec.ofChange heightsLeastWrong)

/-- 'purflinglaw16.HeightsStretch': WHATEVER THE INPUT: true; the input reads as it did. -/
def heightsStretchSpec : ChangeSpec := { name := "heightsStretch", fn := fun _ => fun
  | [d1, d2, d3] => { results := [.lit (.bool true)], args := [d1, d2, d3] }
  | _ => none }
def heightsStretchRow : OpenClaim := { program := "ytgghbmhmpkeccaa", sum := "981922c725a6b79796c67843d6d10cc0e332ad1b24336c22c8b7c6f7ac2e6f55", func := "purfling/purflinglaw16.HeightsStretch", spec := "heightsStretch", unfollowed := true, recurses := true, named := ["math/bits.divideError", "math/bits.overflowError"], apart := false }
def HeightsStretchSaid : Prop := heightsStretchRow.holds Try.pinned (OpenSpec.ofChange heightsStretchSpec)

/-- ITS FALSE NEIGHBOUR: 'it returns false'. Refute it at one input. -/
def heightsStretchWrong : ChangeSpec := { name := "heightsStretch", fn := fun _ => fun
  | [d1, d2, d3] => { results := [.lit (.bool false)], args := [d1, d2, d3] }
  | _ => none }
def HeightsStretchWrongFalsely : Prop := heightsStretchRow.holds Try.pinned (OpenSpec.ofChange heightsStretchWrong)

/-- 'purflinglaw16.HeightsMore': WHATEVER THE INPUT: true; the input reads as it did. -/
def heightsMoreSpec : ChangeSpec := { name := "heightsMore", fn := fun _ => fun
  | [d1, d2, d3, d4] => { results := [.lit (.bool true)], args := [d1, d2, d3, d4] }
  | _ => none }
def heightsMoreRow : OpenClaim := { program := "ytgghbmhmpkeccaa", sum := "981922c725a6b79796c67843d6d10cc0e332ad1b24336c22c8b7c6f7ac2e6f55", func := "purfling/purflinglaw16.HeightsMore", spec := "heightsMore", unfollowed := true, recurses := true, named := ["math/bits.divideError", "math/bits.overflowError"], apart := false }
def HeightsMoreSaid : Prop := heightsMoreRow.holds Try.pinned (OpenSpec.ofChange heightsMoreSpec)

/-- ITS FALSE NEIGHBOUR: 'it returns false'. Refute it at one input. -/
def heightsMoreWrong : ChangeSpec := { name := "heightsMore", fn := fun _ => fun
  | [d1, d2, d3, d4] => { results := [.lit (.bool false)], args := [d1, d2, d3, d4] }
  | _ => none }
def HeightsMoreWrongFalsely : Prop := heightsMoreRow.holds Try.pinned (OpenSpec.ofChange heightsMoreWrong)

/- THE SECOND FORM. 'bulk': how many values and letters a reading holds, each counted each time it is reached (what is shared counts as often as it is met; a slice's spare places count too). A statement '..UptoSaid' is the law's where the arguments, and the package variables that the reading takes, are together of bulk at most 1048576: NARROWER than '..Said'. Prove '..Said' where nothing that the law and all that it calls make is longer than what came in: it says more and counts as full. Else prove '..UptoSaid'. A law counts once. -/
mutual
def uptoBulk {H : Type} : DataW H → Nat
  | .lit (.string bytes) => bytes.length + 1
  | .lit _ => 1
  | .nil => 1
  | .ptr d => uptoBulk d + 1
  | .slice elems spare => uptoBulkAll elems + uptoBulkAll spare + 1
  | .agg parts => uptoBulkAll parts + 1
  | .iface _ d => uptoBulk d + 1
  | .map entries => uptoBulkEntries entries + 1
  | .held _ => 1
def uptoBulkAll {H : Type} : List (DataW H) → Nat
  | [] => 0
  | d :: r => uptoBulk d + uptoBulkAll r
def uptoBulkEntries {H : Type} : List (Lit × DataW H) → Nat
  | [] => 0
  | x :: r => uptoBulkEntry x + uptoBulkEntries r
def uptoBulkEntry {H : Type} : Lit × DataW H → Nat
  | (.string bytes, d) => bytes.length + uptoBulk d + 1
  | (_, d) => uptoBulk d + 1
 end
def uptoSmall : (H : Type) → List (DataW H) → Bool := fun _ ds => decide (uptoBulkAll ds ≤ 1048576)
def OpenSpec.upto (s : _root_.Go.ChangeSpec) : _root_.Go.OpenSpec := { _root_.Go.OpenSpec.ofChange s with cond := some uptoSmall }

/-- 'purflinglaw16.HeightsLeast', WHERE WHAT IT READS IS OF BULK AT MOST 1048576: true; the input reads as it did. -/
def heightsLeastUptoRow : OpenClaim := { program := "ytgghbmhmpkeccaa", sum := "981922c725a6b79796c67843d6d10cc0e332ad1b24336c22c8b7c6f7ac2e6f55", func := "purfling/purflinglaw16.HeightsLeast", spec := "heightsLeast", unfollowed := true, recurses := true, named := ["math/bits.divideError", "math/bits.overflowError"], apart := false, narrowed := true }
def HeightsLeastUptoSaid : Prop := heightsLeastUptoRow.holds Try.pinned (OpenSpec.upto heightsLeastSpec)

/-- 'purflinglaw16.HeightsStretch', WHERE WHAT IT READS IS OF BULK AT MOST 1048576: true; the input reads as it did. -/
def heightsStretchUptoRow : OpenClaim := { program := "ytgghbmhmpkeccaa", sum := "981922c725a6b79796c67843d6d10cc0e332ad1b24336c22c8b7c6f7ac2e6f55", func := "purfling/purflinglaw16.HeightsStretch", spec := "heightsStretch", unfollowed := true, recurses := true, named := ["math/bits.divideError", "math/bits.overflowError"], apart := false, narrowed := true }
def HeightsStretchUptoSaid : Prop := heightsStretchUptoRow.holds Try.pinned (OpenSpec.upto heightsStretchSpec)

/-- 'purflinglaw16.HeightsMore', WHERE WHAT IT READS IS OF BULK AT MOST 1048576: true; the input reads as it did. -/
def heightsMoreUptoRow : OpenClaim := { program := "ytgghbmhmpkeccaa", sum := "981922c725a6b79796c67843d6d10cc0e332ad1b24336c22c8b7c6f7ac2e6f55", func := "purfling/purflinglaw16.HeightsMore", spec := "heightsMore", unfollowed := true, recurses := true, named := ["math/bits.divideError", "math/bits.overflowError"], apart := false, narrowed := true }
def HeightsMoreUptoSaid : Prop := heightsMoreUptoRow.holds Try.pinned (OpenSpec.upto heightsMoreSpec)

end Rows
end Go.Proofs.Ytgghbmhmpkeccaa
