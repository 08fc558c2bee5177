/-
  No cell of these rows narrows 'for every input' (looked for: loops, veiled, ifaces, maps, wideKeys, modest, calm, conditions, laid).
  DERIVED. THE GIVEN ROWS OF THIS SEAT. 12 by the template 'for every input the law returns true; each argument reads behind the call as it read before'; 0 by the template 'total and deterministic' (their statements: YtilfgmclhoidiaaTotals.lean).
  GIVEN WITH THE SEED: the statements are not yours to turn. If you find one false, say at which input.
  Laid BY PROGRAM, IN A SANDBOX (cutbox-rows.mjs): the forced cells as the released guide's own fill.sh prints them over the translation b1ecad727a8f8179… (all of the seat's roots in one cut). By AI agents, Wed Nov 11 2026. No macro, syntax, notation, axiom, sorry.
-/
import Derived.Test.YtilfgmclhoidiaaChecked
import GoSem.Claim
import GoSem.ClaimJoined
import GoSem.ClaimMapViews
import Derived.JoinedTies
import Derived.KernelRfl
namespace Go.Proofs.Ytilfgmclhoidiaa
/- THE CELL 'sum', in the pinned program and in every row, IS THE sha256 OF THE DUMP (.gsa) THAT YtilfgmclhoidiaaProg.lean LOADS. Nothing in Lean hashes anything: it is a label: what it is worth is what the hold of that sum in a sandbox is worth. -/
noncomputable def Try.pinned : Pinned := { name := "ytilfgmclhoidiaa", sum := "b1ecad727a8f81791a6dfb3c7a6b44ff0fcf844e2f48b5241059bbd6913785d7", checked := Try.checked }
namespace Rows
def none {H : Type} : Left H := { results := [], args := [] }

/-- 'purflinglaw15.WidthsAuto': WHATEVER THE INPUT: true; the input reads as it did. -/
def widthsAutoSpec : ChangeSpec := { name := "widthsAuto", fn := fun _ => fun
  | [d1, d2] => { results := [.lit (.bool true)], args := [d1, d2] }
  | _ => none }
def widthsAutoRow : OpenClaim := { program := "ytilfgmclhoidiaa", sum := "b1ecad727a8f81791a6dfb3c7a6b44ff0fcf844e2f48b5241059bbd6913785d7", func := "purfling/purflinglaw15.WidthsAuto", spec := "widthsAuto", unfollowed := true, recurses := true, named := ["math/bits.divideError", "math/bits.overflowError"], apart := false }
def WidthsAutoSaid : Prop := widthsAutoRow.holds Try.pinned (OpenSpec.ofChange widthsAutoSpec)

/-- ITS FALSE NEIGHBOUR: 'it returns false'. Refute it at one input. -/
def widthsAutoWrong : ChangeSpec := { name := "widthsAuto", fn := fun _ => fun
  | [d1, d2] => { results := [.lit (.bool false)], args := [d1, d2] }
  | _ => none }
def WidthsAutoWrongFalsely : Prop := widthsAutoRow.holds Try.pinned (OpenSpec.ofChange widthsAutoWrong)

/-- 'purflinglaw15.WidthsAdd': WHATEVER THE INPUT: true; the input reads as it did. -/
def widthsAddSpec : ChangeSpec := { name := "widthsAdd", fn := fun _ => fun
  | [d1, d2] => { results := [.lit (.bool true)], args := [d1, d2] }
  | _ => none }
def widthsAddRow : OpenClaim := { program := "ytilfgmclhoidiaa", sum := "b1ecad727a8f81791a6dfb3c7a6b44ff0fcf844e2f48b5241059bbd6913785d7", func := "purfling/purflinglaw15.WidthsAdd", spec := "widthsAdd", unfollowed := true, recurses := true, named := ["math/bits.divideError", "math/bits.overflowError"], apart := false }
def WidthsAddSaid : Prop := widthsAddRow.holds Try.pinned (OpenSpec.ofChange widthsAddSpec)

/-- ITS FALSE NEIGHBOUR: 'it returns false'. Refute it at one input. -/
def widthsAddWrong : ChangeSpec := { name := "widthsAdd", fn := fun _ => fun
  | [d1, d2] => { results := [.lit (.bool false)], args := [d1, d2] }
  | _ => none }
def WidthsAddWrongFalsely : Prop := widthsAddRow.holds Try.pinned (OpenSpec.ofChange widthsAddWrong)

/-- 'purflinglaw15.WidthsRigid': WHATEVER THE INPUT: true; the input reads as it did. -/
def widthsRigidSpec : ChangeSpec := { name := "widthsRigid", fn := fun _ => fun
  | [d1, d2] => { results := [.lit (.bool true)], args := [d1, d2] }
  | _ => none }
def widthsRigidRow : OpenClaim := { program := "ytilfgmclhoidiaa", sum := "b1ecad727a8f81791a6dfb3c7a6b44ff0fcf844e2f48b5241059bbd6913785d7", func := "purfling/purflinglaw15.WidthsRigid", spec := "widthsRigid", unfollowed := true, recurses := true, named := ["math/bits.divideError", "math/bits.overflowError"], apart := false }
def WidthsRigidSaid : Prop := widthsRigidRow.holds Try.pinned (OpenSpec.ofChange widthsRigidSpec)

/-- ITS FALSE NEIGHBOUR: 'it returns false'. Refute it at one input. -/
def widthsRigidWrong : ChangeSpec := { name := "widthsRigid", fn := fun _ => fun
  | [d1, d2] => { results := [.lit (.bool false)], args := [d1, d2] }
  | _ => none }
def WidthsRigidWrongFalsely : Prop := widthsRigidRow.holds Try.pinned (OpenSpec.ofChange widthsRigidWrong)

/-- 'purflinglaw15.WidthsSame': WHATEVER THE INPUT: true; the input reads as it did. -/
def widthsSameSpec : ChangeSpec := { name := "widthsSame", fn := fun _ => fun
  | [d1, d2, d3] => { results := [.lit (.bool true)], args := [d1, d2, d3] }
  | _ => none }
def widthsSameRow : OpenClaim := { program := "ytilfgmclhoidiaa", sum := "b1ecad727a8f81791a6dfb3c7a6b44ff0fcf844e2f48b5241059bbd6913785d7", func := "purfling/purflinglaw15.WidthsSame", spec := "widthsSame", unfollowed := true, recurses := true, named := ["math/bits.divideError", "math/bits.overflowError"], apart := false }
def WidthsSameSaid : Prop := widthsSameRow.holds Try.pinned (OpenSpec.ofChange widthsSameSpec)

/-- ITS FALSE NEIGHBOUR: 'it returns false'. Refute it at one input. -/
def widthsSameWrong : ChangeSpec := { name := "widthsSame", fn := fun _ => fun
  | [d1, d2, d3] => { results := [.lit (.bool false)], args := [d1, d2, d3] }
  | _ => none }
def WidthsSameWrongFalsely : Prop := widthsSameRow.holds Try.pinned (OpenSpec.ofChange widthsSameWrong)

/-- 'purflinglaw15.WidthsUsed': WHATEVER THE INPUT: true; the input reads as it did. -/
def widthsUsedSpec : ChangeSpec := { name := "widthsUsed", fn := fun _ => fun
  | [d1, d2, d3] => { results := [.lit (.bool true)], args := [d1, d2, d3] }
  | _ => none }
def widthsUsedRow : OpenClaim := { program := "ytilfgmclhoidiaa", sum := "b1ecad727a8f81791a6dfb3c7a6b44ff0fcf844e2f48b5241059bbd6913785d7", func := "purfling/purflinglaw15.WidthsUsed", spec := "widthsUsed", unfollowed := true, recurses := true, named := ["math/bits.divideError", "math/bits.overflowError"], apart := false }
def WidthsUsedSaid : Prop := widthsUsedRow.holds Try.pinned (OpenSpec.ofChange widthsUsedSpec)

/-- ITS FALSE NEIGHBOUR: 'it returns false'. Refute it at one input. -/
def widthsUsedWrong : ChangeSpec := { name := "widthsUsed", fn := fun _ => fun
  | [d1, d2, d3] => { results := [.lit (.bool false)], args := [d1, d2, d3] }
  | _ => none }
def WidthsUsedWrongFalsely : Prop := widthsUsedRow.holds Try.pinned (OpenSpec.ofChange widthsUsedWrong)

/-- 'purflinglaw15.WidthsFull': WHATEVER THE INPUT: true; the input reads as it did. -/
def widthsFullSpec : ChangeSpec := { name := "widthsFull", fn := fun _ => fun
  | [d] => { results := [.lit (.bool true)], args := [d] }
  | _ => none }
def widthsFullRow : OpenClaim := { program := "ytilfgmclhoidiaa", sum := "b1ecad727a8f81791a6dfb3c7a6b44ff0fcf844e2f48b5241059bbd6913785d7", func := "purfling/purflinglaw15.WidthsFull", spec := "widthsFull", unfollowed := true, recurses := true, named := ["math/bits.divideError", "math/bits.overflowError"], apart := false }
def WidthsFullSaid : Prop := widthsFullRow.holds Try.pinned (OpenSpec.ofChange widthsFullSpec)

/-- ITS FALSE NEIGHBOUR: 'it returns false'. Refute it at one input. -/
def widthsFullWrong : ChangeSpec := { name := "widthsFull", fn := fun _ => fun
  | [d] => { results := [.lit (.bool false)], args := [d] }
  | _ => none }
def WidthsFullWrongFalsely : Prop := widthsFullRow.holds Try.pinned (OpenSpec.ofChange widthsFullWrong)

/-- 'purflinglaw15.WidthsUses': WHATEVER THE INPUT: true; the input reads as it did. -/
def widthsUsesSpec : ChangeSpec := { name := "widthsUses", fn := fun _ => fun
  | [d1, d2, d3] => { results := [.lit (.bool true)], args := [d1, d2, d3] }
  | _ => none }
def widthsUsesRow : OpenClaim := { program := "ytilfgmclhoidiaa", sum := "b1ecad727a8f81791a6dfb3c7a6b44ff0fcf844e2f48b5241059bbd6913785d7", func := "purfling/purflinglaw15.WidthsUses", spec := "widthsUses", unfollowed := true, recurses := true, named := ["math/bits.divideError", "math/bits.overflowError"], apart := false }
def WidthsUsesSaid : Prop := widthsUsesRow.holds Try.pinned (OpenSpec.ofChange widthsUsesSpec)

/-- ITS FALSE NEIGHBOUR: 'it returns false'. Refute it at one input. -/
def widthsUsesWrong : ChangeSpec := { name := "widthsUses", fn := fun _ => fun
  | [d1, d2, d3] => { results := [.lit (.bool false)], args := [d1, d2, d3] }
  | _ => none }
def WidthsUsesWrongFalsely : Prop := widthsUsesRow.holds Try.pinned (OpenSpec.ofChange widthsUsesWrong)

/-- 'purflinglaw15.WidthsFixed': WHATEVER THE INPUT: true; the input reads as it did. -/
def widthsFixedSpec : ChangeSpec := { name := "widthsFixed", fn := fun _ => fun
  | [d1, d2, d3, d4] => { results := [.lit (.bool true)], args := [d1, d2, d3, d4] }
  | _ => none }
def widthsFixedRow : OpenClaim := { program := "ytilfgmclhoidiaa", sum := "b1ecad727a8f81791a6dfb3c7a6b44ff0fcf844e2f48b5241059bbd6913785d7", func := "purfling/purflinglaw15.WidthsFixed", spec := "widthsFixed", unfollowed := true, recurses := true, named := ["math/bits.divideError", "math/bits.overflowError"], apart := false }
def WidthsFixedSaid : Prop := widthsFixedRow.holds Try.pinned (OpenSpec.ofChange widthsFixedSpec)

/-- ITS FALSE NEIGHBOUR: 'it returns false'. Refute it at one input. -/
def widthsFixedWrong : ChangeSpec := { name := "widthsFixed", fn := fun _ => fun
  | [d1, d2, d3, d4] => { results := [.lit (.bool false)], args := [d1, d2, d3, d4] }
  | _ => none }
def WidthsFixedWrongFalsely : Prop := widthsFixedRow.holds Try.pinned (OpenSpec.ofChange widthsFixedWrong)

/-- 'purflinglaw14.SpreadSums': WHATEVER THE INPUT: true; the input reads as it did. -/
def spreadSumsSpec : ChangeSpec := { name := "spreadSums", fn := fun _ => fun
  | [d1, d2, d3] => { results := [.lit (.bool true)], args := [d1, d2, d3] }
  | _ => none }
def spreadSumsRow : OpenClaim := { program := "ytilfgmclhoidiaa", sum := "b1ecad727a8f81791a6dfb3c7a6b44ff0fcf844e2f48b5241059bbd6913785d7", func := "purfling/purflinglaw14.SpreadSums", spec := "spreadSums", unfollowed := true, recurses := true, named := ["math/bits.divideError", "math/bits.overflowError"], apart := false }
def SpreadSumsSaid : Prop := spreadSumsRow.holds Try.pinned (OpenSpec.ofChange spreadSumsSpec)

/-- ITS FALSE NEIGHBOUR: 'it returns false'. Refute it at one input. -/
def spreadSumsWrong : ChangeSpec := { name := "spreadSums", fn := fun _ => fun
  | [d1, d2, d3] => { results := [.lit (.bool false)], args := [d1, d2, d3] }
  | _ => none }
def SpreadSumsWrongFalsely : Prop := spreadSumsRow.holds Try.pinned (OpenSpec.ofChange spreadSumsWrong)

/-- 'purflinglaw14.SpreadNeeds': WHATEVER THE INPUT: true; the input reads as it did. -/
def spreadNeedsSpec : ChangeSpec := { name := "spreadNeeds", fn := fun _ => fun
  | [d1, d2, d3] => { results := [.lit (.bool true)], args := [d1, d2, d3] }
  | _ => none }
def spreadNeedsRow : OpenClaim := { program := "ytilfgmclhoidiaa", sum := "b1ecad727a8f81791a6dfb3c7a6b44ff0fcf844e2f48b5241059bbd6913785d7", func := "purfling/purflinglaw14.SpreadNeeds", spec := "spreadNeeds", unfollowed := true, recurses := true, named := ["math/bits.divideError", "math/bits.overflowError"], apart := false }
def SpreadNeedsSaid : Prop := spreadNeedsRow.holds Try.pinned (OpenSpec.ofChange spreadNeedsSpec)

/-- ITS FALSE NEIGHBOUR: 'it returns false'. Refute it at one input. -/
def spreadNeedsWrong : ChangeSpec := { name := "spreadNeeds", fn := fun _ => fun
  | [d1, d2, d3] => { results := [.lit (.bool false)], args := [d1, d2, d3] }
  | _ => none }
def SpreadNeedsWrongFalsely : Prop := spreadNeedsRow.holds Try.pinned (OpenSpec.ofChange spreadNeedsWrong)

/-- 'purflinglaw14.SpreadEnough': WHATEVER THE INPUT: true; the input reads as it did. -/
def spreadEnoughSpec : ChangeSpec := { name := "spreadEnough", fn := fun _ => fun
  | [d1, d2, d3] => { results := [.lit (.bool true)], args := [d1, d2, d3] }
  | _ => none }
def spreadEnoughRow : OpenClaim := { program := "ytilfgmclhoidiaa", sum := "b1ecad727a8f81791a6dfb3c7a6b44ff0fcf844e2f48b5241059bbd6913785d7", func := "purfling/purflinglaw14.SpreadEnough", spec := "spreadEnough", unfollowed := true, recurses := true, named := ["math/bits.divideError", "math/bits.overflowError"], apart := false }
def SpreadEnoughSaid : Prop := spreadEnoughRow.holds Try.pinned (OpenSpec.ofChange spreadEnoughSpec)

/-- ITS FALSE NEIGHBOUR: 'it returns false'. Refute it at one input. -/
def spreadEnoughWrong : ChangeSpec := { name := "spreadEnough", fn := fun _ => fun
  | [d1, d2, d3] => { results := [.lit (.bool false)], args := [d1, d2, d3] }
  | _ => none }
def SpreadEnoughWrongFalsely : Prop := spreadEnoughRow.holds Try.pinned (OpenSpec.ofChange spreadEnoughWrong)

/-- 'purflinglaw14.SpreadKeeps': WHATEVER THE INPUT: true; the input reads as it did. -/
def spreadKeepsSpec : ChangeSpec := { name := "spreadKeeps", fn := fun _ => fun
  | [d1, d2, d3] => { results := [.lit (.bool true)], args := [d1, d2, d3] }
  | _ => none }
def spreadKeepsRow : OpenClaim := { program := "ytilfgmclhoidiaa", sum := "b1ecad727a8f81791a6dfb3c7a6b44ff0fcf844e2f48b5241059bbd6913785d7", func := "purfling/purflinglaw14.SpreadKeeps", spec := "spreadKeeps", unfollowed := true, recurses := true, named := ["math/bits.divideError", "math/bits.overflowError"], apart := false }
def SpreadKeepsSaid : Prop := spreadKeepsRow.holds Try.pinned (OpenSpec.ofChange spreadKeepsSpec)

/-- ITS FALSE NEIGHBOUR: 'it returns false'. Refute it at one input. -/
def spreadKeepsWrong : ChangeSpec := { name := "spreadKeeps", fn := fun _ => fun
  | [d1, d2, d3] => { results := [.lit (.bool false)], args := [d1, d2, d3] }
  | _ => none }
def SpreadKeepsWrongFalsely : Prop := spreadKeepsRow.holds Try.pinned (OpenSpec.ofChange spreadKeepsWrong)

/- THE SECOND FORM. 'bulk': how many values and letters a reading holds, each counted each time it is reached (what is shared counts as often as it is met; a slice's spare places count too). A statement '..UptoSaid' is the law's where the arguments, and the package variables that the reading takes, are together of bulk at most 1048576: NARROWER than '..Said'. Prove '..Said' where nothing that the law and all that it calls make is longer than what came in: it says more and counts as full. Else prove '..UptoSaid'. A law counts once. -/
mutual
def uptoBulk {H : Type} : DataW H → Nat
  | .lit (.string bytes) => bytes.length + 1
  | .lit _ => 1
  | .nil => 1
  | .ptr d => uptoBulk d + 1
  | .slice elems spare => uptoBulkAll elems + uptoBulkAll spare + 1
  | .agg parts => uptoBulkAll parts + 1
  | .iface _ d => uptoBulk d + 1
  | .map entries => uptoBulkEntries entries + 1
  | .held _ => 1
def uptoBulkAll {H : Type} : List (DataW H) → Nat
  | [] => 0
  | d :: r => uptoBulk d + uptoBulkAll r
def uptoBulkEntries {H : Type} : List (Lit × DataW H) → Nat
  | [] => 0
  | x :: r => uptoBulkEntry x + uptoBulkEntries r
def uptoBulkEntry {H : Type} : Lit × DataW H → Nat
  | (.string bytes, d) => bytes.length + uptoBulk d + 1
  | (_, d) => uptoBulk d + 1
 end
def uptoSmall : (H : Type) → List (DataW H) → Bool := fun _ ds => decide (uptoBulkAll ds ≤ 1048576)
def OpenSpec.upto (s : _root_.Go.ChangeSpec) : _root_.Go.OpenSpec := { _root_.Go.OpenSpec.ofChange s with cond := some uptoSmall }

/-- 'purflinglaw15.WidthsAuto', WHERE WHAT IT READS IS OF BULK AT MOST 1048576: true; the input reads as it did. -/
def widthsAutoUptoRow : OpenClaim := { program := "ytilfgmclhoidiaa", sum := "b1ecad727a8f81791a6dfb3c7a6b44ff0fcf844e2f48b5241059bbd6913785d7", func := "purfling/purflinglaw15.WidthsAuto", spec := "widthsAuto", unfollowed := true, recurses := true, named := ["math/bits.divideError", "math/bits.overflowError"], apart := false, narrowed := true }
def WidthsAutoUptoSaid : Prop := widthsAutoUptoRow.holds Try.pinned (OpenSpec.upto widthsAutoSpec)

/-- 'purflinglaw15.WidthsAdd', WHERE WHAT IT READS IS OF BULK AT MOST 1048576: true; the input reads as it did. -/
def widthsAddUptoRow : OpenClaim := { program := "ytilfgmclhoidiaa", sum := "b1ecad727a8f81791a6dfb3c7a6b44ff0fcf844e2f48b5241059bbd6913785d7", func := "purfling/purflinglaw15.WidthsAdd", spec := "widthsAdd", unfollowed := true, recurses := true, named := ["math/bits.divideError", "math/bits.overflowError"], apart := false, narrowed := true }
def WidthsAddUptoSaid : Prop := widthsAddUptoRow.holds Try.pinned (OpenSpec.upto widthsAddSpec)

/-- 'purflinglaw15.WidthsRigid', WHERE WHAT IT READS IS OF BULK AT MOST 1048576: true; the input reads as it did. -/
def widthsRigidUptoRow : OpenClaim := { program := "ytilfgmclhoidiaa", sum := "b1ecad727a8f81791a6dfb3c7a6b44ff0fcf844e2f48b5241059bbd6913785d7", func := "purfling/purflinglaw15.WidthsRigid", spec := "widthsRigid", unfollowed := true, recurses := true, named := ["math/bits.divideError", "math/bits.overflowError"], apart := false, narrowed := true }
def WidthsRigidUptoSaid : Prop := widthsRigidUptoRow.holds Try.pinned (OpenSpec.upto widthsRigidSpec)

/-- 'purflinglaw15.WidthsSame', WHERE WHAT IT READS IS OF BULK AT MOST 1048576: true; the input reads as it did. -/
def widthsSameUptoRow : OpenClaim := { program := "ytilfgmclhoidiaa", sum := "b1ecad727a8f81791a6dfb3c7a6b44ff0fcf844e2f48b5241059bbd6913785d7", func := "purfling/purflinglaw15.WidthsSame", spec := "widthsSame", unfollowed := true, recurses := true, named := ["math/bits.divideError", "math/bits.overflowError"], apart := false, narrowed := true }
def WidthsSameUptoSaid : Prop := widthsSameUptoRow.holds Try.pinned (OpenSpec.upto widthsSameSpec)

/-- 'purflinglaw15.WidthsUsed', WHERE WHAT IT READS IS OF BULK AT MOST 1048576: true; the input reads as it did. -/
def widthsUsedUptoRow : OpenClaim := { program := "ytilfgmclhoidiaa", sum := "b1ecad727a8f81791a6dfb3c7a6b44ff0fcf844e2f48b5241059bbd6913785d7", func := "purfling/purflinglaw15.WidthsUsed", spec := "widthsUsed", unfollowed := true, recurses := true, named := ["math/bits.divideError", "math/bits.overflowError"], apart := false, narrowed := true }
def WidthsUsedUptoSaid : Prop := widthsUsedUptoRow.holds Try.pinned (OpenSpec.upto widthsUsedSpec)

/-- 'purflinglaw15.WidthsFull', WHERE WHAT IT READS IS OF BULK AT MOST 1048576: true; the input reads as it did. -/
def widthsFullUptoRow : OpenClaim := { program := "ytilfgmclhoidiaa", sum := "b1ecad727a8f81791a6dfb3c7a6b44ff0fcf844e2f48b5241059bbd6913785d7", func := "purfling/purflinglaw15.WidthsFull", spec := "widthsFull", unfollowed := true, recurses := true, named := ["math/bits.divideError", "math/bits.overflowError"], apart := false, narrowed := true }
def WidthsFullUptoSaid : Prop := widthsFullUptoRow.holds Try.pinned (OpenSpec.upto widthsFullSpec)

/-- 'purflinglaw15.WidthsUses', WHERE WHAT IT READS IS OF BULK AT MOST 1048576: true; the input reads as it did. -/
def widthsUsesUptoRow : OpenClaim := { program := "ytilfgmclhoidiaa", sum := "b1ecad727a8f81791a6dfb3c7a6b44ff0fcf844e2f48b5241059bbd6913785d7", func := "purfling/purflinglaw15.WidthsUses", spec := "widthsUses", unfollowed := true, recurses := true, named := ["math/bits.divideError", "math/bits.overflowError"], apart := false, narrowed := true }
def WidthsUsesUptoSaid : Prop := widthsUsesUptoRow.holds Try.pinned (OpenSpec.upto widthsUsesSpec)

/-- 'purflinglaw15.WidthsFixed', WHERE WHAT IT READS IS OF BULK AT MOST 1048576: true; the input reads as it did. -/
def widthsFixedUptoRow : OpenClaim := { program := "ytilfgmclhoidiaa", sum := "b1ecad727a8f81791a6dfb3c7a6b44ff0fcf844e2f48b5241059bbd6913785d7", func := "purfling/purflinglaw15.WidthsFixed", spec := "widthsFixed", unfollowed := true, recurses := true, named := ["math/bits.divideError", "math/bits.overflowError"], apart := false, narrowed := true }
def WidthsFixedUptoSaid : Prop := widthsFixedUptoRow.holds Try.pinned (OpenSpec.upto widthsFixedSpec)

/-- 'purflinglaw14.SpreadSums', WHERE WHAT IT READS IS OF BULK AT MOST 1048576: true; the input reads as it did. -/
def spreadSumsUptoRow : OpenClaim := { program := "ytilfgmclhoidiaa", sum := "b1ecad727a8f81791a6dfb3c7a6b44ff0fcf844e2f48b5241059bbd6913785d7", func := "purfling/purflinglaw14.SpreadSums", spec := "spreadSums", unfollowed := true, recurses := true, named := ["math/bits.divideError", "math/bits.overflowError"], apart := false, narrowed := true }
def SpreadSumsUptoSaid : Prop := spreadSumsUptoRow.holds Try.pinned (OpenSpec.upto spreadSumsSpec)

/-- 'purflinglaw14.SpreadNeeds', WHERE WHAT IT READS IS OF BULK AT MOST 1048576: true; the input reads as it did. -/
def spreadNeedsUptoRow : OpenClaim := { program := "ytilfgmclhoidiaa", sum := "b1ecad727a8f81791a6dfb3c7a6b44ff0fcf844e2f48b5241059bbd6913785d7", func := "purfling/purflinglaw14.SpreadNeeds", spec := "spreadNeeds", unfollowed := true, recurses := true, named := ["math/bits.divideError", "math/bits.overflowError"], apart := false, narrowed := true }
def SpreadNeedsUptoSaid : Prop := spreadNeedsUptoRow.holds Try.pinned (OpenSpec.upto spreadNeedsSpec)

/-- 'purflinglaw14.SpreadEnough', WHERE WHAT IT READS IS OF BULK AT MOST 1048576: true; the input reads as it did. -/
def spreadEnoughUptoRow : OpenClaim := { program := "ytilfgmclhoidiaa", sum := "b1ecad727a8f81791a6dfb3c7a6b44ff0fcf844e2f48b5241059bbd6913785d7", func := "purfling/purflinglaw14.SpreadEnough", spec := "spreadEnough", unfollowed := true, recurses := true, named := ["math/bits.divideError", "math/bits.overflowError"], apart := false, narrowed := true }
def SpreadEnoughUptoSaid : Prop := spreadEnoughUptoRow.holds Try.pinned (OpenSpec.upto spreadEnoughSpec)

/-- 'purflinglaw14.SpreadKeeps', WHERE WHAT IT READS IS OF BULK AT MOST 1048576: true; the input reads as it did. -/
def spreadKeepsUptoRow : OpenClaim := { program := "ytilfgmclhoidiaa", sum := "b1ecad727a8f81791a6dfb3c7a6b44ff0fcf844e2f48b5241059bbd6913785d7", func := "purfling/purflinglaw14.SpreadKeeps", spec := "spreadKeeps", unfollowed := true, recurses := true, named := ["math/bits.divideError", "math/bits.overflowError"], apart := false, narrowed := true }
def SpreadKeepsUptoSaid : Prop := spreadKeepsUptoRow.holds Try.pinned (OpenSpec.upto spreadKeepsSpec)

end Rows
end Go.Proofs.Ytilfgmclhoidiaa
