/-
  No cell of these rows narrows 'for every input' (looked for: loops, veiled, ifaces, maps, wideKeys, modest, calm, conditions, laid).
  DERIVED. THE GIVEN ROWS OF THIS SEAT. 12 by the template 'for every input the law returns true; each argument reads behind the call as it read before'; 0 by the template 'total and deterministic' (their statements: YtacigmhhegaieaaTotals.lean).
  GIVEN WITH THE SEED: the statements are not yours to turn. If you find one false, say at which input.
  Laid BY PROGRAM, IN A SANDBOX (cutbox-rows.mjs): the forced cells as the released guide's own fill.sh prints them over the translation 5c8405c1aa3bb84a… (all of the seat's roots in one cut). By AI agents, Wed Nov 11 2026. No macro, syntax, notation, axiom, sorry.
-/
import Derived.Test.YtacigmhhegaieaaChecked
import GoSem.Claim
import GoSem.ClaimJoined
import GoSem.ClaimMapViews
import Derived.JoinedTies
import Derived.KernelRfl
namespace Go.Proofs.Ytacigmhhegaieaa
/- THE CELL 'sum', in the pinned program and in every row, IS THE sha256 OF THE DUMP (.gsa) THAT YtacigmhhegaieaaProg.lean LOADS. Nothing in Lean hashes anything: it is a label: what it is worth is what the hold of that sum in a sandbox is worth. -/
noncomputable def Try.pinned : Pinned := { name := "ytacigmhhegaieaa", sum := "5c8405c1aa3bb84ad7346cd1bce87292b976719b49b62bf2f270c7a64335915b", checked := Try.checked }
namespace Rows
def none {H : Type} : Left H := { results := [], args := [] }

/-- 'purflinglaw14.SpreadNeeds': WHATEVER THE INPUT: true; the input reads as it did. -/
def spreadNeedsSpec : ChangeSpec := { name := "spreadNeeds", fn := fun _ => fun
  | [d1, d2, d3] => { results := [.lit (.bool true)], args := [d1, d2, d3] }
  | _ => none }
def spreadNeedsRow : OpenClaim := { program := "ytacigmhhegaieaa", sum := "5c8405c1aa3bb84ad7346cd1bce87292b976719b49b62bf2f270c7a64335915b", func := "purfling/purflinglaw14.SpreadNeeds", spec := "spreadNeeds", unfollowed := true, recurses := true, named := ["math/bits.divideError", "math/bits.overflowError"], apart := false }
def SpreadNeedsSaid : Prop := spreadNeedsRow.holds Try.pinned (OpenSpec.ofChange spreadNeedsSpec)

/-- ITS FALSE NEIGHBOUR: 'it returns false'. Refute it at one input. -/
def spreadNeedsWrong : ChangeSpec := { name := "spreadNeeds", fn := fun _ => fun
  | [d1, d2, d3] => { results := [.lit (.bool false)], args := [d1, d2, d3] }
  | _ => none }
def SpreadNeedsWrongFalsely : Prop := spreadNeedsRow.holds Try.pinned (OpenSpec.ofChange spreadNeedsWrong)

/-- 'purflinglaw14.SpreadEnough': WHATEVER THE INPUT: true; the input reads as it did. -/
def spreadEnoughSpec : ChangeSpec := { name := "spreadEnough", fn := fun _ => fun
  | [d1, d2, d3] => { results := [.lit (.bool true)], args := [d1, d2, d3] }
  | _ => none }
def spreadEnoughRow : OpenClaim := { program := "ytacigmhhegaieaa", sum := "5c8405c1aa3bb84ad7346cd1bce87292b976719b49b62bf2f270c7a64335915b", func := "purfling/purflinglaw14.SpreadEnough", spec := "spreadEnough", unfollowed := true, recurses := true, named := ["math/bits.divideError", "math/bits.overflowError"], apart := false }
def SpreadEnoughSaid : Prop := spreadEnoughRow.holds Try.pinned (OpenSpec.ofChange spreadEnoughSpec)

/-- ITS FALSE NEIGHBOUR: 'it returns false'. Refute it at one input. -/
def spreadEnoughWrong : ChangeSpec := { name := "spreadEnough", fn := fun _ => fun
  | [d1, d2, d3] => { results := [.lit (.bool false)], args := [d1, d2, d3] }
  | _ => none }
def SpreadEnoughWrongFalsely : Prop := spreadEnoughRow.holds Try.pinned (OpenSpec.ofChange spreadEnoughWrong)

/-- 'purflinglaw14.SpreadKeeps': WHATEVER THE INPUT: true; the input reads as it did. -/
def spreadKeepsSpec : ChangeSpec := { name := "spreadKeeps", fn := fun _ => fun
  | [d1, d2, d3] => { results := [.lit (.bool true)], args := [d1, d2, d3] }
  | _ => none }
def spreadKeepsRow : OpenClaim := { program := "ytacigmhhegaieaa", sum := "5c8405c1aa3bb84ad7346cd1bce87292b976719b49b62bf2f270c7a64335915b", func := "purfling/purflinglaw14.SpreadKeeps", spec := "spreadKeeps", unfollowed := true, recurses := true, named := ["math/bits.divideError", "math/bits.overflowError"], apart := false }
def SpreadKeepsSaid : Prop := spreadKeepsRow.holds Try.pinned (OpenSpec.ofChange spreadKeepsSpec)

/-- ITS FALSE NEIGHBOUR: 'it returns false'. Refute it at one input. -/
def spreadKeepsWrong : ChangeSpec := { name := "spreadKeeps", fn := fun _ => fun
  | [d1, d2, d3] => { results := [.lit (.bool false)], args := [d1, d2, d3] }
  | _ => none }
def SpreadKeepsWrongFalsely : Prop := spreadKeepsRow.holds Try.pinned (OpenSpec.ofChange spreadKeepsWrong)

/-- 'purflinglaw14.SpreadNone': WHATEVER THE INPUT: true; the input reads as it did. -/
def spreadNoneSpec : ChangeSpec := { name := "spreadNone", fn := fun _ => fun
  | [d1, d2, d3] => { results := [.lit (.bool true)], args := [d1, d2, d3] }
  | _ => none }
def spreadNoneRow : OpenClaim := { program := "ytacigmhhegaieaa", sum := "5c8405c1aa3bb84ad7346cd1bce87292b976719b49b62bf2f270c7a64335915b", func := "purfling/purflinglaw14.SpreadNone", spec := "spreadNone", unfollowed := true, recurses := true, named := ["math/bits.divideError", "math/bits.overflowError"], apart := false }
def SpreadNoneSaid : Prop := spreadNoneRow.holds Try.pinned (OpenSpec.ofChange spreadNoneSpec)

/-- ITS FALSE NEIGHBOUR: 'it returns false'. Refute it at one input. -/
def spreadNoneWrong : ChangeSpec := { name := "spreadNone", fn := fun _ => fun
  | [d1, d2, d3] => { results := [.lit (.bool false)], args := [d1, d2, d3] }
  | _ => none }
def SpreadNoneWrongFalsely : Prop := spreadNoneRow.holds Try.pinned (OpenSpec.ofChange spreadNoneWrong)

/-- 'purflinglaw14.SpreadTwice': WHATEVER THE INPUT: true; the input reads as it did. -/
def spreadTwiceSpec : ChangeSpec := { name := "spreadTwice", fn := fun _ => fun
  | [d1, d2, d3] => { results := [.lit (.bool true)], args := [d1, d2, d3] }
  | _ => none }
def spreadTwiceRow : OpenClaim := { program := "ytacigmhhegaieaa", sum := "5c8405c1aa3bb84ad7346cd1bce87292b976719b49b62bf2f270c7a64335915b", func := "purfling/purflinglaw14.SpreadTwice", spec := "spreadTwice", unfollowed := true, recurses := true, named := ["math/bits.divideError", "math/bits.overflowError"], apart := false }
def SpreadTwiceSaid : Prop := spreadTwiceRow.holds Try.pinned (OpenSpec.ofChange spreadTwiceSpec)

/-- ITS FALSE NEIGHBOUR: 'it returns false'. Refute it at one input. -/
def spreadTwiceWrong : ChangeSpec := { name := "spreadTwice", fn := fun _ => fun
  | [d1, d2, d3] => { results := [.lit (.bool false)], args := [d1, d2, d3] }
  | _ => none }
def SpreadTwiceWrongFalsely : Prop := spreadTwiceRow.holds Try.pinned (OpenSpec.ofChange spreadTwiceWrong)

/-- 'purflinglaw16.HeightsLeast': WHATEVER THE INPUT: true; the input reads as it did. -/
def heightsLeastSpec : ChangeSpec := { name := "heightsLeast", fn := fun _ => fun
  | [d1, d2, d3, d4] => { results := [.lit (.bool true)], args := [d1, d2, d3, d4] }
  | _ => none }
def heightsLeastRow : OpenClaim := { program := "ytacigmhhegaieaa", sum := "5c8405c1aa3bb84ad7346cd1bce87292b976719b49b62bf2f270c7a64335915b", func := "purfling/purflinglaw16.HeightsLeast", spec := "heightsLeast", unfollowed := true, recurses := true, named := ["math/bits.divideError", "math/bits.overflowError"], apart := false }
def HeightsLeastSaid : Prop := heightsLeastRow.holds Try.pinned (OpenSpec.ofChange heightsLeastSpec)

/-- ITS FALSE NEIGHBOUR: 'it returns false'. Refute it at one input. -/
def heightsLeastWrong : ChangeSpec := { name := "heightsLeast", fn := fun _ => fun
  | [d1, d2, d3, d4] => { results := [.lit (.bool false)], args := [d1, d2, d3, d4] }
  | _ => none }
def HeightsLeastWrongFalsely : Prop := heightsLeastRow.holds Try.pinned (OpenSpec.ofChange heightsLeastWrong)

/-- 'purflinglaw16.HeightsStretch': WHATEVER THE INPUT: true; the input reads as it did. -/
def heightsStretchSpec : ChangeSpec := { name := "heightsStretch", fn := fun _ => fun
  | [d1, d2, d3] => { results := [.lit (.bool true)], args := [d1, d2, d3] }
  | _ => none }
def heightsStretchRow : OpenClaim := { program := "ytacigmhhegaieaa", sum := "5c8405c1aa3bb84ad7346cd1bce87292b976719b49b62bf2f270c7a64335915b", func := "purfling/purflinglaw16.HeightsStretch", spec := "heightsStretch", unfollowed := true, recurses := true, named := ["math/bits.divideError", "math/bits.overflowError"], apart := false }
def HeightsStretchSaid : Prop := heightsStretchRow.holds Try.pinned (OpenSpec.ofChange heightsStretchSpec)

/-- ITS FALSE NEIGHBOUR: 'it returns false'. Refute it at one input. -/
def heightsStretchWrong : ChangeSpec := { name := "heightsStretch", fn := fun _ => fun
  | [d1, d2, d3] => { results := [.lit (.bool false)], args := [d1, d2, d3] }
  | _ => none }
def HeightsStretchWrongFalsely : Prop := heightsStretchRow.holds Try.pinned (OpenSpec.ofChange heightsStretchWrong)

/-- 'purflinglaw16.HeightsEnough': WHATEVER THE INPUT: true; the input reads as it did. -/
def heightsEnoughSpec : ChangeSpec := { name := "heightsEnough", fn := fun _ => fun
  | [d1, d2, d3, d4] => { results := [.lit (.bool true)], args := [d1, d2, d3, d4] }
  | _ => none }
def heightsEnoughRow : OpenClaim := { program := "ytacigmhhegaieaa", sum := "5c8405c1aa3bb84ad7346cd1bce87292b976719b49b62bf2f270c7a64335915b", func := "purfling/purflinglaw16.HeightsEnough", spec := "heightsEnough", unfollowed := true, recurses := true, named := ["math/bits.divideError", "math/bits.overflowError"], apart := false }
def HeightsEnoughSaid : Prop := heightsEnoughRow.holds Try.pinned (OpenSpec.ofChange heightsEnoughSpec)

/-- ITS FALSE NEIGHBOUR: 'it returns false'. Refute it at one input. -/
def heightsEnoughWrong : ChangeSpec := { name := "heightsEnough", fn := fun _ => fun
  | [d1, d2, d3, d4] => { results := [.lit (.bool false)], args := [d1, d2, d3, d4] }
  | _ => none }
def HeightsEnoughWrongFalsely : Prop := heightsEnoughRow.holds Try.pinned (OpenSpec.ofChange heightsEnoughWrong)

/-- 'purflinglaw16.HeightsAdd': WHATEVER THE INPUT: true; the input reads as it did. -/
def heightsAddSpec : ChangeSpec := { name := "heightsAdd", fn := fun _ => fun
  | [d1, d2, d3] => { results := [.lit (.bool true)], args := [d1, d2, d3] }
  | _ => none }
def heightsAddRow : OpenClaim := { program := "ytacigmhhegaieaa", sum := "5c8405c1aa3bb84ad7346cd1bce87292b976719b49b62bf2f270c7a64335915b", func := "purfling/purflinglaw16.HeightsAdd", spec := "heightsAdd", unfollowed := true, recurses := true, named := ["math/bits.divideError", "math/bits.overflowError"], apart := false }
def HeightsAddSaid : Prop := heightsAddRow.holds Try.pinned (OpenSpec.ofChange heightsAddSpec)

/-- ITS FALSE NEIGHBOUR: 'it returns false'. Refute it at one input. -/
def heightsAddWrong : ChangeSpec := { name := "heightsAdd", fn := fun _ => fun
  | [d1, d2, d3] => { results := [.lit (.bool false)], args := [d1, d2, d3] }
  | _ => none }
def HeightsAddWrongFalsely : Prop := heightsAddRow.holds Try.pinned (OpenSpec.ofChange heightsAddWrong)

/-- 'purflinglaw16.HeightsPlain': WHATEVER THE INPUT: true; the input reads as it did. -/
def heightsPlainSpec : ChangeSpec := { name := "heightsPlain", fn := fun _ => fun
  | [d1, d2] => { results := [.lit (.bool true)], args := [d1, d2] }
  | _ => none }
def heightsPlainRow : OpenClaim := { program := "ytacigmhhegaieaa", sum := "5c8405c1aa3bb84ad7346cd1bce87292b976719b49b62bf2f270c7a64335915b", func := "purfling/purflinglaw16.HeightsPlain", spec := "heightsPlain", unfollowed := true, recurses := true, named := ["math/bits.divideError", "math/bits.overflowError"], apart := false }
def HeightsPlainSaid : Prop := heightsPlainRow.holds Try.pinned (OpenSpec.ofChange heightsPlainSpec)

/-- ITS FALSE NEIGHBOUR: 'it returns false'. Refute it at one input. -/
def heightsPlainWrong : ChangeSpec := { name := "heightsPlain", fn := fun _ => fun
  | [d1, d2] => { results := [.lit (.bool false)], args := [d1, d2] }
  | _ => none }
def HeightsPlainWrongFalsely : Prop := heightsPlainRow.holds Try.pinned (OpenSpec.ofChange heightsPlainWrong)

/-- 'purflinglaw16.HeightsMore': WHATEVER THE INPUT: true; the input reads as it did. -/
def heightsMoreSpec : ChangeSpec := { name := "heightsMore", fn := fun _ => fun
  | [d1, d2, d3, d4] => { results := [.lit (.bool true)], args := [d1, d2, d3, d4] }
  | _ => none }
def heightsMoreRow : OpenClaim := { program := "ytacigmhhegaieaa", sum := "5c8405c1aa3bb84ad7346cd1bce87292b976719b49b62bf2f270c7a64335915b", func := "purfling/purflinglaw16.HeightsMore", spec := "heightsMore", unfollowed := true, recurses := true, named := ["math/bits.divideError", "math/bits.overflowError"], apart := false }
def HeightsMoreSaid : Prop := heightsMoreRow.holds Try.pinned (OpenSpec.ofChange heightsMoreSpec)

/-- ITS FALSE NEIGHBOUR: 'it returns false'. Refute it at one input. -/
def heightsMoreWrong : ChangeSpec := { name := "heightsMore", fn := fun _ => fun
  | [d1, d2, d3, d4] => { results := [.lit (.bool false)], args := [d1, d2, d3, d4] }
  | _ => none }
def HeightsMoreWrongFalsely : Prop := heightsMoreRow.holds Try.pinned (OpenSpec.ofChange heightsMoreWrong)

/-- 'purflinglaw16.HeightsStay': WHATEVER THE INPUT: true; the input reads as it did. -/
def heightsStaySpec : ChangeSpec := { name := "heightsStay", fn := fun _ => fun
  | [d1, d2] => { results := [.lit (.bool true)], args := [d1, d2] }
  | _ => none }
def heightsStayRow : OpenClaim := { program := "ytacigmhhegaieaa", sum := "5c8405c1aa3bb84ad7346cd1bce87292b976719b49b62bf2f270c7a64335915b", func := "purfling/purflinglaw16.HeightsStay", spec := "heightsStay", unfollowed := true, recurses := true, named := ["math/bits.divideError", "math/bits.overflowError"], apart := false }
def HeightsStaySaid : Prop := heightsStayRow.holds Try.pinned (OpenSpec.ofChange heightsStaySpec)

/-- ITS FALSE NEIGHBOUR: 'it returns false'. Refute it at one input. -/
def heightsStayWrong : ChangeSpec := { name := "heightsStay", fn := fun _ => fun
  | [d1, d2] => { results := [.lit (.bool false)], args := [d1, d2] }
  | _ => none }
def HeightsStayWrongFalsely : Prop := heightsStayRow.holds Try.pinned (OpenSpec.ofChange heightsStayWrong)

/- THE SECOND FORM. 'bulk': how many values and letters a reading holds, each counted each time it is reached (what is shared counts as often as it is met; a slice's spare places count too). A statement '..UptoSaid' is the law's where the arguments, and the package variables that the reading takes, are together of bulk at most 1048576: NARROWER than '..Said'. Prove '..Said' where nothing that the law and all that it calls make is longer than what came in: it says more and counts as full. Else prove '..UptoSaid'. A law counts once. -/
mutual
def uptoBulk {H : Type} : DataW H → Nat
  | .lit (.string bytes) => bytes.length + 1
  | .lit _ => 1
  | .nil => 1
  | .ptr d => uptoBulk d + 1
  | .slice elems spare => uptoBulkAll elems + uptoBulkAll spare + 1
  | .agg parts => uptoBulkAll parts + 1
  | .iface _ d => uptoBulk d + 1
  | .map entries => uptoBulkEntries entries + 1
  | .held _ => 1
def uptoBulkAll {H : Type} : List (DataW H) → Nat
  | [] => 0
  | d :: r => uptoBulk d + uptoBulkAll r
def uptoBulkEntries {H : Type} : List (Lit × DataW H) → Nat
  | [] => 0
  | x :: r => uptoBulkEntry x + uptoBulkEntries r
def uptoBulkEntry {H : Type} : Lit × DataW H → Nat
  | (.string bytes, d) => bytes.length + uptoBulk d + 1
  | (_, d) => uptoBulk d + 1
 end
def uptoSmall : (H : Type) → List (DataW H) → Bool := fun _ ds => decide (uptoBulkAll ds ≤ 1048576)
def OpenSpec.upto (s : _root_.Go.ChangeSpec) : _root_.Go.OpenSpec := { _root_.Go.OpenSpec.ofChange s with cond := some uptoSmall }

/-- 'purflinglaw14.SpreadNeeds', WHERE WHAT IT READS IS OF BULK AT MOST 1048576: true; the input reads as it did. -/
def spreadNeedsUptoRow : OpenClaim := { program := "ytacigmhhegaieaa", sum := "5c8405c1aa3bb84ad7346cd1bce87292b976719b49b62bf2f270c7a64335915b", func := "purfling/purflinglaw14.SpreadNeeds", spec := "spreadNeeds", unfollowed := true, recurses := true, named := ["math/bits.divideError", "math/bits.overflowError"], apart := false, narrowed := true }
def SpreadNeedsUptoSaid : Prop := spreadNeedsUptoRow.holds Try.pinned (OpenSpec.upto spreadNeedsSpec)

/-- 'purflinglaw14.SpreadEnough', WHERE WHAT IT READS IS OF BULK AT MOST 1048576: true; the input reads as it did. -/
def spreadEnoughUptoRow : OpenClaim := { program := "ytacigmhhegaieaa", sum := "5c8405c1aa3bb84ad7346cd1bce87292b976719b49b62bf2f270c7a64335915b", func := "purfling/purflinglaw14.SpreadEnough", spec := "spreadEnough", unfollowed := true, recurses := true, named := ["math/bits.divideError", "math/bits.overflowError"], apart := false, narrowed := true }
def SpreadEnoughUptoSaid : Prop := spreadEnoughUptoRow.holds Try.pinned (OpenSpec.upto spreadEnoughSpec)

/-- 'purflinglaw14.SpreadKeeps', WHERE WHAT IT READS IS OF BULK AT MOST 1048576: true; the input reads as it did. -/
def spreadKeepsUptoRow : OpenClaim := { program := "ytacigmhhegaieaa", sum := "5c8405c1aa3bb84ad7346cd1bce87292b976719b49b62bf2f270c7a64335915b", func := "purfling/purflinglaw14.SpreadKeeps", spec := "spreadKeeps", unfollowed := true, recurses := true, named := ["math/bits.divideError", "math/bits.overflowError"], apart := false, narrowed := true }
def SpreadKeepsUptoSaid : Prop := spreadKeepsUptoRow.holds Try.pinned (OpenSpec.upto spreadKeepsSpec)

/-- 'purflinglaw14.SpreadNone', WHERE WHAT IT READS IS OF BULK AT MOST 1048576: true; the input reads as it did. -/
def spreadNoneUptoRow : OpenClaim := { program := "ytacigmhhegaieaa", sum := "5c8405c1aa3bb84ad7346cd1bce87292b976719b49b62bf2f270c7a64335915b", func := "purfling/purflinglaw14.SpreadNone", spec := "spreadNone", unfollowed := true, recurses := true, named := ["math/bits.divideError", "math/bits.overflowError"], apart := false, narrowed := true }
def SpreadNoneUptoSaid : Prop := spreadNoneUptoRow.holds Try.pinned (OpenSpec.upto spreadNoneSpec)

/-- 'purflinglaw14.SpreadTwice', WHERE WHAT IT READS IS OF BULK AT MOST 1048576: true; the input reads as it did. -/
def spreadTwiceUptoRow : OpenClaim := { program := "ytacigmhhegaieaa", sum := "5c8405c1aa3bb84ad7346cd1bce87292b976719b49b62bf2f270c7a64335915b", func := "purfling/purflinglaw14.SpreadTwice", spec := "spreadTwice", unfollowed := true, recurses := true, named := ["math/bits.divideError", "math/bits.overflowError"], apart := false, narrowed := true }
def SpreadTwiceUptoSaid : Prop := spreadTwiceUptoRow.holds Try.pinned (OpenSpec.upto spreadTwiceSpec)

/-- 'purflinglaw16.HeightsLeast', WHERE WHAT IT READS IS OF BULK AT MOST 1048576: true; the input reads as it did. -/
def heightsLeastUptoRow : OpenClaim := { program := "ytacigmhhegaieaa", sum := "5c8405c1aa3bb84ad7346cd1bce87292b976719b49b62bf2f270c7a64335915b", func := "purfling/purflinglaw16.HeightsLeast", spec := "heightsLeast", unfollowed := true, recurses := true, named := ["math/bits.divideError", "math/bits.overflowError"], apart := false, narrowed := true }
def HeightsLeastUptoSaid : Prop := heightsLeastUptoRow.holds Try.pinned (OpenSpec.upto heightsLeastSpec)

/-- 'purflinglaw16.HeightsStretch', WHERE WHAT IT READS IS OF BULK AT MOST 1048576: true; the input reads as it did. -/
def heightsStretchUptoRow : OpenClaim := { program := "ytacigmhhegaieaa", sum := "5c8405c1aa3bb84ad7346cd1bce87292b976719b49b62bf2f270c7a64335915b", func := "purfling/purflinglaw16.HeightsStretch", spec := "heightsStretch", unfollowed := true, recurses := true, named := ["math/bits.divideError", "math/bits.overflowError"], apart := false, narrowed := true }
def HeightsStretchUptoSaid : Prop := heightsStretchUptoRow.holds Try.pinned (OpenSpec.upto heightsStretchSpec)

/-- 'purflinglaw16.HeightsEnough', WHERE WHAT IT READS IS OF BULK AT MOST 1048576: true; the input reads as it did. -/
def heightsEnoughUptoRow : OpenClaim := { program := "ytacigmhhegaieaa", sum := "5c8405c1aa3bb84ad7346cd1bce87292b976719b49b62bf2f270c7a64335915b", func := "purfling/purflinglaw16.HeightsEnough", spec := "heightsEnough", unfollowed := true, recurses := true, named := ["math/bits.divideError", "math/bits.overflowError"], apart := false, narrowed := true }
def HeightsEnoughUptoSaid : Prop := heightsEnoughUptoRow.holds Try.pinned (OpenSpec.upto heightsEnoughSpec)

/-- 'purflinglaw16.HeightsAdd', WHERE WHAT IT READS IS OF BULK AT MOST 1048576: true; the input reads as it did. -/
def heightsAddUptoRow : OpenClaim := { program := "ytacigmhhegaieaa", sum := "5c8405c1aa3bb84ad7346cd1bce87292b976719b49b62bf2f270c7a64335915b", func := "purfling/purflinglaw16.HeightsAdd", spec := "heightsAdd", unfollowed := true, recurses := true, named := ["math/bits.divideError", "math/bits.overflowError"], apart := false, narrowed := true }
def HeightsAddUptoSaid : Prop := heightsAddUptoRow.holds Try.pinned (OpenSpec.upto heightsAddSpec)

/-- 'purflinglaw16.HeightsPlain', WHERE WHAT IT READS IS OF BULK AT MOST 1048576: true; the input reads as it did. -/
def heightsPlainUptoRow : OpenClaim := { program := "ytacigmhhegaieaa", sum := "5c8405c1aa3bb84ad7346cd1bce87292b976719b49b62bf2f270c7a64335915b", func := "purfling/purflinglaw16.HeightsPlain", spec := "heightsPlain", unfollowed := true, recurses := true, named := ["math/bits.divideError", "math/bits.overflowError"], apart := false, narrowed := true }
def HeightsPlainUptoSaid : Prop := heightsPlainUptoRow.holds Try.pinned (OpenSpec.upto heightsPlainSpec)

/-- 'purflinglaw16.HeightsMore', WHERE WHAT IT READS IS OF BULK AT MOST 1048576: true; the input reads as it did. -/
def heightsMoreUptoRow : OpenClaim := { program := "ytacigmhhegaieaa", sum := "5c8405c1aa3bb84ad7346cd1bce87292b976719b49b62bf2f270c7a64335915b", func := "purfling/purflinglaw16.HeightsMore", spec := "heightsMore", unfollowed := true, recurses := true, named := ["math/bits.divideError", "math/bits.overflowError"], apart := false, narrowed := true }
def HeightsMoreUptoSaid : Prop := heightsMoreUptoRow.holds Try.pinned (OpenSpec.upto heightsMoreSpec)

/-- 'purflinglaw16.HeightsStay', WHERE WHAT IT READS IS OF BULK AT MOST 1048576: true; the input reads as it did. -/
def heightsStayUptoRow : OpenClaim := { program := "ytacigmhhegaieaa", sum := "5c8405c1aa3bb84ad7346cd1bce87292b976719b49b62bf2f270c7a64335915b", func := "purfling/purflinglaw16.HeightsStay", spec := "heightsStay", unfollowed := true, recurses := true, named := ["math/bits.divideError", "math/bits.overflowError"], apart := false, narrowed := true }
def HeightsStayUptoSaid : Prop := heightsStayUptoRow.holds Try.pinned (OpenSpec.upto heightsStaySpec)

end Rows
end Go.Proofs.Ytacigmhhegaieaa
