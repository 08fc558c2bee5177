/- The first check and the cut of the statements of spreading. No condition. -/
import Derived.Test.YtpoboffdlnnbmaaPAx10
import Derived.Test.YtpoboffdlnnbmaaNeedsAll
import Derived.Test.YtpoboffdlnnbmaaOpen
namespace Go.Proofs.Ytpoboffdlnnbmaa.Base
open Go.RowKit Go.Proofs.Ytpoboffdlnnbmaa.PA Go.Proofs.YtpoboffdlnnbmaaW.PrintWords Go.Proofs.YtpoboffdlnnbmaaW.PrintLast Go.Proofs.YtpoboffdlnnbmaaW.PrintMore
theorem shown14 : purflinglaw14_shown.f 100 = some true := by decide +kernel
theorem shown14_ev : Ev purflinglaw14_shown.f true := Ev.of purflinglaw14_shown.mono shown14
theorem cut13 (l : List S44) (needs : List SN) : purflinglaw13_Cut.f l needs = some (l.take 40, needs.take 100) := by
  obtain ⟨h1, h2, h3⟩ := mn_take l 40 40 rfl
  obtain ⟨g1, g2, g3⟩ := mn_take needs 100 100 rfl
  unfold purflinglaw13_Cut.f
  rw [if_pos h1, if_pos h2, if_pos g1, if_pos g2, h3, g3]
theorem rdB (l : List SB) (i : Nat) : rd_T42 l (i : Int) = bAt l i := by
  unfold rd_T42 bAt
  rw [Int.toNat_natCast, List.getD_eq_getElem?_getD]
theorem rdN (l : List SN) (i : Nat) (h : i < l.length) : rd_T53 l (i : Int) = l[i] := rd_need_nat l i h
end Go.Proofs.Ytpoboffdlnnbmaa.Base
