/- The cut of the statements of heights. No condition. -/
import Derived.Test.YtgghbmhmpkeccaaPAx20
import Derived.Test.YtgghbmhmpkeccaaCutH
namespace Go.Proofs.Ytgghbmhmpkeccaa.Base
open Go.RowKit Go.Proofs.Ytgghbmhmpkeccaa.PA Go.Proofs.YtgghbmhmpkeccaaW.PrintWords Go.Proofs.YtgghbmhmpkeccaaW.PrintLast Go.Proofs.YtgghbmhmpkeccaaW.PrintMore
abbrev SPl := S35
theorem rdP (l : List SPl) (i : Nat) (h : i < l.length) : rd_T35 l (i : Int) = l[i] := by
  unfold rd_T35
  rw [Int.toNat_natCast, List.getD_eq_getElem?_getD, List.getElem?_eq_getElem h]
  rfl
theorem cut16 (l0 : List Int) (l1 : List SPl) (l2 : List Int) : purflinglaw16_cut.f l0 l1 l2 = some (l0.take 60, l1.take 100, l2.take 100) := by
  obtain ⟨h1, h2, h3⟩ := mn_cut l0 60 60 rfl
  obtain ⟨g1, g2, g3⟩ := mn_cut l1 100 100 rfl
  obtain ⟨k1, k2, k3⟩ := mn_cut l2 100 100 rfl
  unfold purflinglaw16_cut.f
  rw [if_pos h1, if_pos h2, if_pos g1, if_pos g2, if_pos k1, if_pos k2, h3, g3, k3]
end Go.Proofs.Ytgghbmhmpkeccaa.Base
