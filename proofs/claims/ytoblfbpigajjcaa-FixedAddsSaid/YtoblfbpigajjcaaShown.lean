/- What the fixed examples of chapter 01's statements show, and what their cut cuts off. No condition. -/
import Derived.Test.YtoblfbpigajjcaaPAx7
import Derived.Test.YtoblfbpigajjcaaTwo
namespace Go.Proofs.Ytoblfbpigajjcaa.Base
open Go.RowKit Go.Proofs.Ytoblfbpigajjcaa.PA Go.Proofs.YtoblfbpigajjcaaW.PrintWords Go.Proofs.YtoblfbpigajjcaaW.PrintLast Go.Proofs.YtoblfbpigajjcaaW.PrintMore
theorem t1 : fixed_Part.f 10 3333 100 = some 33 := by decide +kernel
theorem t2 : fixed_Add.f [4611686018427387904, 4611686018427387904] = some 9223372036854775807 := by decide +kernel
theorem t3 : fixed_Share.f (-1) [1] = some ([], 10) := by decide +kernel
theorem t4 : purflingref01_Same.f 10 [4, 3, 3] [4, 3, 3] = some true := by decide +kernel
theorem t5 : fixed_Share.f 10 [1, 1, 1] = some ([4, 3, 3], 0) := by decide +kernel
theorem shown10 : purflinglaw01_shown.f 10 = some true := by
  unfold purflinglaw01_shown.f
  rw [t5, t3]
  simp only [Option.bind_some, t1, t2, t4, if_true, beq_self_eq_true]
theorem shown_ev : Ev purflinglaw01_shown.f true := Ev.of purflinglaw01_shown.mono shown10

theorem cut_eq (l : List Int) : purflinglaw01_cut.f l = some (l.take 200) := by
  unfold purflinglaw01_cut.f mn
  by_cases c : (200 : Int) < (l.length : Int)
  · rw [if_pos c, if_pos (by omega), if_pos (by omega)]
    rfl
  · rw [if_neg c, if_pos (by omega), if_pos (by omega), Int.toNat_natCast, List.take_length, List.take_of_length_le (by omega)]
end Go.Proofs.Ytoblfbpigajjcaa.Base
