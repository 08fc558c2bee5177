/- The place of a free one among the free. No condition. -/
import Derived.Test.YtilfgmclhoidiaaGive
namespace Go.Proofs.Ytilfgmclhoidiaa.Base
open Go.RowKit Go.Proofs.Ytilfgmclhoidiaa.PA Go.Proofs.YtilfgmclhoidiaaW.PrintWords Go.Proofs.YtilfgmclhoidiaaW.PrintLast Go.Proofs.YtilfgmclhoidiaaW.PrintMore
/-- How many of the first i are free. -/
def rank (b : List Bool) (i : Nat) : Nat := ((b.take i).filter id).length
theorem pos_rank : ∀ (b : List Bool) (i : Nat), i < b.length → b[i]?.getD false = true → (pos b)[rank b i]? = some i ∧ rank b (i + 1) = rank b i + 1
  | [], i, h, _ => by simp at h
  | true :: b, 0, _, _ => by simp [pos, rank]
  | false :: b, 0, _, h => by simp at h
  | true :: b, i + 1, h, hb => by
    obtain ⟨h1, h2⟩ := pos_rank b i (by simpa using h) (by simpa using hb)
    have e : ∀ j, rank (true :: b) (j + 1) = rank b j + 1 := fun j => by simp [rank]
    rw [e, e]
    refine ⟨?_, by rw [h2]⟩
    simp [pos, h1]
  | false :: b, i + 1, h, hb => by
    obtain ⟨h1, h2⟩ := pos_rank b i (by simpa using h) (by simpa using hb)
    have e : ∀ j, rank (false :: b) (j + 1) = rank b j := fun j => by simp [rank]
    rw [e, e]
    refine ⟨?_, h2⟩
    simp [pos, h1]
theorem rank_no : ∀ (b : List Bool) (i : Nat), i < b.length → b[i]?.getD false = false → rank b (i + 1) = rank b i := by
  intro b i h hb
  unfold rank
  rw [List.take_succ_eq_append_getElem h, List.filter_append]
  rw [List.getElem?_eq_getElem h, Option.getD_some] at hb
  simp [hb]
theorem rank_all : ∀ (b : List Bool), rank b b.length = (pos b).length
  | [] => rfl
  | true :: b => by
    have := rank_all b
    simp [rank, pos] at this ⊢
    omega
  | false :: b => by
    have := rank_all b
    simp [rank, pos] at this ⊢
    omega
theorem rank_le (b : List Bool) (i : Nat) : rank b i ≤ i := by
  unfold rank
  refine Nat.le_trans (List.length_filter_le _ _) ?_
  rw [List.length_take]
  omega
end Go.Proofs.Ytilfgmclhoidiaa.Base
