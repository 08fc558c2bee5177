/- All columns' width: what the program answers. Condition: at most 10000 bands, of numbers of 64 bits. -/
import Derived.Test.YtilfgmclhoidiaaPAx28
import Derived.Test.YtilfgmclhoidiaaBands
namespace Go.Proofs.Ytilfgmclhoidiaa.Base
open Go.RowKit Go.Proofs.Ytilfgmclhoidiaa.PA Go.Proofs.YtilfgmclhoidiaaW.PrintWords Go.Proofs.YtilfgmclhoidiaaW.PrintLast Go.Proofs.YtilfgmclhoidiaaW.PrintMore Go.Proofs.Ytilfgmclhoidiaa.Pure
/-- May all columns' width be asked? -/
def usedOk (l : List S35) (a b : Int) : Prop := bandsOk l = true ∧ -1 ≤ a ∧ a ≤ 1125899906842623 ∧ 0 ≤ b ∧ b ≤ 1125899906842623
instance (l : List S35) (a b : Int) : Decidable (usedOk l a b) := by unfold usedOk; infer_instance
def usedOut (l : List S35) (a b : Int) : Int × Int := if usedOk l a b then (if a ≥ 0 then (mx a (sums3 l).1, 0) else (mx (mn (sums3 l).2.1 b) (sums3 l).1, 0)) else (0, 130)
theorem usedOut_no {l : List S35} {a b : Int} (h : ¬ usedOk l a b) : usedOut l a b = (0, 130) := if_neg h
theorem usedOut_yes {l : List S35} {a b : Int} (h : usedOk l a b) : usedOut l a b = (if a ≥ 0 then (mx a (sums3 l).1, 0) else (mx (mn (sums3 l).2.1 b) (sums3 l).1, 0)) := if_pos h
theorem used_j (l : List S35) (hl : l.length ≤ 10000) (hg : ∀ b ∈ l, good35 b) (a b : Int) : Ev (fun k => widths_Used.j0 k l a b false) (if a ≥ 0 then (mx a (sums3 l).1, 0) else (mx (mn (sums3 l).2.1 b) (sums3 l).1, 0)) := by
  by_cases c : a ≥ 0
  · rw [if_pos c]
    refine Ev.step (f := fun k => _) (fun k => by rw [widths_Used.j0]) ?_
    exact Base.Ev.neg (by simp) (Ev.bind (sums_prog l hl hg) (Base.Ev.pos c (Base.Ev.val rfl)))
  · rw [if_neg c]
    refine Ev.step (f := fun k => _) (fun k => by rw [widths_Used.j0]) ?_
    refine Base.Ev.neg (by simp) (Ev.bind (sums_prog l hl hg) ?_)
    exact Base.Ev.neg c (Base.Ev.val rfl)
theorem used_n (l : List S35) (a b : Int) : Ev (fun k => widths_Used.j0 k l a b true) (0, 130) := by
  refine Ev.step (f := fun k => _) (fun k => by rw [widths_Used.j0]) ?_
  exact Base.Ev.pos rfl (Base.Ev.val rfl)
theorem used_prog (l : List S35) (hl : l.length ≤ 10000) (hg : ∀ b ∈ l, good35 b) (a b : Int) : Ev (fun k => widths_Used.f k l a b) (usedOut l a b) := by
  unfold widths_Used.f
  refine Ev.bind ⟨0, fun _ _ => right_prog l hl⟩ ?_
  by_cases hb : bandsOk l = true
  case neg =>
    rw [usedOut_no (fun h => hb h.1)]
    exact Base.Ev.neg hb (used_n l a b)
  case pos =>
    refine Base.Ev.pos hb ?_
    by_cases c1 : a < -1
    · rw [usedOut_no (fun h => by have := h.2.1; omega)]
      exact Base.Ev.pos c1 (used_n l a b)
    refine Base.Ev.neg c1 ?_
    by_cases c2 : a > 1125899906842623
    · rw [usedOut_no (fun h => by have := h.2.2.1; omega)]
      exact Base.Ev.pos c2 (used_n l a b)
    refine Base.Ev.neg c2 ?_
    by_cases c3 : b < 0
    · rw [usedOut_no (fun h => by have := h.2.2.2.1; omega)]
      exact Base.Ev.pos c3 (used_n l a b)
    refine Base.Ev.neg c3 ?_
    by_cases c4 : b > 1125899906842623
    · rw [usedOut_no (fun h => by have := h.2.2.2.2; omega), decide_eq_true c4]
      exact used_n l a b
    · rw [usedOut_yes ⟨hb, by omega, by omega, by omega, by omega⟩, decide_eq_false c4]
      exact used_j l hl hg a b
end Go.Proofs.Ytilfgmclhoidiaa.Base
