/- HeightsAdd: with enough rounds the check says true at all rows, wanted heights and totals: stretched rows add up. No condition. -/
import Derived.Test.YtacigmhhegaieaaPAx50
import Derived.Test.YtacigmhhegaieaaShown16
import Derived.Test.YtacigmhhegaieaaStretchA
namespace Go.Proofs.Ytacigmhhegaieaa.Pure
open Go.RowKit Go.Proofs.Ytacigmhhegaieaa.PA Go.Proofs.YtacigmhhegaieaaW.PrintWords Go.Proofs.YtacigmhhegaieaaW.PrintLast Go.Proofs.YtacigmhhegaieaaW.PrintMore Go.Proofs.Ytacigmhhegaieaa.Base
def frees (l1 : List Int) (i : Nat) : Bool := (l1.take i).any (fun x => x == -1)
theorem frees_next (l1 : List Int) (i : Nat) (h : i < l1.length) : frees l1 (i + 1) = (frees l1 i || (rd l1 i == -1)) := by
  unfold frees
  rw [List.take_succ_eq_append_getElem h, List.any_append, rd_nat, List.getElem?_eq_getElem h]
  simp
theorem frees_is (l1 : List Int) (i : Nat) (h : frees l1 i = true) : ∃ j : Nat, j < l1.length ∧ rd l1 j = -1 := by
  obtain ⟨x, hx, e⟩ := List.any_eq_true.1 h
  obtain ⟨j, hj, e2⟩ := List.mem_iff_getElem.1 (List.mem_of_mem_take hx)
  refine ⟨j, hj, ?_⟩
  rw [rd_nat, List.getElem?_eq_getElem hj, Option.getD_some, e2]
  simpa using e
theorem add_end (l0 l1 : List Int) (a2 : Int) (a : List Int) (b : Bool) (i : Int) (hs : a.sum = mx l0.sum a2) : Ev (fun k => purflinglaw16_HeightsAdd.j2 k l0 l1 a2 true a b l0.sum a.sum i false) true := by
  refine Ev.step (f := fun k => _) (fun k => by rw [purflinglaw16_HeightsAdd.j2]) ?_
  refine Base.Ev.neg (by decide) (Base.Ev.pos rfl (Base.Ev.val ?_))
  rw [hs]
  simp
theorem add_l1 (l0 l1 : List Int) (a2 : Int) (a : List Int) (hl : l0.length ≤ 100) (hlen : l0.length = l1.length) (h : Stretched l0 l1 a2 a) (hfree : ∃ j : Nat, j < l1.length ∧ rd l1 j = -1) : ∀ (d i : Nat), i + d = l0.length → Ev (fun k => purflinglaw16_HeightsAdd.l1 k l0 l1 a2 true a true l0.sum a.sum (i : Int)) true
  | 0, i, hi => by
    refine Ev.step (f := fun k => _) (fun k => by rw [purflinglaw16_HeightsAdd.l1]) ?_
    exact Base.Ev.neg (by omega) (add_end l0 l1 a2 a true (i : Int) h.sum)
  | d + 1, i, hi => by
    have hin : i < l0.length := by omega
    have hal := h.len
    have e : wrap64 ((i : Int) + 1) = ((i + 1 : Nat) : Int) := by rw [wrap_id (by omega) (by omega)]; rfl
    have ih := add_l1 l0 l1 a2 a hl hlen h hfree d (i + 1) (by omega)
    refine Ev.step (f := fun k => _) (fun k => by rw [purflinglaw16_HeightsAdd.l1]) ?_
    refine Base.Ev.pos (by omega) ?_
    refine Ev.step (f := fun k => _) (fun k => by rw [purflinglaw16_HeightsAdd.j2]) ?_
    refine Base.Ev.pos rfl (Base.Ev.pos (by omega) (Base.Ev.pos (by omega) ?_))
    rw [e]
    by_cases c : rd l1 (i : Int) ≥ 0
    · exact Base.Ev.pos c (Base.Ev.pos (by omega) (Base.Ev.pos (by omega) (Base.Ev.pos (h.keep hfree i hin c) ih)))
    · exact Base.Ev.neg c ih
theorem add_l0 (l0 l1 : List Int) (a2 : Int) (a : List Int) (hl : l0.length ≤ 100) (h0 : StrOk l0 l1 a2) (h : Stretched l0 l1 a2 a) : ∀ (d i : Nat), i + d = l0.length → Ev (fun k => purflinglaw16_HeightsAdd.l0 k l0 l1 a2 true a (frees l1 i) (l0.take i).sum (a.take i).sum (i : Int)) true
  | 0, i, hi => by
    have hal := h.len
    have hlen := h0.len
    refine Ev.step (f := fun k => _) (fun k => by rw [purflinglaw16_HeightsAdd.l0]) ?_
    refine Base.Ev.neg (by omega) ?_
    rw [List.take_of_length_le (by omega : l0.length ≤ i), List.take_of_length_le (by omega : a.length ≤ i)]
    by_cases c : frees l1 i = true
    · rw [c]
      exact add_l1 l0 l1 a2 a hl hlen h (frees_is l1 i c) l0.length 0 (by omega)
    · rw [Bool.not_eq_true] at c
      rw [c]
      have hp := h0.pos
      refine Ev.step (f := fun k => _) (fun k => by rw [purflinglaw16_HeightsAdd.l1]) ?_
      exact Base.Ev.pos (by omega) (add_end l0 l1 a2 a false 0 h.sum)
  | d + 1, i, hi => by
    have hin : i < l0.length := by omega
    have hal := h.len
    have hlen := h0.len
    have e : wrap64 ((i : Int) + 1) = ((i + 1 : Nat) : Int) := by rw [wrap_id (by omega) (by omega)]; rfl
    have t1 := take_bnd 1125899906842623 l0 (fun x hx => h0.rows x hx) (i + 1)
    have t2 := take_bnd 1152921504606846975 a h.low (i + 1)
    have t3 := h.sum
    have t4 := h0.total
    have t5 : a.sum ≤ 1000000000000000000 := by
      rw [t3]
      unfold mx
      split <;> omega
    have e1 : wrap64 ((l0.take i).sum + rd l0 i) = (l0.take (i + 1)).sum := by rw [← take_next l0 i hin]; exact wrap_id (by omega) (by omega)
    have e2 : wrap64 ((a.take i).sum + rd a i) = (a.take (i + 1)).sum := by rw [← take_next a i (by omega)]; exact wrap_id (by omega) (by omega)
    have hg := h.ge i hin
    have ef := frees_next l1 i (by omega)
    have ih := add_l0 l0 l1 a2 a hl h0 h d (i + 1) (by omega)
    refine Ev.step (f := fun k => _) (fun k => by rw [purflinglaw16_HeightsAdd.l0]) ?_
    refine Base.Ev.pos (by omega) ?_
    rw [e1, e2, e]
    rw [ef] at ih
    by_cases c : frees l1 i = true
    · rw [c, Bool.true_or] at ih
      rw [c]
      exact Base.Ev.pos rfl (Base.Ev.pos (by omega) (Base.Ev.pos (by omega) (Base.Ev.neg (by omega) ih)))
    · rw [Bool.not_eq_true] at c
      rw [c, Bool.false_or] at ih
      rw [c]
      exact Base.Ev.neg (by decide) (Base.Ev.pos (by omega) (Base.Ev.pos (by omega) (Base.Ev.pos (by omega) (Base.Ev.neg (by omega) ih))))
theorem HeightsAdd : purflinglaw16_HeightsAdd.Pure := by
  intro l0 l1 a2 _ _ _ _ _ _ _
  suffices h : Ev (fun k => purflinglaw16_HeightsAdd.f k l0 l1 a2) true from h.rounds
  obtain ⟨a1, a2', a3⟩ := mn_cut l0 100 100 rfl
  obtain ⟨b1, b2, b3⟩ := mn_cut l1 100 100 rfl
  unfold purflinglaw16_HeightsAdd.f
  rw [a3, b3]
  have hl := take_len l0 100
  refine Ev.bind shown16_ev (Base.Ev.pos a1 (Base.Ev.pos a2' (Base.Ev.pos b1 (Base.Ev.pos b2 ?_))))
  generalize l0.take 100 = l0 at *
  generalize l1.take 100 = l1 at *
  by_cases h : StrOk l0 l1 a2
  · obtain ⟨o, _, hf, hs, _⟩ := stretched h (by omega)
    rw [hf]
    generalize addAll l0 ((stretchP l1).zip o) = a at *
    exact Ev.bind (Ev.now _) (Base.Ev.pos rfl (Base.Ev.pos (by rw [hs.len]) (add_l0 l0 l1 a2 a hl h hs l0.length 0 (by omega))))
  · rw [stretch_wrong h]
    exact Ev.bind (Ev.now _) (Base.Ev.neg (by decide) (Base.Ev.pos rfl (Base.Ev.val rfl)))
end Go.Proofs.Ytacigmhhegaieaa.Pure
