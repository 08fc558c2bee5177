/- HeightsStay: with enough rounds the check says true at all rows and wanted heights: rows that are as high as the total stay. No condition. -/
import Derived.Test.YtacigmhhegaieaaPAx53
import Derived.Test.YtacigmhhegaieaaShown16
import Derived.Test.YtacigmhhegaieaaStretchT
import Derived.Test.YtacigmhhegaieaaCutH
namespace Go.Proofs.Ytacigmhhegaieaa.Pure
open Go.RowKit Go.Proofs.Ytacigmhhegaieaa.PA Go.Proofs.YtacigmhhegaieaaW.PrintWords Go.Proofs.YtacigmhhegaieaaW.PrintLast Go.Proofs.YtacigmhhegaieaaW.PrintMore Go.Proofs.Ytacigmhhegaieaa.Base
theorem stay_l0 (l0 l1 : List Int) (hl : l0.length ≤ 100) (h0 : StrOk l0 l1 0) : ∀ (d i : Nat), i + d = l0.length → Ev (fun k => purflinglaw16_HeightsStay.l0 k l0 l1 true l0 (l0.take i).sum (i : Int)) true
  | 0, i, hi => by
    have hb := take_bnd 1125899906842623 l0 (fun x hx => h0.rows x hx) i
    have hs : StrOk l0 l1 l0.sum := { h0 with total := by omega }
    refine Ev.step (f := fun k => _) (fun k => by rw [purflinglaw16_HeightsStay.l0]) ?_
    refine Base.Ev.neg (by omega) ?_
    rw [List.take_of_length_le (by omega), stretch_same hs (by omega) (Int.le_refl _)]
    refine Ev.bind (Ev.now _) (Base.Ev.pos rfl (Base.Ev.pos rfl ?_))
    exact Ev.bind (same_self l0 (by omega)) (Base.Ev.pos rfl (Ev.bind (same_self l0 (by omega)) (Ev.now _)))
  | d + 1, i, hi => by
    have hin : i < l0.length := by omega
    have e : wrap64 ((i : Int) + 1) = ((i + 1 : Nat) : Int) := by rw [wrap_id (by omega) (by omega)]; rfl
    have t1 := take_bnd 1125899906842623 l0 (fun x hx => h0.rows x hx) (i + 1)
    have e1 : wrap64 ((l0.take i).sum + rd l0 i) = (l0.take (i + 1)).sum := by rw [← take_next l0 i hin]; exact wrap_id (by omega) (by omega)
    have ih := stay_l0 l0 l1 hl h0 d (i + 1) (by omega)
    refine Ev.step (f := fun k => _) (fun k => by rw [purflinglaw16_HeightsStay.l0]) ?_
    refine Base.Ev.pos (by omega) (Base.Ev.pos (by omega) ?_)
    rw [e1, e]
    exact ih
theorem HeightsStay : purflinglaw16_HeightsStay.Pure := by
  intro l0 l1 _ _ _ _ _ _
  suffices h : Ev (fun k => purflinglaw16_HeightsStay.f k l0 l1) true from h.rounds
  obtain ⟨a1, a2, a3⟩ := mn_cut l0 100 100 rfl
  obtain ⟨b1, b2, b3⟩ := mn_cut l1 100 100 rfl
  unfold purflinglaw16_HeightsStay.f
  rw [a3, b3]
  have hl := take_len l0 100
  refine Ev.bind shown16_ev (Base.Ev.pos a1 (Base.Ev.pos a2 (Base.Ev.pos b1 (Base.Ev.pos b2 ?_))))
  generalize l0.take 100 = l0 at *
  generalize l1.take 100 = l1 at *
  by_cases h : StrOk l0 l1 0
  · have hb := take_bnd 1125899906842623 l0 (fun x hx => h.rows x hx) 0
    rw [stretch_same h (by omega) (by omega)]
    exact Ev.bind (Ev.now _) (Base.Ev.pos rfl (stay_l0 l0 l1 hl h l0.length 0 (by omega)))
  · rw [stretch_wrong h]
    exact Ev.bind (Ev.now _) (Base.Ev.neg (by decide) (Base.Ev.pos rfl (Base.Ev.val rfl)))
end Go.Proofs.Ytacigmhhegaieaa.Pure
