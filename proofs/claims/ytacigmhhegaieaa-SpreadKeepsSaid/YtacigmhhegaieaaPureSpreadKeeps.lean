/- SpreadKeeps: with enough rounds the check says true at all bands, needs and gaps. No condition. -/
import Derived.Test.YtacigmhhegaieaaPAx31
import Derived.Test.YtacigmhhegaieaaShown14
namespace Go.Proofs.Ytacigmhhegaieaa.Base
open Go.RowKit Go.Proofs.Ytacigmhhegaieaa.PA Go.Proofs.YtacigmhhegaieaaW.PrintWords Go.Proofs.YtacigmhhegaieaaW.PrintLast Go.Proofs.YtacigmhhegaieaaW.PrintMore Go.Proofs.Ytacigmhhegaieaa.Pure
theorem keeps_l (l r : List SB) (hl : l.length ≤ 100) (h : NoLess l r) : ∀ (d i : Nat), i + d = l.length → Ev (fun k => purflinglaw14_SpreadKeeps.l0 k l true r (i : Int)) true
  | 0, i, hi => by
    refine Ev.step (f := fun k => _) (fun k => by rw [purflinglaw14_SpreadKeeps.l0]) ?_
    exact Base.Ev.neg (by omega) (Base.Ev.pos rfl (Base.Ev.val (by rw [h.len]; simp)))
  | d + 1, i, hi => by
    have hin : i < l.length := by omega
    have ih := keeps_l l r hl h d (i + 1) (by omega)
    obtain ⟨h1, h2, h3, h4⟩ := h.at_ i hin
    have hlen := h.len
    refine Ev.step (f := fun k => _) (fun k => by rw [purflinglaw14_SpreadKeeps.l0, rdB, rdB, next (by omega)]) ?_
    exact Base.Ev.pos (by omega) (Base.Ev.pos (by omega) (Base.Ev.pos (by omega) (Base.Ev.neg (by omega) (Base.Ev.neg (by omega) (Base.Ev.pos h3 (Base.Ev.pos h4 ih))))))
end Go.Proofs.Ytacigmhhegaieaa.Base
namespace Go.Proofs.Ytacigmhhegaieaa.Pure
open Go.RowKit Go.Proofs.Ytacigmhhegaieaa.PA Go.Proofs.YtacigmhhegaieaaW.PrintWords Go.Proofs.YtacigmhhegaieaaW.PrintLast Go.Proofs.YtacigmhhegaieaaW.PrintMore Go.Proofs.Ytacigmhhegaieaa.Base
theorem SpreadKeeps (l : List SB) (_ : ∀ b ∈ l, good39 b) (_ : l.length ≤ maxLen) (needs : List SN) (_ : ∀ b ∈ needs, good37 b) (_ : needs.length ≤ maxLen) (gap : Int) (_ : (Lit.int .i64 gap).wf = true) : ∃ k, purflinglaw14_SpreadKeeps.f k l needs gap = some true := by
  suffices h : Ev (fun k => purflinglaw14_SpreadKeeps.f k l needs gap) true from h.rounds
  unfold purflinglaw14_SpreadKeeps.f
  rw [cut14]
  have hl : (l.take 40).length ≤ 40 := by rw [List.length_take]; omega
  generalize l.take 40 = l at *
  generalize needs.take 100 = needs at *
  refine Ev.bind shown14_ev (Ev.bind (Ev.now _) ?_)
  dsimp only
  rcases needs_answer l needs gap with ⟨_, h⟩ | ⟨hr, r, _, h, hn, _⟩
  · rw [h]
    exact Ev.bind (Ev.now _) (Base.Ev.neg (by simp) (Base.Ev.pos rfl (Base.Ev.val rfl)))
  · rw [h]
    exact Ev.bind (Ev.now _) (Base.Ev.pos rfl (Base.Ev.pos (by rw [hn.len]) (keeps_l l r (by omega) hn l.length 0 (by omega))))
end Go.Proofs.Ytacigmhhegaieaa.Pure
