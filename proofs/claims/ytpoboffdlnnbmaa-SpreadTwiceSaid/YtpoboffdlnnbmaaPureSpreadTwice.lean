/- SpreadTwice: with enough rounds the check says true at all sizes, needs and gaps. No condition. -/
import Derived.Test.YtpoboffdlnnbmaaPAx26
import Derived.Test.YtpoboffdlnnbmaaSame13
import Derived.Test.YtpoboffdlnnbmaaShown14
namespace Go.Proofs.Ytpoboffdlnnbmaa.Base
open Go.RowKit Go.Proofs.Ytpoboffdlnnbmaa.PA Go.Proofs.YtpoboffdlnnbmaaW.PrintWords Go.Proofs.YtpoboffdlnnbmaaW.PrintLast Go.Proofs.YtpoboffdlnnbmaaW.PrintMore Go.Proofs.Ytpoboffdlnnbmaa.Pure
theorem needs_again {l r : List SB} {needs : List SN} {gap : Int} (h : needsOk l needs gap) (hn : NoLess l r) : needsOk r needs gap := by
  obtain ⟨h1, h2, h3⟩ := h
  refine ⟨by rw [hn.len]; exact h1, ?_, by rw [hn.len]; exact h3⟩
  have hfew : l.length ≤ 100 := by
    unfold fewN at h1
    simp only [Bool.and_eq_true, decide_eq_true_eq] at h1
    exact h1.1.1.1
  have hb : bandsOk r = true := List.all_eq_true.2 (fun b hb => decide_eq_true (hn.ok b hb))
  rw [right_prog r (by rw [hn.len]; omega), hb]
/-- Spread once, spread twice. -/
theorem needs_twice (l : List SB) (needs : List SN) (gap : Int) : spread_Needs.f l needs gap = some ([], 130) ∨
    ∃ r, spread_Needs.f l needs gap = some (r, 0) ∧ r.length = l.length ∧ spread_Needs.f r needs gap = some (r, 0) := by
  by_cases h : needsOk l needs gap
  · have hr := needs_right_of h
    obtain ⟨r, h1, h2, h3⟩ := needs_all gap hr.gap0 (spansOut needs (l.length - 1)) l (by have := hr.few; omega) hr.ok (fun x hx => hr.right x (spansOut_mem needs _ x hx))
    have hk := needs_again h h2
    have hs : needsT gap (spansOut needs (l.length - 1)) r = some r := by
      refine needs_same gap hr.gap0 _ r (by rw [h2.len]; have := hr.few; omega) h2.ok (fun x hx => ?_) h3
      rw [h2.len]
      exact hr.right x (spansOut_mem needs _ x hx)
    refine .inr ⟨r, ?_, h2.len, ?_⟩
    · unfold spread_Needs.f
      rw [if_pos h, h1]
      rfl
    · unfold spread_Needs.f
      rw [if_pos hk, h2.len, hs]
      rfl
  · refine .inl ?_
    unfold spread_Needs.f
    rw [if_neg h]
end Go.Proofs.Ytpoboffdlnnbmaa.Base
namespace Go.Proofs.Ytpoboffdlnnbmaa.Pure
open Go.RowKit Go.Proofs.Ytpoboffdlnnbmaa.PA Go.Proofs.YtpoboffdlnnbmaaW.PrintWords Go.Proofs.YtpoboffdlnnbmaaW.PrintLast Go.Proofs.YtpoboffdlnnbmaaW.PrintMore Go.Proofs.Ytpoboffdlnnbmaa.Base
theorem SpreadTwice (l : List S44) (_ : ∀ b ∈ l, good44 b) (_ : l.length ≤ maxLen) (needs : List SN) (_ : ∀ b ∈ needs, good53 b) (_ : needs.length ≤ maxLen) (gap : Int) (_ : (Lit.int .i64 gap).wf = true) : ∃ k, purflinglaw14_SpreadTwice.f k l needs gap = some true := by
  suffices h : Ev (fun k => purflinglaw14_SpreadTwice.f k l needs gap) true from h.rounds
  unfold purflinglaw14_SpreadTwice.f
  rw [cut13]
  have hl : (l.take 40).length ≤ 40 := by rw [List.length_take]; omega
  have hn : (needs.take 100).length ≤ 100 := by rw [List.length_take]; omega
  generalize l.take 40 = l at *
  generalize needs.take 100 = needs at *
  refine Ev.bind shown14_ev (Ev.bind (Ev.now _) ?_)
  dsimp only
  unfold columns_Bands.f
  rw [if_pos (by omega)]
  by_cases hb : columns_Right.f l needs = some true
  · rw [if_pos hb]
    refine Ev.bind (Ev.now _) (Base.Ev.pos rfl ?_)
    dsimp only
    have hlen := bandsT_length l needs
    generalize bandsT l needs = B at hlen
    rcases needs_twice B needs gap with h | ⟨r, h1, h2, h3⟩
    · rw [h]
      refine Ev.bind (Ev.now _) (Base.Ev.neg (by simp) (Base.Ev.pos rfl ?_))
      by_cases g0 : gap < 0
      · exact Base.Ev.pos g0 (Base.Ev.val rfl)
      · by_cases g1 : gap > 1073741824
        · exact Base.Ev.neg g0 (Base.Ev.pos g1 (Base.Ev.val rfl))
        · exact Base.Ev.neg g0 (Base.Ev.neg g1 (Base.Ev.val rfl))
    · rw [h1]
      refine Ev.bind (Ev.now _) (Base.Ev.pos rfl ?_)
      dsimp only
      rw [h3]
      exact Ev.bind (Ev.now _) (Base.Ev.pos rfl (Base.Ev.pos rfl (Ev.bind (same13 r (by omega)) (Ev.now _))))
  · rw [if_neg hb]
    exact Ev.bind (Ev.now _) (Base.Ev.neg (by simp) (Base.Ev.val rfl))
end Go.Proofs.Ytpoboffdlnnbmaa.Pure
