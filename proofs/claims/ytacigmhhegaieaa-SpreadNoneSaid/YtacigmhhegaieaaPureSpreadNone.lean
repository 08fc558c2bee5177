/- SpreadNone: with enough rounds the check says true at all bands, needs and gaps. No condition. -/
import Derived.Test.YtacigmhhegaieaaPAx32
import Derived.Test.YtacigmhhegaieaaSame13
import Derived.Test.YtacigmhhegaieaaShown14
namespace Go.Proofs.Ytacigmhhegaieaa.Base
open Go.RowKit Go.Proofs.Ytacigmhhegaieaa.PA Go.Proofs.YtacigmhhegaieaaW.PrintWords Go.Proofs.YtacigmhhegaieaaW.PrintLast Go.Proofs.YtacigmhhegaieaaW.PrintMore Go.Proofs.Ytacigmhhegaieaa.Pure
/-- A need without widths. -/
def noneOf (x : SN) : SN := ⟨x.f0, 0, 0, x.f3⟩
theorem part_zero (gap cols : Int) (hg : 0 ≤ gap) (hc : 1 ≤ cols) : partN gap cols 0 = 0 := by
  have h0 : 0 ≤ gap * (cols - 1) := Int.mul_nonneg hg (by omega)
  unfold partN mx
  split <;> omega
theorem none_l (l : List SB) (needs : List SN) (gap : Int) (hn : needs.length ≤ 100) (R : Bool) (hR : ∀ r, r = needs.map noneOf → Ev (fun k => (spread_Needs.f l r gap).bind fun bt348 => (if bt348.2 = 0 then (if true = true then ((purflingref13_Same.f k bt348.1 l).bind fun t352 => (some t352)) else (some false)) else (if true = true then (some ((bt348.1.length : Int) == 0)) else (some false)))) R) :
    ∀ (d i : Nat), i + d = needs.length → Ev (fun k => purflinglaw14_SpreadNone.l0 k l needs gap true ((needs.map noneOf).take i) (i : Int)) R
  | 0, i, hi => by
    refine Ev.step (f := fun k => _) (fun k => by rw [purflinglaw14_SpreadNone.l0]) ?_
    refine Base.Ev.neg (by omega) (hR _ (List.take_of_length_le (by rw [List.length_map]; omega)))
  | d + 1, i, hi => by
    have hin : i < needs.length := by omega
    have ih := none_l l needs gap hn R hR d (i + 1) (by omega)
    have e : (needs.map noneOf).take (i + 1) = (needs.map noneOf).take i ++ [noneOf needs[i]] := by
      rw [List.take_succ_eq_append_getElem (by rw [List.length_map]; exact hin), List.getElem_map]
    rw [e] at ih
    refine Ev.step (f := fun k => _) (fun k => by rw [purflinglaw14_SpreadNone.l0, rdN needs i hin, next (by omega)]) ?_
    exact Base.Ev.pos (by omega) (Base.Ev.pos (by omega) (Base.Ev.pos (by rw [List.length_take]; omega) ih))
end Go.Proofs.Ytacigmhhegaieaa.Base
namespace Go.Proofs.Ytacigmhhegaieaa.Pure
open Go.RowKit Go.Proofs.Ytacigmhhegaieaa.PA Go.Proofs.YtacigmhhegaieaaW.PrintWords Go.Proofs.YtacigmhhegaieaaW.PrintLast Go.Proofs.YtacigmhhegaieaaW.PrintMore Go.Proofs.Ytacigmhhegaieaa.Base
theorem SpreadNone (l : List SB) (_ : ∀ b ∈ l, good39 b) (_ : l.length ≤ maxLen) (needs : List SN) (_ : ∀ b ∈ needs, good37 b) (_ : needs.length ≤ maxLen) (gap : Int) (_ : (Lit.int .i64 gap).wf = true) : ∃ k, purflinglaw14_SpreadNone.f k l needs gap = some true := by
  suffices h : Ev (fun k => purflinglaw14_SpreadNone.f k l needs gap) true from h.rounds
  unfold purflinglaw14_SpreadNone.f
  rw [cut14]
  have hl : (l.take 40).length ≤ 40 := by rw [List.length_take]; omega
  have hn : (needs.take 100).length ≤ 100 := by rw [List.length_take]; omega
  generalize l.take 40 = l at *
  generalize needs.take 100 = needs at *
  refine Ev.bind shown14_ev (Ev.bind (Ev.now _) ?_)
  dsimp only
  have := none_l l needs gap hn true (fun r hr => ?_) needs.length 0 (by omega)
  · rw [List.take_zero] at this
    exact this
  · rcases needs_answer l r gap with ⟨_, h⟩ | ⟨hright, r2, h1, h, hno, _⟩
    · rw [h]
      exact Ev.bind (Ev.now _) (Base.Ev.neg (by simp) (Base.Ev.pos rfl (Base.Ev.val rfl)))
    · have hsame : needsT gap (spansOut r (l.length - 1)) l = some l := by
        refine needs_same gap hright.gap0 _ l (by omega) hright.ok (fun x hx => hright.right x (spansOut_mem r _ x hx)) (fun x hx => ?_)
        have hx' := spansOut_mem r _ x hx
        have hxr := hright.right x hx'
        rw [hr] at hx'
        obtain ⟨y, _, rfl⟩ := List.mem_map.1 hx'
        have hp : partN gap (noneOf y).f0.f4 0 = 0 := part_zero gap _ hright.gap0 hxr.cols0
        obtain ⟨c1, c2, c3, c4, _, _, _⟩ := hxr
        have hle : (noneOf y).f0.f2.toNat + (noneOf y).f0.f4.toNat ≤ l.length := by omega
        refine ⟨?_, ?_⟩
        · show partN gap (noneOf y).f0.f4 0 ≤ _
          rw [hp]
          exact sum_nonneg _ (fun z hz => (mins_wide hright.ok _ _ hle z hz).1)
        · show partN gap (noneOf y).f0.f4 0 ≤ _
          rw [hp]
          exact sum_nonneg _ (fun z hz => (most_wide hright.ok _ _ hle z hz).1)
      rw [h1] at hsame
      obtain rfl := Option.some.inj hsame
      rw [h]
      exact Ev.bind (Ev.now _) (Base.Ev.pos rfl (Base.Ev.pos rfl (Ev.bind (same13 _ (by dsimp only; omega)) (Ev.now _))))
end Go.Proofs.Ytacigmhhegaieaa.Pure
