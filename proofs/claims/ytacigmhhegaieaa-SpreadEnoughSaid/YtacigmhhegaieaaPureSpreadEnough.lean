/- SpreadEnough: with enough rounds the check says true at all bands, needs and gaps. No condition. -/
import Derived.Test.YtacigmhhegaieaaPAx30
import Derived.Test.YtacigmhhegaieaaShown14
namespace Go.Proofs.Ytacigmhhegaieaa.Base
open Go.RowKit Go.Proofs.Ytacigmhhegaieaa.PA Go.Proofs.YtacigmhhegaieaaW.PrintWords Go.Proofs.YtacigmhhegaieaaW.PrintLast Go.Proofs.YtacigmhhegaieaaW.PrintMore Go.Proofs.Ytacigmhhegaieaa.Pure
theorem take_sum (o : List Int) (i : Nat) (h : i < o.length) : (o.take (i + 1)).sum = (o.take i).sum + rd o i := by
  rw [List.take_succ_eq_append_getElem h, List.sum_append, rd_nat, List.getElem?_eq_getElem h]
  simp
theorem take_wide (o : List Int) (h : ∀ x ∈ o, wide x) (i : Nat) : 0 ≤ (o.take i).sum ∧ (o.take i).sum ≤ o.length * 1125899906842623 := by
  have h1 := sum_nonneg (o.take i) (fun x hx => (h x (List.mem_of_mem_take hx)).1)
  have h2 := sum_nonneg (o.drop i) (fun x hx => (h x (List.mem_of_mem_drop hx)).1)
  have h3 := sum_le 1125899906842623 o (fun x hx => (h x hx).2)
  have h4 : o.sum = (o.take i).sum + (o.drop i).sum := by rw [← List.sum_append, List.take_append_drop]
  omega
/-- The gaps of a need of so many columns. -/
theorem gaps_bound (gap cols : Int) (hg : 0 ≤ gap) (hg1 : gap ≤ 1073741824) (hc : 1 ≤ cols) (hc1 : cols ≤ 100) : 0 ≤ gap * (cols - 1) ∧ gap * (cols - 1) ≤ 107374182400 := by
  have h0 : 0 ≤ gap * (cols - 1) := Int.mul_nonneg hg (by omega)
  have h1 : gap * (cols - 1) ≤ 1073741824 * 100 := Int.mul_le_mul hg1 (by omega) (by omega) (by omega)
  omega
/-- The columns of one need, summed. -/
theorem enough_l1 (needs : List SN) (gap : Int) (r : List SB) (x10 : Int) (R : Bool) (x : SN) (p0 p1 p2 p3 : Int) (hl : r.length ≤ 100) (hr : ∀ b ∈ r, Okb b) (hx : RightN r.length x) (hg : 0 ≤ gap) (hg1 : gap ≤ 1073741824) (h10 : 0 ≤ x10 ∧ x10 < (needs.length : Int)) (hrd : rd_T37 needs x10 = x)
    (h1 : x.f1 ≤ gap * (x.f0.f4 - 1) + (minsOf r x.f0.f2.toNat x.f0.f4.toNat).sum) (h2 : x.f2 ≤ gap * (x.f0.f4 - 1) + (mostOf r x.f0.f2.toNat x.f0.f4.toNat).sum)
    (hR : Ev (fun k => purflinglaw14_SpreadEnough.l0 k needs gap true r (wrap64 (x10 + 1))) R) :
    ∀ (d i : Nat), i + d = x.f0.f4.toNat → Ev (fun k => purflinglaw14_SpreadEnough.l1 k needs gap true r x10 (gap * (x.f0.f4 - 1) + ((minsOf r x.f0.f2.toNat x.f0.f4.toNat).take i).sum) (gap * (x.f0.f4 - 1) + ((mostOf r x.f0.f2.toNat x.f0.f4.toNat).take i).sum) (x.f0.f2 + (i : Int)) p0 p1 x.f0.f2 p3 x.f0.f4) R
  | 0, i, hi => by
    obtain ⟨c1, c2, c3, c4, _, _, _⟩ := hx
    have hle : x.f0.f2.toNat + x.f0.f4.toNat ≤ r.length := by omega
    have e : wrap64 (x.f0.f2 + x.f0.f4) = x.f0.f2 + x.f0.f4 := wrap_id (by omega) (by omega)
    refine Ev.step (f := fun k => _) (fun k => by rw [purflinglaw14_SpreadEnough.l1, e, hrd]) ?_
    rw [List.take_of_length_le (by rw [minsOf_length _ _ _ hle]; omega), List.take_of_length_le (by rw [mostOf_length _ _ _ hle]; omega)]
    exact Base.Ev.neg (by omega) (Base.Ev.pos h10.1 (Base.Ev.pos h10.2 (Base.Ev.neg (by omega) (Base.Ev.neg (by omega) hR))))
  | d + 1, i, hi => by
    have hx' := hx
    obtain ⟨c1, c2, c3, c4, _, _, _⟩ := hx'
    have hle : x.f0.f2.toNat + x.f0.f4.toNat ≤ r.length := by omega
    have hin : i < x.f0.f4.toNat := by omega
    have e : wrap64 (x.f0.f2 + x.f0.f4) = x.f0.f2 + x.f0.f4 := wrap_id (by omega) (by omega)
    have e1 : wrap64 (x.f0.f2 + (i : Int) + 1) = x.f0.f2 + ((i + 1 : Nat) : Int) := by rw [wrap_id (by omega) (by omega)]; omega
    have hix : x.f0.f2 + (i : Int) = ((x.f0.f2.toNat + i : Nat) : Int) := by omega
    have lm := minsOf_length r _ _ hle
    have lx := mostOf_length r _ _ hle
    have hb0 := take_wide _ (mins_wide hr _ _ hle) (i + 1)
    have hb1 := take_wide _ (most_wide hr _ _ hle) (i + 1)
    have gb := gaps_bound gap x.f0.f4 hg hg1 c3 (by omega)
    have s0 := take_sum (minsOf r x.f0.f2.toNat x.f0.f4.toNat) i (by omega)
    have s1 := take_sum (mostOf r x.f0.f2.toNat x.f0.f4.toNat) i (by omega)
    rw [minsOf_at _ _ _ i hle hin] at s0
    rw [mostOf_at _ _ _ i hle hin] at s1
    rw [lm] at hb0
    rw [lx] at hb1
    have ih := enough_l1 needs gap r x10 R x p0 p1 p2 p3 hl hr hx hg hg1 h10 hrd h1 h2 hR d (i + 1) (by omega)
    have w0 : wrap64 (gap * (x.f0.f4 - 1) + ((minsOf r x.f0.f2.toNat x.f0.f4.toNat).take i).sum + (bAt r (x.f0.f2.toNat + i)).f0) = gap * (x.f0.f4 - 1) + ((minsOf r x.f0.f2.toNat x.f0.f4.toNat).take (i + 1)).sum := by
      rw [s0, wrap_id (by omega) (by omega)]
      omega
    have w1 : wrap64 (gap * (x.f0.f4 - 1) + ((mostOf r x.f0.f2.toNat x.f0.f4.toNat).take i).sum + (bAt r (x.f0.f2.toNat + i)).f1) = gap * (x.f0.f4 - 1) + ((mostOf r x.f0.f2.toNat x.f0.f4.toNat).take (i + 1)).sum := by
      rw [s1, wrap_id (by omega) (by omega)]
      omega
    have hrb : rd_T39 r (x.f0.f2 + (i : Int)) = bAt r (x.f0.f2.toNat + i) := by rw [hix, rdB]
    refine Ev.step (f := fun k => _) (fun k => by rw [purflinglaw14_SpreadEnough.l1, e, hrb, e1, w0, w1]) ?_
    exact Base.Ev.pos (by omega) (Base.Ev.pos (by omega) (Base.Ev.pos (by omega) ih))
theorem enough_sum (gap cols n s : Int) (h : partN gap cols n ≤ s) : n ≤ gap * (cols - 1) + s := by
  unfold partN mx at h
  split at h <;> omega
theorem enough_l0 (needs : List SN) (gap : Int) (r : List SB) (hl : r.length ≤ 100) (hn : needs.length ≤ 100) (hr : ∀ b ∈ r, Okb b) (hg : 0 ≤ gap) (hg1 : gap ≤ 1073741824) (hx : ∀ x ∈ needs, RightN r.length x) (he : ∀ x ∈ needs, 2 ≤ x.f0.f4 → Enough gap x r) :
    ∀ (d i : Nat), i + d = needs.length → Ev (fun k => purflinglaw14_SpreadEnough.l0 k needs gap true r (i : Int)) true
  | 0, i, hi => by
    refine Ev.step (f := fun k => _) (fun k => by rw [purflinglaw14_SpreadEnough.l0]) ?_
    refine Base.Ev.neg (by omega) (Base.Ev.pos rfl ?_)
    rw [right_prog r (by omega)]
    have : bandsOk r = true := List.all_eq_true.2 (fun b hb => decide_eq_true (hr b hb))
    rw [this]
    exact Ev.bind (Ev.now _) (Ev.now _)
  | d + 1, i, hi => by
    have hin : i < needs.length := by omega
    have ih := enough_l0 needs gap r hl hn hr hg hg1 hx he d (i + 1) (by omega)
    have hxi := hx needs[i] (List.getElem_mem hin)
    have hei := he needs[i] (List.getElem_mem hin)
    have hrd := rdN needs i hin
    have hxi' := hxi
    obtain ⟨c1, c2, c3, c4, _, _, _⟩ := hxi'
    refine Ev.step (f := fun k => _) (fun k => by rw [purflinglaw14_SpreadEnough.l0, hrd]) ?_
    refine Base.Ev.pos (by omega) (Base.Ev.pos (by omega) ?_)
    by_cases c : needs[i].f0.f4 < 2
    · refine Base.Ev.pos c ?_
      rw [next (by omega)]
      exact ih
    · refine Base.Ev.neg c ?_
      have he2 := hei (by omega)
      have gb := gaps_bound gap needs[i].f0.f4 hg hg1 c3 (by omega)
      have hw : wrap64 (needs[i].f0.f4 - 1) = needs[i].f0.f4 - 1 := wrap_id (by omega) (by omega)
      have hw2 : wrap64 (gap * (needs[i].f0.f4 - 1)) = gap * (needs[i].f0.f4 - 1) := wrap_id (by omega) (by omega)
      rw [hw, hw2]
      have := enough_l1 needs gap r (i : Int) true needs[i] needs[i].f0.f0 needs[i].f0.f1 needs[i].f0.f2 needs[i].f0.f3 hl hr hxi hg hg1 ⟨by omega, by omega⟩ hrd (enough_sum _ _ _ _ he2.least) (enough_sum _ _ _ _ he2.most) (by rw [next (by omega)]; exact ih) needs[i].f0.f4.toNat 0 (by omega)
      simp only [List.take_zero, List.sum_nil, Int.add_zero, Int.natCast_zero] at this
      exact this
end Go.Proofs.Ytacigmhhegaieaa.Base
namespace Go.Proofs.Ytacigmhhegaieaa.Pure
open Go.RowKit Go.Proofs.Ytacigmhhegaieaa.PA Go.Proofs.YtacigmhhegaieaaW.PrintWords Go.Proofs.YtacigmhhegaieaaW.PrintLast Go.Proofs.YtacigmhhegaieaaW.PrintMore Go.Proofs.Ytacigmhhegaieaa.Base
theorem SpreadEnough (l : List SB) (_ : ∀ b ∈ l, good39 b) (_ : l.length ≤ maxLen) (needs : List SN) (_ : ∀ b ∈ needs, good37 b) (_ : needs.length ≤ maxLen) (gap : Int) (_ : (Lit.int .i64 gap).wf = true) : ∃ k, purflinglaw14_SpreadEnough.f k l needs gap = some true := by
  suffices h : Ev (fun k => purflinglaw14_SpreadEnough.f k l needs gap) true from h.rounds
  unfold purflinglaw14_SpreadEnough.f
  rw [cut14]
  have hl : (l.take 40).length ≤ 40 := by rw [List.length_take]; omega
  have hn : (needs.take 100).length ≤ 100 := by rw [List.length_take]; omega
  generalize l.take 40 = l at *
  generalize needs.take 100 = needs at *
  refine Ev.bind shown14_ev (Ev.bind (Ev.now _) ?_)
  dsimp only
  rcases needs_answer l needs gap with ⟨_, h⟩ | ⟨hr, r, _, h, hno, he⟩
  · rw [h]
    exact Ev.bind (Ev.now _) (Base.Ev.neg (by simp) (Ev.now _))
  · rw [h]
    have hlen := hno.len
    exact Ev.bind (Ev.now _) (Base.Ev.pos rfl (Base.Ev.pos (by rw [hlen]) (enough_l0 needs gap r (by omega) hn hno.ok hr.gap0 hr.gap1 (fun x hx => by rw [hlen]; exact hr.right x hx) he needs.length 0 (by omega))))
end Go.Proofs.Ytacigmhhegaieaa.Pure
