/- HeightsEnough: with enough rounds the check says true at all wanted heights, places, heights and gaps: rows are high enough for their cells. No condition. -/
import Derived.Test.YtacigmhhegaieaaPAx49
import Derived.Test.YtacigmhhegaieaaShown16
import Derived.Test.YtacigmhhegaieaaLeastOne
import Derived.Test.YtacigmhhegaieaaCut16
import Derived.Test.YtacigmhhegaieaaOpen
namespace Go.Proofs.Ytacigmhhegaieaa.Pure
open Go.RowKit Go.Proofs.Ytacigmhhegaieaa.PA Go.Proofs.YtacigmhhegaieaaW.PrintWords Go.Proofs.YtacigmhhegaieaaW.PrintLast Go.Proofs.YtacigmhhegaieaaW.PrintMore Go.Proofs.Ytacigmhhegaieaa.Base
theorem gaps_bnd (gap rows : Int) (hg : 0 ≤ gap) (hg1 : gap ≤ 1073741824) (hc : 1 ≤ rows) (hc1 : rows ≤ 60) : 0 ≤ gap * (rows - 1) ∧ gap * (rows - 1) ≤ 107374182400 := by
  have h0 : 0 ≤ gap * (rows - 1) := Int.mul_nonneg hg (by omega)
  have h1 : gap * (rows - 1) ≤ 1073741824 * 100 := Int.mul_le_mul hg1 (by omega) (by omega) (by omega)
  omega
theorem enough_l2 (l1 : List SPl) (l2 : List Int) (gap : Int) (o : List Int) (ho : o.length ≤ 60) (how : ∀ x ∈ o, wide x) (j : Nat) (hj1 : j < l1.length) (hj2 : j < l2.length) (hg : 0 ≤ gap) (hg1 : gap ≤ 1073741824)
    (hx : InRows o.length ⟨l1[j], l2[j]⟩) (he : EnoughH gap ⟨l1[j], l2[j]⟩ o) (R : Bool) (hR : Ev (fun k => purflinglaw16_HeightsEnough.l1 k l1 l2 gap true o (wrap64 ((j : Int) + 1))) R) :
    ∀ (d i : Nat), i + d = l1[j].f3.toNat → Ev (fun k => purflinglaw16_HeightsEnough.l2 k l1 l2 gap true o (j : Int) (gap * (l1[j].f3 - 1) + ((partH o l1[j].f1.toNat l1[j].f3.toNat).take i).sum) (l1[j].f1 + (i : Int))) R
  | 0, i, hi => by
    obtain ⟨c1, c2, c3, c4, c5⟩ := hx
    unfold EnoughH at he
    dsimp only at c1 c2 c3 c4 c5 he
    have hn : l1[j].f1.toNat + l1[j].f3.toNat ≤ o.length := by omega
    have e : wrap64 (l1[j].f1 + l1[j].f3) = l1[j].f1 + l1[j].f3 := wrap_id (by omega) (by omega)
    have hrd := rdP l1 j hj1
    have hrd2 : rd l2 (j : Int) = l2[j] := by rw [rd_nat, List.getElem?_eq_getElem hj2]; rfl
    refine Ev.step (f := fun k => _) (fun k => by rw [purflinglaw16_HeightsEnough.l2]) ?_
    rw [hrd, hrd2, e, List.take_of_length_le (by rw [partH_length _ _ _ hn]; omega)]
    exact Base.Ev.pos (by omega) (Base.Ev.pos (by omega) (Base.Ev.neg (by omega) (Base.Ev.pos (by omega) (Base.Ev.neg (by omega) hR))))
  | d + 1, i, hi => by
    have hx' := hx
    obtain ⟨c1, c2, c3, c4, c5⟩ := hx'
    dsimp only at c1 c2 c3 c4 c5
    have hn : l1[j].f1.toNat + l1[j].f3.toNat ≤ o.length := by omega
    have hin : i < l1[j].f3.toNat := by omega
    have e : wrap64 (l1[j].f1 + l1[j].f3) = l1[j].f1 + l1[j].f3 := wrap_id (by omega) (by omega)
    have e1 : wrap64 (l1[j].f1 + (i : Int) + 1) = l1[j].f1 + ((i + 1 : Nat) : Int) := by rw [wrap_id (by omega) (by omega)]; omega
    have hix : l1[j].f1 + (i : Int) = ((l1[j].f1.toNat + i : Nat) : Int) := by omega
    have hrd := rdP l1 j hj1
    have hpl := partH_length o _ _ hn
    have hpw : ∀ y ∈ partH o l1[j].f1.toNat l1[j].f3.toNat, wide y := fun y hy => how y (by
      unfold partH at hy
      exact List.mem_of_mem_drop (List.mem_of_mem_take hy))
    have hb := take_bnd 1125899906842623 _ hpw (i + 1)
    rw [hpl] at hb
    have gb := gaps_bnd gap l1[j].f3 hg hg1 c2 (by omega)
    have s0 := take_next (partH o l1[j].f1.toNat l1[j].f3.toNat) i (by omega)
    rw [partH_at o _ _ i hin] at s0
    have ih := enough_l2 l1 l2 gap o ho how j hj1 hj2 hg hg1 hx he R hR d (i + 1) (by omega)
    have w0 : wrap64 (gap * (l1[j].f3 - 1) + ((partH o l1[j].f1.toNat l1[j].f3.toNat).take i).sum + rd o ((l1[j].f1.toNat + i : Nat) : Int)) = gap * (l1[j].f3 - 1) + ((partH o l1[j].f1.toNat l1[j].f3.toNat).take (i + 1)).sum := by
      rw [wrap_id (by omega) (by omega)]
      omega
    refine Ev.step (f := fun k => _) (fun k => by rw [purflinglaw16_HeightsEnough.l2]) ?_
    rw [hrd, e, e1, hix, w0]
    rw [← hix]
    exact Base.Ev.pos (by omega) (Base.Ev.pos (by omega) (Base.Ev.pos (by omega) (Base.Ev.pos (by omega) (Base.Ev.pos (by omega) ih))))
theorem enough_l1 (l1 : List SPl) (l2 : List Int) (gap : Int) (o : List Int) (ho : o.length ≤ 60) (how : ∀ x ∈ o, wide x) (hl : l1.length ≤ 100) (hlen : l1.length = l2.length) (hg : 0 ≤ gap) (hg1 : gap ≤ 1073741824)
    (hx : ∀ x ∈ cellsL l1 l2, InRows o.length x) (he : ∀ x ∈ cellsL l1 l2, EnoughH gap x o) : ∀ (d j : Nat), j + d = l1.length → Ev (fun k => purflinglaw16_HeightsEnough.l1 k l1 l2 gap true o (j : Int)) true
  | 0, j, hj => by
    refine Ev.step (f := fun k => _) (fun k => by rw [purflinglaw16_HeightsEnough.l1]) ?_
    exact Base.Ev.neg (by omega) (Ev.now _)
  | d + 1, j, hj => by
    have hj1 : j < l1.length := by omega
    have hj2 : j < l2.length := by omega
    have hmem : (⟨l1[j], l2[j]⟩ : HCell) ∈ cellsL l1 l2 := by
      have hz : j < (cellsL l1 l2).length := by unfold cellsL; rw [List.length_zipWith]; omega
      have : (cellsL l1 l2)[j] = ⟨l1[j], l2[j]⟩ := List.getElem_zipWith (f := HCell.mk)
      rw [← this]
      exact List.getElem_mem hz
    have hxj := hx _ hmem
    have e : wrap64 ((j : Int) + 1) = ((j + 1 : Nat) : Int) := by rw [wrap_id (by omega) (by omega)]; rfl
    have ih := enough_l1 l1 l2 gap o ho how hl hlen hg hg1 hx he d (j + 1) (by omega)
    rw [← e] at ih
    have h2 := enough_l2 l1 l2 gap o ho how j hj1 hj2 hg hg1 hxj (he _ hmem) true ih l1[j].f3.toNat 0 (by omega)
    obtain ⟨c1, c2, c3, c4, c5⟩ := hxj
    dsimp only at c1 c2 c3 c4 c5
    have gb := gaps_bnd gap l1[j].f3 hg hg1 c2 (by omega)
    have w1 : wrap64 (l1[j].f3 - 1) = l1[j].f3 - 1 := wrap_id (by omega) (by omega)
    have w2 : wrap64 (gap * (l1[j].f3 - 1)) = gap * (l1[j].f3 - 1) := wrap_id (by omega) (by omega)
    have z1 : gap * (l1[j].f3 - 1) + ((partH o l1[j].f1.toNat l1[j].f3.toNat).take 0).sum = gap * (l1[j].f3 - 1) := by simp
    have z2 : l1[j].f1 + ((0 : Nat) : Int) = l1[j].f1 := by omega
    rw [z1, z2] at h2
    refine Ev.step (f := fun k => _) (fun k => by rw [purflinglaw16_HeightsEnough.l1]) ?_
    rw [rdP l1 j hj1, w1, w2]
    exact Base.Ev.pos (by omega) (Base.Ev.pos (by omega) h2)
theorem enough_l0 (l0 : List Int) (l1 : List SPl) (l2 : List Int) (gap : Int) (o : List Int) (hl0 : l0.length ≤ 60) (hol : o.length = l0.length) (hge : ∀ i : Nat, i < l0.length → 0 ≤ rd o i ∧ rd l0 i ≤ rd o i)
    (hR : Ev (fun k => purflinglaw16_HeightsEnough.l1 k l1 l2 gap true o 0) true) : ∀ (d i : Nat), i + d = l0.length → Ev (fun k => purflinglaw16_HeightsEnough.l0 k l0 l1 l2 gap true o (i : Int)) true
  | 0, i, hi => by
    refine Ev.step (f := fun k => _) (fun k => by rw [purflinglaw16_HeightsEnough.l0]) ?_
    exact Base.Ev.neg (by omega) hR
  | d + 1, i, hi => by
    have hin : i < l0.length := by omega
    obtain ⟨g1, g2⟩ := hge i hin
    have e : wrap64 ((i : Int) + 1) = ((i + 1 : Nat) : Int) := by rw [wrap_id (by omega) (by omega)]; rfl
    have ih := enough_l0 l0 l1 l2 gap o hl0 hol hge hR d (i + 1) (by omega)
    refine Ev.step (f := fun k => _) (fun k => by rw [purflinglaw16_HeightsEnough.l0]) ?_
    rw [e]
    exact Base.Ev.pos (by omega) (Base.Ev.pos (by omega) (Base.Ev.pos (by omega) (Base.Ev.neg (by omega) (Base.Ev.neg (by omega) ih))))
theorem HeightsEnough (l0 : List Int) (_ : ∀ a ∈ l0, good64 a) (_ : l0.length ≤ maxLen) (l1 : List SPl) (_ : ∀ a ∈ l1, good33 a) (_ : l1.length ≤ maxLen) (l2 : List Int) (_ : ∀ a ∈ l2, good64 a) (_ : l2.length ≤ maxLen) (a3 : Int) (_ : (Lit.int .i64 a3).wf = true) :
    ∃ k, purflinglaw16_HeightsEnough.f k l0 l1 l2 a3 = some true := by
  suffices h : Ev (fun k => purflinglaw16_HeightsEnough.f k l0 l1 l2 a3) true from h.rounds
  unfold purflinglaw16_HeightsEnough.f
  rw [cut16]
  have hl0 := take_len l0 60
  have hl1 := take_len l1 100
  have hl2 := take_len l2 100
  refine Ev.bind shown16_ev (Ev.bind (Ev.now _) ?_)
  dsimp only
  generalize l0.take 60 = l0 at *
  generalize l1.take 100 = l1 at *
  generalize l2.take 100 = l2 at *
  by_cases h : leastOk l0 l1 l2 a3 = true
  · obtain ⟨o, hf, _, hn, he⟩ := least_answer (by omega) h
    have hI := (leastOk_iff _ _ _ _).1 h
    have hr : rightH l0 l1 l2 a3 = true := by
      unfold leastOk at h
      rw [Bool.and_eq_true] at h
      exact h.1
    obtain ⟨q1, q2, q3, q4⟩ := right_cells hr
    have hol : o.length = l0.length := by rw [hn.len, List.length_map]
    rw [hf]
    refine Ev.bind (Ev.now _) (Base.Ev.pos rfl (Base.Ev.pos (by rw [hol]) ?_))
    refine enough_l0 l0 l1 l2 a3 o hl0 hol (fun i hi => ?_) ?_ l0.length 0 (by omega)
    · have := hn.ge i (by rw [List.length_map]; exact hi)
      have e : rd (l0.map (fun n => mx n 0)) (i : Int) = mx (rd l0 i) 0 := by
        rw [rd_nat, rd_nat, List.getElem?_map, List.getElem?_eq_getElem hi]
        rfl
      rw [e] at this
      have hm := le_mxH (rd l0 i) 0
      omega
    · exact enough_l1 l1 l2 a3 o (by omega) hn.ok hl1 q1 q2 q3 (fun x hx => by rw [hol]; exact q4 x hx) he l1.length 0 (by omega)
  · rw [least_wrong (by omega) h]
    exact Ev.bind (Ev.now _) (Base.Ev.neg (by decide) (Base.Ev.pos rfl (Base.Ev.val rfl)))
end Go.Proofs.Ytacigmhhegaieaa.Pure
