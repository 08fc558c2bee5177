/- What fixed.Share hands back without an error is fair: as many shares as weights, none below 0, all of them the length. No condition. -/
import Derived.Test.YtpoboffdlnnbmaaAdds
namespace Go.Proofs.Ytpoboffdlnnbmaa.Base
open Go.RowKit Go.Proofs.Ytpoboffdlnnbmaa.PA Go.Proofs.YtpoboffdlnnbmaaW.PrintWords Go.Proofs.YtpoboffdlnnbmaaW.PrintLast Go.Proofs.YtpoboffdlnnbmaaW.PrintMore
structure Fair (total : Int) (m o : List Int) : Prop where
  may : mayShare total m.length
  good : goodW m
  len : o.length = m.length
  sum : o.sum = total
  pos : ∀ x ∈ o, 0 ≤ x ∧ x ≤ total
theorem le_of_sum (o : List Int) (t : Int) (hs : o.sum = t) (h : ∀ x ∈ o, 0 ≤ x) : ∀ x ∈ o, 0 ≤ x ∧ x ≤ t := fun x hx => ⟨h x hx, hs ▸ le_sum o h x hx⟩
theorem all_of_rd (o : List Int) (h : ∀ i : Nat, i < o.length → 0 ≤ rd o i) : ∀ x ∈ o, 0 ≤ x := by
  intro x hx
  obtain ⟨i, hi, e⟩ := List.mem_iff_getElem.1 hx
  have := h i hi
  rw [rd_nat, List.getElem?_eq_getElem hi, Option.getD_some, e] at this
  exact this
theorem evens_fair (total : Int) (n : Nat) (h : mayShare total n) : (evens total n).sum = total ∧ ∀ x ∈ evens total n, 0 ≤ x := by
  have hn : (0 : Int) < n := h.2.2.1
  have f := ones total n h
  have e1 := f.total_sum
  have e2 : shareOut total (List.replicate n 1) = evens total n := by
    rw [← evenOut_eq total _ h]
    unfold evenOut shareOut
    rw [List.length_replicate]
  rw [e2] at e1
  refine ⟨e1, fun x hx => ?_⟩
  unfold evens at hx
  obtain ⟨i, _, rfl⟩ := List.mem_map.1 hx
  have hd0 : 0 ≤ total / (n : Int) := Int.ediv_nonneg h.1 (by omega)
  show 0 ≤ total / (n : Int) + _
  split <;> omega
theorem share_fair (total : Int) (m : List Int) : fixed_Share.f total m = some ([], 10) ∨ ∃ o, fixed_Share.f total m = some (o, 0) ∧ Fair total m o := by
  unfold fixed_Share.f
  by_cases h : mayShare total m.length
  · rw [if_pos h]
    by_cases hb : m.any badW = true
    · rw [if_pos hb]
      exact .inl rfl
    · rw [if_neg hb]
      have hg := good_of m hb
      by_cases c : m.sum = 0
      · rw [if_pos c, evenOut_eq total _ h]
        obtain ⟨h1, h2⟩ := evens_fair total m.length h
        exact .inr ⟨_, rfl, h, hg, evens_length _ _, h1, le_of_sum _ _ h1 h2⟩
      · rw [if_neg c]
        have hp := sum_nonneg m (fun x hx => (hg x hx).1)
        have f : Facts total m := ⟨h, hg, by omega⟩
        have hl : (shareOut total m).length = m.length := by
          rw [f.share, bump_length]
          simp
        exact .inr ⟨_, rfl, h, hg, hl, f.total_sum, le_of_sum _ _ f.total_sum (all_of_rd _ (fun i hi => f.nonneg i (by rw [← hl]; exact hi)))⟩
  · rw [if_neg h]
    exact .inl rfl
end Go.Proofs.Ytpoboffdlnnbmaa.Base
