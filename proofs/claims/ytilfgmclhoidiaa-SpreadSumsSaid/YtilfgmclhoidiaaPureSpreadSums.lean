/- SpreadSums: with enough rounds the check says true at every length, all lengths and weights: what is spread adds up, and nothing is less. No condition. -/
import Derived.Test.YtilfgmclhoidiaaPAx21
import Derived.Test.YtilfgmclhoidiaaOver
namespace Go.Proofs.Ytilfgmclhoidiaa.Pure
open Go.RowKit Go.Proofs.Ytilfgmclhoidiaa.PA Go.Proofs.YtilfgmclhoidiaaW.PrintWords Go.Proofs.YtilfgmclhoidiaaW.PrintLast Go.Proofs.YtilfgmclhoidiaaW.PrintMore Go.Proofs.Ytilfgmclhoidiaa.Base
theorem shown14 : purflinglaw14_shown.f 100 = some true := by decide +kernel
theorem shown14_ev : Ev purflinglaw14_shown.f true := Ev.of purflinglaw14_shown.mono shown14
theorem mn_100 (l : List Int) : (mn (l.length : Int) 100).toNat = (l.take 100).length ∧ 0 ≤ mn (l.length : Int) 100 ∧ mn (l.length : Int) 100 ≤ (l.length : Int) ∧ l.take (mn (l.length : Int) 100).toNat = l.take 100 := by
  unfold mn
  by_cases c : (100 : Int) < (l.length : Int)
  · rw [if_pos c, List.length_take]
    exact ⟨by omega, by omega, by omega, rfl⟩
  · rw [if_neg c, List.length_take]
    refine ⟨by omega, by omega, by omega, ?_⟩
    rw [Int.toNat_natCast, List.take_length, List.take_of_length_le (by omega)]
theorem drop_sum' (o : List Int) (i : Nat) (h : i < o.length) : (o.take (i + 1)).sum = (o.take i).sum + rd o i := by
  rw [List.take_succ_eq_append_getElem h, List.sum_append, rd_nat, List.getElem?_eq_getElem h]
  simp
theorem take_bound (o : List Int) (M : Int) (h : ∀ x ∈ o, 0 ≤ x ∧ x ≤ M) (i : Nat) : 0 ≤ (o.take i).sum ∧ (o.take i).sum ≤ o.length * M := by
  have h1 := sum_nonneg (o.take i) (fun x hx => (h x (List.mem_of_mem_take hx)).1)
  have h2 := sum_nonneg (o.drop i) (fun x hx => (h x (List.mem_of_mem_drop hx)).1)
  have h3 := sum_le M o (fun x hx => (h x hx).2)
  have h4 : o.sum = (o.take i).sum + (o.drop i).sum := by rw [← List.sum_append, List.take_append_drop]
  omega
theorem added_sum (o l : List Int) (h : o.length = l.length) : (added o l).sum = o.sum + l.sum := by
  have e1 : added o l = (List.range o.length).map (fun i => o[i]?.getD 0 + l[i]?.getD 0) := by
    apply List.ext_getElem
    · simp [added]
    · intro i h1 h2
      have hi : i < o.length := by simpa [added] using h1
      simp [added, rd, hi]
  rw [e1, sum_add (fun i => o[i]?.getD 0), list_as_range, h, list_as_range]
theorem sums_l (n : Int) (l a : List Int) (hlen : a.length = l.length) (hl : l.length ≤ 100) (hb : ∀ x ∈ l, wide x) (ha : ∀ x ∈ a, 0 ≤ x ∧ x ≤ 2251799813685246) (hge : ∀ i : Nat, i < l.length → rd l i ≤ rd a i) (hs : a.sum = mx l.sum n) :
    ∀ (d i : Nat), i + d = l.length → Ev (fun k => purflinglaw14_SpreadSums.l0 k n l true a (l.take i).sum (a.take i).sum (i : Int)) true
  | 0, i, hi => by
    refine Ev.step (f := fun k => _) (fun k => by rw [purflinglaw14_SpreadSums.l0]) ?_
    refine Base.Ev.neg (by omega) (Base.Ev.pos rfl (Base.Ev.val ?_))
    rw [List.take_of_length_le (by omega), List.take_of_length_le (by omega), hs]
    simp
  | d + 1, i, hi => by
    have hin : i < l.length := by omega
    have c1 : (i : Int) < (l.length : Int) := by omega
    have c2 : (0 : Int) ≤ (i : Int) := by omega
    have c3 : (i : Int) < (a.length : Int) := by omega
    have e : wrap64 ((i : Int) + 1) = ((i + 1 : Nat) : Int) := by rw [wrap_id (by omega) (by omega)]; rfl
    have hg := hge i hin
    have t1 := take_bound l 1125899906842623 (fun x hx => hb x hx) (i + 1)
    have t2 := take_bound a 2251799813685246 ha (i + 1)
    have e1 : wrap64 ((l.take i).sum + rd l i) = (l.take (i + 1)).sum := by rw [← drop_sum' l i hin]; exact wrap_id (by omega) (by omega)
    have e2 : wrap64 ((a.take i).sum + rd a i) = (a.take (i + 1)).sum := by rw [← drop_sum' a i (by omega)]; exact wrap_id (by omega) (by omega)
    have ih := sums_l n l a hlen hl hb ha hge hs d (i + 1) (by omega)
    refine Ev.step (f := fun k => _) (fun k => by rw [purflinglaw14_SpreadSums.l0]) ?_
    refine Base.Ev.pos c1 (Base.Ev.pos c2 (Base.Ev.pos c3 (Base.Ev.neg (by omega) ?_)))
    rw [e1, e2, e]
    exact ih
theorem SpreadSums : purflinglaw14_SpreadSums.Pure := by
  intro n l w _ _ _ _ _ _ _
  suffices h : Ev (fun k => purflinglaw14_SpreadSums.f k n l w) true from h.rounds
  obtain ⟨_, l1, l2, l3⟩ := mn_100 l
  obtain ⟨_, w1, w2, w3⟩ := mn_100 w
  unfold purflinglaw14_SpreadSums.f
  rw [l3, w3]
  refine Ev.bind shown14_ev (Base.Ev.pos l1 (Base.Ev.pos l2 (Base.Ev.pos w1 (Base.Ev.pos w2 ?_))))
  have hl : (l.take 100).length ≤ 100 := by rw [List.length_take]; omega
  generalize l.take 100 = l at *
  generalize w.take 100 = w at *
  rcases over_cases n l w (by omega) with h | ⟨o, ho, h⟩
  · exact Ev.bind h (Base.Ev.neg (by simp) (Base.Ev.pos rfl (Base.Ev.val rfl)))
  · have hol : o.length = l.length := by rw [ho.fair.len, ho.len]
    refine Ev.bind h (Base.Ev.pos rfl (Base.Ev.pos (by rw [added_length, hol]) ?_))
    have hn := ho.nW
    unfold wide at hn
    have hs0 := sum_nonneg l (fun x hx => (ho.lW x hx).1)
    have hT : spareOf n l ≤ 1125899906842623 := by
      unfold spareOf mx
      split <;> omega
    refine sums_l n l (added o l) (by rw [added_length, hol]) hl ho.lW ?_ ?_ ?_ l.length 0 (by omega)
    · intro x hx
      obtain ⟨i, hi, e⟩ := List.mem_iff_getElem.1 hx
      have hio : i < o.length := by rw [added_length] at hi; exact hi
      have h1 := added_at o l i hio
      rw [rd_nat, List.getElem?_eq_getElem hi, Option.getD_some, e] at h1
      have h5 := ho.fair.pos _ (rd_mem o i hio)
      have h6 := ho.lW _ (rd_mem l i (by omega))
      unfold wide at h6
      omega
    · intro i hi
      rw [added_at o l i (by omega)]
      have h5 := ho.fair.pos _ (rd_mem o i (by omega))
      omega
    · rw [added_sum o l hol, ho.fair.sum]
      unfold spareOf mx
      split <;> split <;> omega
end Go.Proofs.Ytilfgmclhoidiaa.Pure
