/- WidthsAdd: with enough rounds the check says true at all bands and totals. Condition: the numbers are of 64 bits. -/
import Derived.Test.YtilfgmclhoidiaaPAx25
import Derived.Test.YtilfgmclhoidiaaAuto
namespace Go.Proofs.Ytilfgmclhoidiaa.Base
open Go.RowKit Go.Proofs.Ytilfgmclhoidiaa.PA Go.Proofs.YtilfgmclhoidiaaW.PrintWords Go.Proofs.YtilfgmclhoidiaaW.PrintLast Go.Proofs.YtilfgmclhoidiaaW.PrintMore Go.Proofs.Ytilfgmclhoidiaa.Pure
theorem zipAdd_sum : ∀ (l o : List Int), o.length = l.length → (l.zipWith (· + ·) o).sum = l.sum + o.sum
  | [], o, h => by
    have e : o = [] := List.length_eq_zero_iff.1 h
    subst e
    rfl
  | a :: l, [], h => by simp at h
  | a :: l, x :: o, h => by
    have ih := zipAdd_sum l o (by simpa using h)
    simp only [List.zipWith_cons_cons, List.sum_cons, ih]
    omega
/-- What automatic widths have to do with the bands. -/
theorem auto_facts (l : List S35) (hl : l.length ≤ 100) (t : Int) (h : autoOk l t) (a : List Int) (ha : AutoIs l t a) (hal : a.length = l.length) :
    a.sum = t ∧ (∀ x ∈ a, 0 ≤ x ∧ x ≤ 1152921504606846976) ∧ ∀ i (hi : i < l.length), l[i].f0 ≤ rd a (i : Int) := by
  obtain ⟨hne, hok, hle, ht⟩ := h
  have hk := bandsOk_mem hok
  obtain ⟨hm1, hm2⟩ := sum_min l hl hk
  rw [hm1] at hle
  have hwb := wishes_bound t l hk ht
  have hwl : (wishes t l).length = l.length := by simp [wishes]
  have hil : (ins l).length = l.length := by simp [ins]
  have hwtl : (wts l).length = (pos (ins l)).length := by simp [wts]
  have hsn := sum_nonneg (wishes t l) (fun x hx => (hwb x hx).1)
  have hmb := mins_bound l hk
  cases ha with
  | some o c ho fo e =>
    subst e
    have hol : o.length = (pos (ins l)).length := by rw [fo.len, hwtl]
    refine ⟨?_, ?_, fun i hi => ?_⟩
    · rw [giveOn_sum (ins l) (wishes t l) o (by omega) hol, fo.sum]
      omega
    · intro x hx
      have := giveOn_bound 576460752303423488 576460752303423488 (ins l) (wishes t l) o hwb (fun x hx => by have := fo.pos x hx; omega) (by omega) x hx
      omega
    · have h1 := giveOn_ge (ins l) (wishes t l) o i (fun x hx => (fo.pos x hx).1)
      have h2 := wish_bound t l[i] (hk _ (List.getElem_mem hi)) ht
      have h3 : (wishes t l)[i]?.getD 0 = wishOf t l[i] := by simp [wishes, hi]
      rw [rd_nat]
      omega
  | few o c ho fo e =>
    subst e
    have hml : (mores t l).length = l.length := by simp [mores]
    have hol : o.length = l.length := by rw [fo.len, hml]
    have hnl : (mins l).length = l.length := by simp [mins]
    refine ⟨?_, ?_, fun i hi => ?_⟩
    · unfold baseAdd
      rw [zipAdd_sum _ _ (by omega), fo.sum]
      omega
    · intro x hx
      obtain ⟨i, hi, e⟩ := List.mem_iff_getElem.1 hx
      have hi' : i < l.length := by omega
      have h1 : (baseAdd l o)[i] = (mins l)[i]'(by omega) + o[i]'(by omega) := by simp [baseAdd]
      have h2 := hmb _ (List.getElem_mem (show i < (mins l).length by omega))
      have h3 := fo.pos _ (List.getElem_mem (show i < o.length by omega))
      omega
    · have h1 : (baseAdd l o)[i]'(by omega) = l[i].f0 + o[i]'(by omega) := by simp [baseAdd, mins]
      have h3 := fo.pos _ (List.getElem_mem (show i < o.length by omega))
      rw [rd_nat, List.getElem?_eq_getElem (by omega), Option.getD_some, h1]
      omega
theorem add_l (l : List S35) (hl : l.length ≤ 100) (a : List Int) (hal : a.length = l.length) (t : Int) (hs : a.sum = t) (ht : 0 ≤ t ∧ t ≤ 576460752303423488) (hb : ∀ x ∈ a, 0 ≤ x ∧ x ≤ 1152921504606846976) (hge : ∀ i (hi : i < l.length), l[i].f0 ≤ rd a (i : Int)) :
    ∀ (d i : Nat), i + d = l.length → Ev (fun k => purflinglaw15_WidthsAdd.l0 k l true a (t - (a.take i).sum) (i : Int)) true
  | 0, i, h => by
    refine Ev.step (f := fun k => _) (fun k => by rw [purflinglaw15_WidthsAdd.l0]) ?_
    refine Base.Ev.neg (by omega) (Base.Ev.pos rfl (Base.Ev.val ?_))
    rw [List.take_of_length_le (by omega), hs]
    simp
  | d + 1, i, h => by
    have hi : i < l.length := by omega
    have ih := add_l l hl a hal t hs ht hb hge d (i + 1) (by omega)
    have hg := hge i hi
    have e1 : (a.take (i + 1)).sum = (a.take i).sum + rd a (i : Int) := by
      rw [List.take_succ_eq_append_getElem (by omega), List.sum_append, rd_nat, List.getElem?_eq_getElem (by omega)]
      simp
    have s1 := sum_nonneg (a.take (i + 1)) (fun x hx => (hb x (List.mem_of_mem_take hx)).1)
    have s2 := sum_nonneg (a.drop (i + 1)) (fun x hx => (hb x (List.mem_of_mem_drop hx)).1)
    have s3 : a.sum = (a.take (i + 1)).sum + (a.drop (i + 1)).sum := by rw [← List.sum_append, List.take_append_drop]
    have s4 := sum_nonneg (a.take i) (fun x hx => (hb x (List.mem_of_mem_take hx)).1)
    have e2 : wrap64 (t - (a.take i).sum - rd a (i : Int)) = t - (a.take (i + 1)).sum := by rw [wrap_id (by omega) (by omega)]; omega
    refine Ev.step (f := fun k => _) (fun k => by rw [purflinglaw15_WidthsAdd.l0, rdT l i hi, next (by omega)]) ?_
    refine Base.Ev.pos (by omega) (Base.Ev.pos (by omega) (Base.Ev.pos (by omega) (Base.Ev.neg (by omega) ?_)))
    rw [e2]
    exact ih
end Go.Proofs.Ytilfgmclhoidiaa.Base
namespace Go.Proofs.Ytilfgmclhoidiaa.Pure
open Go.RowKit Go.Proofs.Ytilfgmclhoidiaa.PA Go.Proofs.YtilfgmclhoidiaaW.PrintWords Go.Proofs.YtilfgmclhoidiaaW.PrintLast Go.Proofs.YtilfgmclhoidiaaW.PrintMore Go.Proofs.Ytilfgmclhoidiaa.Base
theorem WidthsAdd (l : List S35) (hg : ∀ b ∈ l, good35 b) (_ : l.length ≤ maxLen) (t : Int) (_ : (Lit.int .i64 t).wf = true) : ∃ k, purflinglaw15_WidthsAdd.f k l t = some true := by
  suffices h : Ev (fun k => purflinglaw15_WidthsAdd.f k l t) true from h.rounds
  unfold purflinglaw15_WidthsAdd.f
  rw [cut15]
  have hg' := take_good hg 100
  have hl : (l.take 100).length ≤ 100 := by rw [List.length_take]; omega
  generalize l.take 100 = l at *
  refine Ev.bind shown15_ev ?_
  refine Ev.bind (Ev.now _) ?_
  have hs := sums_prog l (by omega) hg'
  have hr := right_prog l (by omega)
  rcases auto_prog l hl hg' t with ⟨hn, he⟩ | ⟨hy, a, ha, hi, hal⟩
  · refine Ev.bind he (Ev.bind hs (Base.Ev.neg (by simp) (Base.Ev.pos rfl (Base.Ev.pos rfl (Ev.bind ⟨0, fun _ _ => hr⟩ ?_)))))
    by_cases c1 : bandsOk l = true
    · refine Base.Ev.pos c1 ?_
      by_cases c0 : (l.length : Int) = 0
      · exact Base.Ev.pos c0 (Base.Ev.val rfl)
      refine Base.Ev.neg c0 ?_
      by_cases c2 : t < (sums3 l).1
      · exact Base.Ev.pos c2 (Base.Ev.val rfl)
      refine Base.Ev.neg c2 (Base.Ev.val ?_)
      have hnn : l ≠ [] := fun e => c0 (by rw [e]; rfl)
      by_cases c4 : t ≤ 576460752303423488
      · exact absurd ⟨hnn, c1, by omega, c4⟩ hn
      · exact decide_eq_true (by omega)
    · exact Base.Ev.neg c1 (Base.Ev.val rfl)
  · obtain ⟨f1, f2, f3⟩ := auto_facts l hl t hy a hi hal
    have hk := bandsOk_mem hy.2.1
    have ht0 : 0 ≤ t := by have := sum_min l hl hk; have := hy.2.2.1; omega
    refine Ev.bind ha (Ev.bind hs (Base.Ev.pos rfl (Base.Ev.pos (by show (a.length : Int) = _; omega) ?_)))
    have h0 := add_l l hl a hal t f1 ⟨ht0, hy.2.2.2⟩ f2 f3 l.length 0 (by omega)
    simpa using h0
end Go.Proofs.Ytilfgmclhoidiaa.Pure
