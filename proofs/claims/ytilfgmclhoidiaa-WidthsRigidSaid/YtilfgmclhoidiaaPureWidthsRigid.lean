/- WidthsRigid: with enough rounds the check says true at all sizes and totals. Condition: the numbers are of 64 bits. -/
import Derived.Test.YtilfgmclhoidiaaPAx26
import Derived.Test.YtilfgmclhoidiaaFixed
import Derived.Test.YtilfgmclhoidiaaBands
namespace Go.Proofs.Ytilfgmclhoidiaa.Base
open Go.RowKit Go.Proofs.Ytilfgmclhoidiaa.PA Go.Proofs.YtilfgmclhoidiaaW.PrintWords Go.Proofs.YtilfgmclhoidiaaW.PrintLast Go.Proofs.YtilfgmclhoidiaaW.PrintMore Go.Proofs.Ytilfgmclhoidiaa.Pure
set_option linter.unusedVariables false
def anyAuto (l : List S39) : Bool := l.any (fun s => s.f0 == 0)
theorem anyAuto_pos (l : List S39) (hk : ∀ s ∈ l, Oks s) (h : anyAuto l = true) : pos (autosF l) ≠ [] := by
  obtain ⟨s, hs, h0⟩ := List.any_eq_true.1 h
  have ho := hk s hs
  have h0' : s.f0 = 0 := by simpa using h0
  have h1 : s.f1 = 0 := by unfold Oks at ho; omega
  have key : ∀ b : List Bool, b.any id = true → pos b ≠ [] := by
    intro b
    induction b with
    | nil => intro h; simp at h
    | cons x b ih =>
      intro h
      cases x with
      | true => simp [pos]
      | false =>
        have := ih (by simpa using h)
        simpa [pos] using this
  apply key
  unfold autosF
  rw [List.any_map]
  refine List.any_eq_true.2 ⟨s, hs, ?_⟩
  show isAuto s = true
  unfold isAuto
  rw [h0', h1]
  rfl
theorem giveOn_off : ∀ (b : List Bool) (ws o : List Int) (i : Nat), b[i]?.getD false = false → (giveOn b ws o)[i]?.getD 0 = ws[i]?.getD 0
  | [], ws, o, i, _ => by cases ws <;> rfl
  | true :: b, [], o, i, _ => by cases o <;> rfl
  | true :: b, w :: ws, [], i, _ => rfl
  | true :: b, w :: ws, x :: o, i, h => by
    show ((w + x) :: giveOn b ws o)[i]?.getD 0 = _
    cases i with
    | zero => simp at h
    | succ i => simpa using giveOn_off b ws o i (by simpa using h)
  | false :: b, [], o, i, _ => rfl
  | false :: b, w :: ws, o, i, h => by
    show (w :: giveOn b ws o)[i]?.getD 0 = _
    cases i with
    | zero => rfl
    | succ i => simpa using giveOn_off b ws o i (by simpa using h)
def capped (a : List Int) : List Int := a.map (fun x => mn x 72057594037927936)
theorem capped_bound (a : List Int) (h : ∀ x ∈ a, 0 ≤ x) : ∀ x ∈ capped a, 0 ≤ x ∧ x ≤ 72057594037927936 := by
  intro x hx
  obtain ⟨y, hy, rfl⟩ := List.mem_map.1 hx
  have := h y hy
  show 0 ≤ mn y 72057594037927936 ∧ mn y 72057594037927936 ≤ 72057594037927936
  unfold mn
  split <;> omega
theorem capped_sum : ∀ (a : List Int), (∀ x ∈ a, 0 ≤ x) → (capped a).sum = a.sum ∨ 72057594037927936 ≤ (capped a).sum
  | [], _ => .inl rfl
  | x :: a, h => by
    have hx := h x (by simp)
    have ih := capped_sum a (fun y hy => h y (by simp [hy]))
    have hs := sum_nonneg (capped a) (fun y hy => (capped_bound a (fun z hz => h z (by simp [hz])) y hy).1)
    have e : (capped (x :: a)).sum = mn x 72057594037927936 + (capped a).sum := rfl
    rw [e, List.sum_cons]
    by_cases c : x ≤ 72057594037927936
    · have : mn x 72057594037927936 = x := by unfold mn; split <;> omega
      omega
    · have : mn x 72057594037927936 = 72057594037927936 := by unfold mn; split <;> omega
      omega
/-- What fixed widths have to do with the sizes. -/
structure Rigid (l : List S39) (t : Int) (a : List Int) : Prop where
  len : a.length = l.length
  nonneg : ∀ x ∈ a, 0 ≤ x
  least : ∀ i (hi : i < l.length), l[i].f0 = 1 → l[i].f1 ≤ a[i]?.getD 0
  same : anyAuto l = true → ∀ i (hi : i < l.length), l[i].f0 = 1 → a[i]?.getD 0 = l[i].f1
  sum : t ≤ a.sum
theorem rigid_of (l : List S39) (hl : l.length ≤ 100) (t : Int) (h : fixedOk l t) (hm : mayShare (leftF t l) (Base.pos (insF l)).length) : Rigid l t (fixedOut l t) := by
  obtain ⟨hne, hok, ht0, ht⟩ := h
  have hk := sizesOk_mem hok
  have hwb := wants_bound t l hk ht0
  have hwl : (wants t l).length = l.length := by simp [wants]
  have hil := insF_length l
  obtain ⟨hes, hev⟩ := evens_nonneg _ _ hm
  have hal : (fixedOut l t).length = l.length := by unfold fixedOut; rw [giveOn_length, hwl]
  have hwi : ∀ i (hi : i < l.length), l[i].f0 = 1 → (wants t l)[i]?.getD 0 = l[i].f1 := by
    intro i hi h1
    simp [wants, hi, wantOf, h1]
  have hge : ∀ i : Nat, (wants t l)[i]?.getD 0 ≤ (fixedOut l t)[i]?.getD 0 := fun i => giveOn_ge _ _ _ i (fun x hx => (hev x hx).1)
  refine ⟨hal, ?_, ?_, ?_, ?_⟩
  · intro x hx
    obtain ⟨i, hi, e⟩ := List.mem_iff_getElem.1 hx
    have h1 := hge i
    rw [List.getElem?_eq_getElem hi, Option.getD_some, e] at h1
    have h2 := hwb _ (gD_mem (wants t l) i (by omega))
    omega
  · intro i hi h1
    have := hge i
    rw [hwi i hi h1] at this
    exact this
  · intro ha i hi h1
    rw [← hwi i hi h1]
    unfold fixedOut
    apply giveOn_off
    unfold insF
    rw [if_neg (anyAuto_pos l hk ha)]
    have : isAuto l[i] = false := by
      unfold isAuto
      simp [h1]
    simp [autosF, hi, this]
  · have h1 : (fixedOut l t).sum = (wants t l).sum + leftF t l := by
      unfold fixedOut
      rw [giveOn_sum _ _ _ (by omega) (evens_length _ _), hes]
    rw [h1]
    unfold leftF mx
    split <;> omega
theorem rigid_l1 (l : List S39) (hl : l.length ≤ 100) (t : Int) (a : List Int) (r : Rigid l t a) : ∀ (d i : Nat), i + d = l.length →
    Ev (fun k => purflinglaw15_WidthsRigid.l1 k l t true a (anyAuto l) ((capped a).take i).sum (i : Int)) true
  | 0, i, h => by
    have hal := r.len
    have hc := capped_sum a r.nonneg
    have hcl : (capped a).length = a.length := by simp [capped]
    refine Ev.step (f := fun k => _) (fun k => by rw [purflinglaw15_WidthsRigid.l1]) ?_
    rw [List.take_of_length_le (by omega)]
    refine Base.Ev.neg (by omega) (Base.Ev.pos rfl (Base.Ev.pos (by omega) ?_))
    have := r.sum
    by_cases c : (capped a).sum ≥ t
    · exact Base.Ev.pos c (Base.Ev.val rfl)
    · exact Base.Ev.neg c (Base.Ev.val (decide_eq_true (by omega)))
  | d + 1, i, h => by
    have hal := r.len
    have hi : i < l.length := by omega
    have ih := rigid_l1 l hl t a r d (i + 1) (by omega)
    have hcb := capped_bound a r.nonneg
    have hcl : (capped a).length = a.length := by simp [capped]
    have e1 : ((capped a).take (i + 1)).sum = ((capped a).take i).sum + mn (a[i]?.getD 0) 72057594037927936 := by
      rw [List.take_succ_eq_append_getElem (by omega), List.sum_append]
      simp [capped, List.getElem?_eq_getElem (show i < a.length by omega)]
    have hb1 := sum_le 72057594037927936 ((capped a).take (i + 1)) (fun x hx => (hcb x (List.mem_of_mem_take hx)).2)
    have hb2 := sum_nonneg ((capped a).take (i + 1)) (fun x hx => (hcb x (List.mem_of_mem_take hx)).1)
    rw [List.length_take] at hb1
    have e2 : wrap64 (((capped a).take i).sum + mn (a[i]?.getD 0) 72057594037927936) = ((capped a).take (i + 1)).sum := by
      rw [← e1]
      exact wrap_id (by omega) (by omega)
    have hx := r.nonneg _ (gD_mem a i (by omega))
    refine Ev.step (f := fun k => _) (fun k => by rw [purflinglaw15_WidthsRigid.l1, rdS l i hi, rd_nat, nxt (by omega), e2]) ?_
    refine Base.Ev.pos (by omega) (Base.Ev.pos (by omega) (Base.Ev.neg (by omega) (Base.Ev.pos (by omega) ?_)))
    by_cases c1 : l[i].f0 = 1
    · have h1 := r.least i hi c1
      refine Base.Ev.pos c1 (Base.Ev.neg (by omega) ?_)
      by_cases c2 : anyAuto l = true
      · exact Base.Ev.pos c2 (Base.Ev.pos (r.same c2 i hi c1) ih)
      · exact Base.Ev.neg c2 ih
    · exact Base.Ev.neg c1 ih
theorem rigid_l0 (l : List S39) (hl : l.length ≤ 100) (t : Int) (a : List Int) (r : Rigid l t a) : ∀ (d i : Nat), i + d = l.length →
    Ev (fun k => purflinglaw15_WidthsRigid.l0 k l t true a (anyAuto (l.take i)) (i : Int)) true
  | 0, i, h => by
    refine Ev.step (f := fun k => _) (fun k => by rw [purflinglaw15_WidthsRigid.l0]) ?_
    rw [List.take_of_length_le (by omega)]
    have h1 := rigid_l1 l hl t a r l.length 0 (by omega)
    exact Base.Ev.neg (by omega) h1
  | d + 1, i, h => by
    have hi : i < l.length := by omega
    have ih := rigid_l0 l hl t a r d (i + 1) (by omega)
    have e : anyAuto (l.take (i + 1)) = (anyAuto (l.take i) || l[i].f0 == 0) := by
      unfold anyAuto
      rw [List.take_succ_eq_append_getElem hi, List.any_append]
      simp
    rw [e] at ih
    refine Ev.step (f := fun k => _) (fun k => by rw [purflinglaw15_WidthsRigid.l0, rdS l i hi, nxt (by omega)]) ?_
    refine Base.Ev.pos (by omega) ?_
    generalize anyAuto (l.take i) = b at ih ⊢
    cases b with
    | true => exact Base.Ev.pos rfl (by simpa using ih)
    | false => exact Base.Ev.neg (by simp) (Base.Ev.pos (by omega) (by simpa using ih))
end Go.Proofs.Ytilfgmclhoidiaa.Base
namespace Go.Proofs.Ytilfgmclhoidiaa.Pure
open Go.RowKit Go.Proofs.Ytilfgmclhoidiaa.PA Go.Proofs.YtilfgmclhoidiaaW.PrintWords Go.Proofs.YtilfgmclhoidiaaW.PrintLast Go.Proofs.YtilfgmclhoidiaaW.PrintMore Go.Proofs.Ytilfgmclhoidiaa.Base
theorem WidthsRigid (l : List S39) (_ : ∀ s ∈ l, good39 s) (_ : l.length ≤ maxLen) (t : Int) (_ : (Lit.int .i64 t).wf = true) : ∃ k, purflinglaw15_WidthsRigid.f k l t = some true := by
  suffices h : Ev (fun k => purflinglaw15_WidthsRigid.f k l t) true from h.rounds
  unfold purflinglaw15_WidthsRigid.f
  obtain ⟨h1, h2, h3⟩ := mn_take l 40 40 rfl
  rw [h3]
  refine Ev.bind shown15_ev (Base.Ev.pos h1 (Base.Ev.pos h2 (Ev.bind (Ev.now _) ?_)))
  have hl : (l.take 40).length ≤ 100 := by rw [List.length_take]; omega
  generalize l.take 40 = l at *
  rcases fixed_prog l hl t with ⟨_, he⟩ | ⟨hy, ha, hm⟩
  · exact Ev.bind he (Base.Ev.neg (by simp) (Base.Ev.pos rfl (Base.Ev.val rfl)))
  · refine Ev.bind ha (Base.Ev.pos rfl ?_)
    exact rigid_l0 l hl t (fixedOut l t) (rigid_of l hl t hy hm) l.length 0 (by omega)
end Go.Proofs.Ytilfgmclhoidiaa.Pure
