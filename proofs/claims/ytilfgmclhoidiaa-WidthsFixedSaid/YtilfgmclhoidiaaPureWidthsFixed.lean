/- WidthsFixed: with enough rounds the check says true at all sizes, needs, totals and gaps: the program's fixed widths, and its sizes with those of the first row, are the document's. Condition: the numbers are of 64 bits. -/
import Derived.Test.YtilfgmclhoidiaaPAx41
import Derived.Test.YtilfgmclhoidiaaPAx39
import Derived.Test.YtilfgmclhoidiaaPAx34
import Derived.Test.YtilfgmclhoidiaaPAx40
import Derived.Test.YtilfgmclhoidiaaPAx38
import Derived.Test.YtilfgmclhoidiaaPAx37
import Derived.Test.YtilfgmclhoidiaaFixed
import Derived.Test.YtilfgmclhoidiaaBands
import Derived.Test.YtilfgmclhoidiaaRank
set_option linter.unusedVariables false
namespace Go.Proofs.Ytilfgmclhoidiaa.Base
open Go.RowKit Go.Proofs.Ytilfgmclhoidiaa.PA Go.Proofs.YtilfgmclhoidiaaW.PrintWords Go.Proofs.YtilfgmclhoidiaaW.PrintLast Go.Proofs.YtilfgmclhoidiaaW.PrintMore Go.Proofs.Ytilfgmclhoidiaa.Pure
/-! The document's fixed widths. -/
theorem sat_mn (A x : Int) (hA : 0 ≤ A) (hx : 0 ≤ x) : sat (mn A 9223372036854775807 + x) = mn (A + x) 9223372036854775807 := by
  unfold sat mn
  (repeat' split) <;> omega
theorem mn_i64 (A : Int) (hA : 0 ≤ A) : i64 (mn A 9223372036854775807) := by
  unfold i64 mn
  split <;> omega
theorem refFixed_l0 (l : List S39) (hl : l.length ≤ 100) (hk : ∀ s ∈ l, Oks s) (t : Int) (ht0 : 0 ≤ t) (ht : t ≤ 576460752303423488) (R : List Int × Int)
    (hend : Ev (fun k => purflingref15_Fixed.j2 k l (wants t l) ((pos (autosF l)).length : Int) (leftF t l) (if pos (autosF l) = [] then (l.length : Int) else ((pos (autosF l)).length : Int))) R) :
    ∀ (d i : Nat), i + d = l.length → Ev (fun k => purflingref15_Fixed.l0 k l t ((wants t l).take i) (mn ((wants t l).take i).sum 9223372036854775807) ((pos ((autosF l).take i)).length : Int) (i : Int)) R
  | 0, i, h => by
    obtain rfl : i = l.length := by omega
    refine Ev.step (f := fun k => _) (fun k => by rw [purflingref15_Fixed.l0]) ?_
    rw [List.take_of_length_le (l := wants t l) (by simp [wants]), List.take_of_length_le (l := autosF l) (by simp [autosF])]
    have hwb := wants_bound t l hk ht0
    have hsn := sum_nonneg (wants t l) (fun x hx => (hwb x hx).1)
    have e1 : mx 0 (wrap64 (t - mn (wants t l).sum 9223372036854775807)) = leftF t l := by
      have h1 : 0 ≤ mn (wants t l).sum 9223372036854775807 ∧ mn (wants t l).sum 9223372036854775807 ≤ 9223372036854775807 := by
        unfold mn
        split <;> omega
      rw [wrap_id (by omega) (by omega)]
      unfold leftF mx mn
      (repeat' split) <;> omega
    rw [e1]
    refine Base.Ev.neg (by omega) ?_
    by_cases c : pos (autosF l) = []
    · rw [if_pos c] at hend
      exact Base.Ev.pos (by rw [c]; rfl) hend
    · rw [if_neg c] at hend
      have := List.length_pos_iff.2 c
      exact Base.Ev.neg (by omega) hend
  | d + 1, i, h => by
    have hi : i < l.length := by omega
    have ho := hk l[i] (List.getElem_mem hi)
    have ih := refFixed_l0 l hl hk t ht0 ht R hend d (i + 1) (by omega)
    have e1 : (wants t l).take (i + 1) = (wants t l).take i ++ [wantOf t l[i]] := tk_map _ l i hi
    have e2 : (autosF l).take (i + 1) = (autosF l).take i ++ [isAuto l[i]] := tk_map _ l i hi
    have e4 : ((autosF l).take i).length = i := by simp [autosF]; omega
    have hp := pos_length_le ((autosF l).take i)
    have hwb := wants_bound t l hk ht0
    have hs0 : 0 ≤ ((wants t l).take i).sum := sum_nonneg _ (fun x hx => (hwb x (List.mem_of_mem_take hx)).1)
    have n1 : ((wants t l).take i).length < 17592186044416 := by rw [List.length_take]; omega
    have hwo := want_bound t l[i] ho ht0
    have hsum : Ev (fun k => purflingref01_Sum.f k (mn ((wants t l).take i).sum 9223372036854775807) (wantOf t l[i])) (mn (((wants t l).take i).sum + wantOf t l[i]) 9223372036854775807) := by
      have := sum_ev (mn ((wants t l).take i).sum 9223372036854775807) (wantOf t l[i]) (mn_i64 _ hs0) (by unfold i64; omega)
      rw [sat_mn _ _ hs0 hwo.1] at this
      exact this
    rw [e1, e2, pos_snoc, e4, List.sum_append, List.sum_singleton] at ih
    refine Ev.step (f := fun k => _) (fun k => by rw [purflingref15_Fixed.l0, rdS l i hi, nxt (by omega)]) ?_
    refine Base.Ev.pos (by omega) (Base.Ev.pos (by omega) ?_)
    generalize l[i] = s at *
    obtain ⟨a, b⟩ := s
    unfold Oks at ho
    simp only at ho ⊢
    by_cases c1 : a = 1
    · have ea : isAuto ⟨a, b⟩ = false := by simp [isAuto, c1]
      have ew : wantOf t ⟨a, b⟩ = b := by unfold wantOf; rw [if_pos c1]
      rw [ea, if_neg (by simp)] at ih
      rw [ew] at ih hsum
      exact Base.Ev.pos c1 (Base.Ev.pos n1 (Ev.bind hsum ih))
    · by_cases c2 : a = 2
      · have ea : isAuto ⟨a, b⟩ = false := by simp [isAuto, c2]
        have ew : wantOf t ⟨a, b⟩ = mn (b * t / 10000) 9223372036854775807 := by unfold wantOf; rw [if_neg c1, if_pos c2]
        rw [ea, if_neg (by simp)] at ih
        rw [ew] at ih hsum
        exact Base.Ev.neg c1 (Base.Ev.pos c2 (Ev.bind (refPart_ev b t ⟨by omega, by omega⟩ ⟨ht0, by omega⟩) (Base.Ev.pos n1 (Ev.bind hsum ih))))
      · have ha : a = 0 ∧ b = 0 := by omega
        obtain ⟨rfl, rfl⟩ := ha
        have ea : isAuto ⟨0, 0⟩ = true := rfl
        have ew : wantOf t ⟨0, 0⟩ = 0 := by unfold wantOf; rw [if_neg c1, if_neg c2]
        rw [ea, if_pos rfl, List.length_append, List.length_singleton] at ih
        rw [ew] at ih hsum
        have e5 : wrap64 (((pos ((autosF l).take i)).length : Int) + 1) = (((pos ((autosF l).take i)).length + 1 : Nat) : Int) := nxt (by omega)
        rw [e5]
        exact Base.Ev.neg c1 (Base.Ev.neg c2 (Base.Ev.pos n1 (Ev.bind hsum ih)))
theorem refFixed_l1 (l : List S39) (hl : l.length ≤ 100) (x9 : Int) (b : List Bool) (hb : b.length = l.length) (hx0 : x9 = 0 → ∀ i, i < l.length → b[i]?.getD false = true) (hx1 : x9 ≠ 0 → ∀ i (h : i < l.length), b[i]?.getD false = (l[i].f0 == 0))
    (ws o : List Int) (hws : ws.length = b.length) (ho : o.length = (pos b).length) (A B : Int) (hA : ∀ x ∈ ws, 0 ≤ x ∧ x ≤ A) (hB : ∀ x ∈ o, 0 ≤ x ∧ x ≤ B) (hAB : A + B ≤ 9223372036854775807) (hA0 : A ≤ 9223372036854775807) (hB0 : B ≤ 9223372036854775807) :
    ∀ (d i : Nat), i + d = l.length → Ev (fun k => purflingref15_Fixed.l1 k l (giveOn b ws (o.take (rank b i))) x9 o ((rank b i : Nat) : Int) (i : Int)) (giveOn b ws o, 0)
  | 0, i, h => by
    have hr : rank b i = (pos b).length := by rw [← rank_all, hb, show i = l.length by omega]
    refine Ev.step (f := fun k => _) (fun k => by rw [purflingref15_Fixed.l1]) ?_
    rw [hr, List.take_of_length_le (by omega)]
    exact Base.Ev.neg (by omega) (Base.Ev.val rfl)
  | d + 1, i, h => by
    have hi : i < l.length := by omega
    have ih := refFixed_l1 l hl x9 b hb hx0 hx1 ws o hws ho A B hA hB hAB hA0 hB0 d (i + 1) (by omega)
    have hgl := giveOn_length b ws (o.take (rank b i))
    have hr := rank_le b i
    refine Ev.step (f := fun k => _) (fun k => by rw [purflingref15_Fixed.l1, rdS l i hi, nxt (i := i) (by omega), nxt (i := rank b i) (by omega), Int.toNat_natCast]) ?_
    refine Base.Ev.pos (by omega) ?_
    by_cases hin : b[i]?.getD false = true
    · obtain ⟨h1, h2⟩ := pos_rank b i (by omega) hin
      have hlt : rank b i < (pos b).length := (List.getElem?_eq_some_iff.1 h1).1
      have hst := giveOn_step b ws o (rank b i) (by omega) (by omega) (by omega)
      have hga := giveOn_at b ws o (rank b i) (by omega) hlt
      rw [h1, Option.getD_some] at hst hga
      rw [hga] at hst
      have hx := hA _ (gD_mem ws i (by omega))
      have hy := hB _ (gD_mem o (rank b i) (by omega))
      have hs := sum_ev (ws[i]?.getD 0) (o[rank b i]?.getD 0) (by unfold i64; omega) (by unfold i64; omega)
      rw [sat_id (by unfold i64; omega)] at hs
      rw [h2, ← hst] at ih
      rw [rd_nat, rd_nat, hga]
      by_cases c : x9 = 0
      · exact Base.Ev.pos c (Base.Ev.pos (by omega) (Base.Ev.pos (by omega) (Base.Ev.pos (by omega) (Base.Ev.pos (by omega) (Ev.bind hs ih)))))
      · have hz := hx1 c i hi
        rw [hin] at hz
        exact Base.Ev.neg c (Base.Ev.pos (by omega) (Base.Ev.pos (by simpa using hz.symm) (Base.Ev.pos (by omega) (Base.Ev.pos (by omega) (Base.Ev.pos (by omega) (Ev.bind hs ih))))))
    · have hf : b[i]?.getD false = false := by simpa using hin
      have c : ¬ x9 = 0 := fun e => hin (hx0 e i hi)
      have hz := hx1 c i hi
      rw [hf] at hz
      rw [rank_no b i (by omega) hf] at ih
      exact Base.Ev.neg c (Base.Ev.pos (by omega) (Base.Ev.neg (by simpa using hz.symm) ih))
theorem refFixed_no (l : List S39) (t : Int) : Ev (fun k => purflingref15_Fixed.j0 k l t true) ([], 130) := by
  refine Ev.step (f := fun k => _) (fun k => by rw [purflingref15_Fixed.j0]) ?_
  exact Base.Ev.pos rfl (Base.Ev.val rfl)
theorem refFixed_yes (l : List S39) (hl : l.length ≤ 100) (t : Int) (h : fixedOk l t) : Ev (fun k => purflingref15_Fixed.j0 k l t false) (fixedOut l t, 0) := by
  have hm := (fixed_yes l hl t h).2
  obtain ⟨hne, hok, ht0, ht⟩ := h
  have hk := sizesOk_mem hok
  have hwb := wants_bound t l hk ht0
  have hwl : (wants t l).length = l.length := by simp [wants]
  have hil := insF_length l
  obtain ⟨hes, hev⟩ := evens_nonneg _ _ hm
  refine Ev.step (f := fun k => _) (fun k => by rw [purflingref15_Fixed.j0]) ?_
  refine Base.Ev.neg (by simp) (refFixed_l0 l hl hk t ht0 ht _ ?_ l.length 0 (by omega))
  refine Ev.step (f := fun k => _) (fun k => by rw [purflingref15_Fixed.j2]) ?_
  have hN : (if pos (autosF l) = [] then (l.length : Int) else ((pos (autosF l)).length : Int)) = ((pos (insF l)).length : Int) := by
    unfold insF
    by_cases c : pos (autosF l) = []
    · rw [if_pos c, if_pos c, pos_all, List.length_range]
    · rw [if_neg c, if_neg c]
  rw [hN]
  have he := refEven_ev (leftF t l) ((pos (insF l)).length : Int) hm
  rw [Int.toNat_natCast, evenOut_eq _ _ hm] at he
  refine Ev.bind he ?_
  have hgo : ∀ A : Int, (∀ x ∈ wants t l, 0 ≤ x ∧ x ≤ A) → A + leftF t l ≤ 9223372036854775807 → A ≤ 9223372036854775807 → Ev (fun k => purflingref15_Fixed.l1 k l (wants t l) ((pos (autosF l)).length : Int) (evens (leftF t l) (pos (insF l)).length) 0 0) (fixedOut l t, 0) := by
    intro A hA hAB hA0
    have h1 := refFixed_l1 l hl ((pos (autosF l)).length : Int) (insF l) hil (fun e i hi => ?_) (fun e i hi => ?_) (wants t l) (evens (leftF t l) (pos (insF l)).length) (by omega) (evens_length _ _) A (leftF t l) hA hev hAB hA0 (by have := hm.2.1; omega) l.length 0 (by omega)
    · rw [show rank (insF l) 0 = 0 from rfl, List.take_zero, giveOn_nil] at h1
      exact h1
    · have hp : pos (autosF l) = [] := List.length_eq_zero_iff.1 (by omega)
      unfold insF
      rw [if_pos hp]
      simp [hi]
    · have hp : ¬ pos (autosF l) = [] := fun hp => e (by rw [hp]; rfl)
      unfold insF
      rw [if_neg hp]
      have ho := hk l[i] (List.getElem_mem hi)
      unfold Oks at ho
      simp only [autosF, List.getElem?_map, List.getElem?_eq_getElem hi, Option.map_some, Option.getD_some, isAuto]
      rw [Bool.eq_iff_iff]
      simp
      omega
  by_cases c : leftF t l = 0
  · exact hgo 9223372036854775807 hwb (by omega) (by omega)
  · have hsn := sum_nonneg (wants t l) (fun x hx => (hwb x hx).1)
    have hlt : (wants t l).sum ≤ t := by
      unfold leftF mx at c
      split at c <;> omega
    refine hgo 576460752303423488 (fun x hx => ⟨(hwb x hx).1, ?_⟩) ?_ (by omega)
    · have := le_sum (wants t l) (fun x hx => (hwb x hx).1) x hx
      omega
    · have : leftF t l ≤ 576460752303423488 := by
        unfold leftF mx
        split <;> omega
      omega
theorem refRight_eq (l : List S39) (m : List S63) : purflingref13_Right.f l m = columns_Right.f l m := rfl
theorem fixed_ref (l : List S39) (hl : l.length ≤ 100) (t : Int) (c : fixedOk l t) : Ev (fun k => purflingref15_Fixed.f k l t) (fixedOut l t, 0) := by
  have hy := refFixed_yes l hl t c
  obtain ⟨hne, hok, ht0, ht⟩ := c
  have hlen : 0 < l.length := List.length_pos_iff.2 hne
  unfold purflingref15_Fixed.f
  rw [refRight_eq, sizes_prog l (by omega)]
  refine Ev.bind (Ev.now _) (Base.Ev.pos hok (Base.Ev.neg (by omega) (Base.Ev.neg (by omega) ?_)))
  rw [decide_eq_false (by omega : ¬ t > 576460752303423488)]
  exact hy
theorem fixed_ref_no (l : List S39) (hl : l.length ≤ 100) (t : Int) (c : ¬ fixedOk l t) : Ev (fun k => purflingref15_Fixed.f k l t) ([], 130) := by
  unfold purflingref15_Fixed.f
  rw [refRight_eq, sizes_prog l (by omega)]
  refine Ev.bind (Ev.now _) ?_
  by_cases c1 : sizesOk l = true
  · refine Base.Ev.pos c1 ?_
    by_cases c0 : (l.length : Int) = 0
    · exact Base.Ev.pos c0 (refFixed_no _ _)
    refine Base.Ev.neg c0 ?_
    by_cases c2 : t < 0
    · exact Base.Ev.pos c2 (refFixed_no _ _)
    · refine Base.Ev.neg c2 ?_
      have c3 : t > 576460752303423488 := by
        have hnn : l ≠ [] := fun e => c0 (by rw [e]; rfl)
        by_cases c4 : t ≤ 576460752303423488
        · exact absurd ⟨hnn, c1, by omega, c4⟩ c
        · omega
      rw [decide_eq_true c3]
      exact refFixed_no _ _
  · exact Base.Ev.neg c1 (refFixed_no _ _)
/-! The document's sizes with those of the first row. -/
theorem refPart14 (gap n : Int) (cols : Nat) (hn : 0 ≤ n ∧ n ≤ 1073741824) (hg : 0 ≤ gap ∧ gap ≤ 1073741824) (hc : 1 ≤ cols ∧ cols ≤ 10000) : Ev (fun k => purflingref14_Part.f k n gap (cols : Int)) (partN gap cols n) := by
  have h0 : 0 ≤ gap * ((cols : Int) - 1) := Int.mul_nonneg hg.1 (by omega)
  have h1 : gap * ((cols : Int) - 1) ≤ 1073741824 * 10000 := Int.mul_le_mul hg.2 (by omega) (by omega) (by omega)
  have hm : bits_Mul64.f gap ((cols : Int) - 1) = some (0, gap * ((cols : Int) - 1)) := by
    unfold bits_Mul64.f
    rw [if_pos ⟨⟨by omega, by omega⟩, ⟨by omega, by omega⟩⟩]
    congr 2 <;> omega
  have hs : ∀ a : Int, 0 ≤ a → a ≤ 1073741824 → purflingref01_size.f a = some a := by
    intro a h0 h1
    unfold purflingref01_size.f
    rw [if_neg (by omega), w64_id (n := a) h0 (by omega)]
  unfold purflingref14_Part.f partN
  refine Base.Ev.neg (by omega) ?_
  rw [show wrap64 ((cols : Int) - 1) = (cols : Int) - 1 from wrap_id (by omega) (by omega)]
  have hmul : ∀ k, purflingref01_Mul.f k gap ((cols : Int) - 1) = some (gap * ((cols : Int) - 1)) := by
    intro k
    unfold purflingref01_Mul.f
    rw [hs gap hg.1 hg.2, Option.bind_some, hs ((cols : Int) - 1) (by omega) (by omega), Option.bind_some, hm, Option.bind_some]
    rw [if_neg (by rw [decide_eq_false (by omega : ¬ gap < 0), decide_eq_false (by omega : ¬ (cols : Int) - 1 < 0)]; simp), if_neg (by simp), if_neg (by simp only; omega), wrap_id (by simp only; omega) (by simp only; omega)]
  refine Ev.bind (a := gap * ((cols : Int) - 1)) ⟨0, fun k _ => hmul k⟩ ?_
  generalize gap * ((cols : Int) - 1) = p at h0 h1 ⊢
  have hsub : Ev (fun k => purflingref01_Sub.f k n p) (n - p) := by
    unfold purflingref01_Sub.f
    refine Base.Ev.neg (by omega) (Ev.step (f := fun k => _) (fun k => by rw [purflingref01_Sub.j0]) (Base.Ev.neg (by simp) ?_))
    have e : wrap64 (n - p) = n - p := wrap_id (by omega) (by omega)
    rw [e]
    by_cases c : p > 0
    · refine Base.Ev.pos c (Base.Ev.neg ?_ (Base.Ev.val rfl))
      rw [wrap_id (by omega) (by omega)]
      omega
    · exact Base.Ev.neg c (Base.Ev.val rfl)
  refine Ev.bind hsub (Base.Ev.val ?_)
  unfold mx
  (repeat' split) <;> omega
/-- An automatic size has no number. -/
def Zero (l : List S39) : Prop := ∀ s ∈ l, s.f0 = 0 → s.f1 = 0
theorem fillAt_zero {kd x : Int} {c : Nat} {l : List S39} (h : Zero l) (hk : kd ≠ 0) : Zero (fillAt kd x c l) := by
  unfold fillAt
  split
  · intro s hs h0
    rcases List.mem_or_eq_of_mem_set hs with h1 | rfl
    · exact h s h1 h0
    · exact absurd h0 hk
  · exact h
theorem fillAll_zero {kd : Int} (hk : kd ≠ 0) : ∀ (ps : List Int) (c : Nat) (l : List S39), Zero l → Zero (fillAll kd ps c l)
  | [], _, _, h => h
  | _ :: ps, c, _, h => fillAll_zero hk ps (c + 1) _ (fillAt_zero h hk)
theorem rdN (l : List S63) (i : Nat) (h : i < l.length) : rd_T63 l (i : Int) = l[i] := rd_need_nat l i h
theorem refFirst_l1 (m : List S63) (gap : Int) (i : Nat) (hi : i < m.length) (out : List S39) (hz : Zero out) (hol : out.length ≤ 10000) (ev : List Int) (col cols : Nat) (hev : ev.length = cols) (hfit : col + cols ≤ out.length) (p0 p1 p3 : Int) (hkd : m[i].f3.f0 ≠ 0) (R : List S39 × Int)
    (hend : Ev (fun k => purflingref15_First.l0 k m gap (fillAll m[i].f3.f0 ev col out) (wrap64 ((i : Int) + 1))) R) :
    ∀ (d c : Nat), c + d = cols → Ev (fun k => purflingref15_First.l1 k m gap (fillAll m[i].f3.f0 (ev.take c) col out) (i : Int) ev (c : Int) p0 p1 (col : Int) p3 (cols : Int)) R
  | 0, c, h => by
    refine Ev.step (f := fun k => _) (fun k => by rw [purflingref15_First.l1]) ?_
    rw [List.take_of_length_le (by omega)]
    exact Base.Ev.neg (by omega) hend
  | d + 1, c, h => by
    have ih := refFirst_l1 m gap i hi out hz hol ev col cols hev hfit p0 p1 p3 hkd R hend d (c + 1) (by omega)
    have hc : c < ev.length := by omega
    rw [fillAll_take _ _ _ _ _ hc] at ih
    have hlen := fillAll_length m[i].f3.f0 (ev.take c) col out
    have hzc := fillAll_zero hkd (ev.take c) col out hz
    generalize fillAll m[i].f3.f0 (ev.take c) col out = cur at *
    have ec : wrap64 ((col : Int) + (c : Int)) = ((col + c : Nat) : Int) := by rw [wrap_id (by omega) (by omega)]; rfl
    have hcc : col + c < cur.length := by omega
    have er : rd ev (c : Int) = ev[c] := by rw [rd_nat, List.getElem?_eq_getElem hc, Option.getD_some]
    refine Ev.step (f := fun k => _) (fun k => by rw [purflingref15_First.l1, ec, rdS cur (col + c) hcc, rdN m i hi, er, Int.toNat_natCast, nxt (i := c) (by omega)]) ?_
    refine Base.Ev.pos (by omega) (Base.Ev.pos (by omega) (Base.Ev.pos (by omega) ?_))
    have hau : autoS (cur[col + c]?.getD z39) = (cur[col + c].f0 == 0) := by
      rw [List.getElem?_eq_getElem hcc, Option.getD_some]
      have := hzc cur[col + c] (List.getElem_mem hcc)
      unfold autoS
      rw [Bool.eq_iff_iff]
      simp
      exact this
    unfold fillAt at ih
    rw [hau] at ih
    by_cases c0 : cur[col + c].f0 = 0
    · rw [if_pos (by simpa using c0)] at ih
      exact Base.Ev.pos c0 (Base.Ev.pos (by omega) (Base.Ev.pos (by omega) (Base.Ev.pos (by omega) (Base.Ev.pos (by omega) ih))))
    · rw [if_neg (by simpa using c0)] at ih
      exact Base.Ev.neg c0 ih
theorem good_cases {kd n : Int} (h : goodSize kd n = true) : (kd = 0 ∧ n = 0) ∨ (kd = 1 ∧ 0 ≤ n ∧ n ≤ 1073741824) ∨ (kd = 2 ∧ 0 ≤ n ∧ n ≤ 10000000) := by
  have h1 := badSize_eq ⟨kd, n⟩
  unfold badSize at h1
  simp only [h, Bool.not_true] at h1
  have h2 : Oks ⟨kd, n⟩ := by simpa using h1.symm
  exact h2
theorem refFirst_l0 (m : List S63) (gap : Int) (hg : 0 ≤ gap ∧ gap ≤ 1073741824) (hm : m.length ≤ 100) (n : Nat) (hn : n ≤ 10000) (hx : ∀ x ∈ m, ¬ NeedBad n x.f0.f2 x.f0.f4 x.f1 x.f2 x.f3.f0 x.f3.f1) :
    ∀ (d i : Nat) (out : List S39), i + d = m.length → out.length = n → Zero out → Ev (fun k => purflingref15_First.l0 k m gap out (i : Int)) ((m.drop i).foldl (firstStep gap) out, 0)
  | 0, i, out, h, _, _ => by
    refine Ev.step (f := fun k => _) (fun k => by rw [purflingref15_First.l0]) ?_
    rw [List.drop_of_length_le (by omega)]
    exact Base.Ev.neg (by omega) (Base.Ev.val rfl)
  | d + 1, i, out, h, hol, hz => by
    have hi : i < m.length := by omega
    have hb := hx m[i] (List.getElem_mem hi)
    rw [List.drop_eq_getElem_cons hi, List.foldl_cons]
    have ih := fun out' h1 h2 => refFirst_l0 m gap hg hm n hn hx d (i + 1) out' (by omega) h1 h2
    have en : wrap64 ((i : Int) + 1) = ((i + 1 : Nat) : Int) := nxt (by omega)
    unfold NeedBad at hb
    simp only [not_or, Bool.not_eq_false] at hb
    obtain ⟨hgs, _, _, _, hp2, hp2l, hp4, hp4l⟩ := hb
    have hcs := good_cases hgs
    obtain ⟨col, hcol⟩ := Int.eq_ofNat_of_zero_le (show 0 ≤ m[i].f0.f2 by omega)
    obtain ⟨cols, hcols⟩ := Int.eq_ofNat_of_zero_le (show 0 ≤ m[i].f0.f4 by omega)
    refine Ev.step (f := fun k => _) (fun k => by rw [purflingref15_First.l0, rdN m i hi]) ?_
    refine Base.Ev.pos (by omega) (Base.Ev.pos (by omega) ?_)
    by_cases c1 : m[i].f0.f1 = 0
    · refine Base.Ev.pos c1 ?_
      by_cases c2 : m[i].f3.f0 = 0
      · have e : firstStep gap out m[i] = out := by
          unfold firstStep
          rw [if_neg (by simp [c1]), if_pos (by unfold autoS; rw [c2, show m[i].f3.f1 = 0 by omega]; rfl)]
        rw [e]
        rw [show (m[i].f3.f0 == 0) = true from by simpa using c2]
        refine Ev.step (f := fun k => _) (fun k => by rw [purflingref15_First.j2, en]) ?_
        exact Base.Ev.pos rfl (ih out hol hz)
      · have e : firstStep gap out m[i] = fillAll m[i].f3.f0 (evenOut (lenOfN gap m[i]) cols) col out := by
          unfold firstStep
          rw [if_neg (by simp [c1]), if_neg (by unfold autoS; simp [c2]), hcol, hcols]
          rfl
        rw [e]
        rw [show (m[i].f3.f0 == 0) = false from by simpa using c2]
        have hpn := refPart14 gap m[i].f3.f1 cols ⟨by omega, by omega⟩ hg (by omega)
        have hN0 : 0 ≤ lenOfN gap m[i] ∧ lenOfN gap m[i] ≤ 1073741824 := by
          have h0 : 0 ≤ gap * ((cols : Int) - 1) := Int.mul_nonneg hg.1 (by omega)
          unfold lenOfN partN mx
          rw [hcols]
          (repeat' split) <;> omega
        have hmay : mayShare (lenOfN gap m[i]) (cols : Int) := by
          unfold mayShare
          omega
        have hj3 : Ev (fun k => purflingref15_First.j3 k m gap out (i : Int) (lenOfN gap m[i]) m[i].f0.f0 m[i].f0.f1 m[i].f0.f2 m[i].f0.f3 m[i].f0.f4) ((m.drop (i + 1)).foldl (firstStep gap) (fillAll m[i].f3.f0 (evenOut (lenOfN gap m[i]) cols) col out), 0) := by
          refine Ev.step (f := fun k => _) (fun k => by rw [purflingref15_First.j3]) ?_
          rw [hcol, hcols]
          have he := refEven_ev (lenOfN gap m[i]) (cols : Int) hmay
          rw [Int.toNat_natCast] at he
          refine Ev.bind he ?_
          have h1 := refFirst_l1 m gap i hi out hz (by omega) (evenOut (lenOfN gap m[i]) cols) col cols (evenOut_len _ _) (by omega) m[i].f0.f0 m[i].f0.f1 m[i].f0.f3 c2 _ (by rw [en]; exact ih _ (by rw [fillAll_length]; exact hol) (fillAll_zero c2 _ _ _ hz)) cols 0 (by omega)
          rw [List.take_zero] at h1
          exact h1
        refine Ev.step (f := fun k => _) (fun k => by rw [purflingref15_First.j2, rdN m i hi]) ?_
        refine Base.Ev.neg (by simp) (Base.Ev.pos (by omega) (Base.Ev.pos (by omega) ?_))
        by_cases c3 : m[i].f3.f0 = 1
        · have el : lenOfN gap m[i] = partN gap cols m[i].f3.f1 := by unfold lenOfN; rw [if_pos c3, hcols]
          rw [el] at hj3
          refine Base.Ev.pos c3 (Ev.bind (a := partN gap cols m[i].f3.f1) ?_ ?_)
          · rw [hcols]
            exact hpn
          · rw [el]
            exact hj3
        · have el : lenOfN gap m[i] = m[i].f3.f1 := by unfold lenOfN; rw [if_neg c3]
          rw [el] at hj3
          refine Base.Ev.neg c3 ?_
          rw [el]
          exact hj3
    · have e : firstStep gap out m[i] = out := by
        unfold firstStep
        rw [if_pos c1]
      rw [e]
      refine Base.Ev.neg c1 ?_
      refine Ev.step (f := fun k => _) (fun k => by rw [purflingref15_First.j2, en]) ?_
      exact Base.Ev.pos rfl (ih out hol hz)
theorem refFirst_no (l : List S39) (m : List S63) (gap : Int) : Ev (fun k => purflingref15_First.j0 k l m gap true) ([], 130) := by
  refine Ev.step (f := fun k => _) (fun k => by rw [purflingref15_First.j0]) ?_
  exact Base.Ev.pos rfl (Base.Ev.val rfl)
/-- Both say one thing. -/
theorem first_both (l : List S39) (m : List S63) (gap : Int) (hl : l.length ≤ 40) (hm : m.length ≤ 100) : ∃ o e, widths_First.f l m gap = some (o, e) ∧ o.length ≤ 40 ∧ Ev (fun k => purflingref15_First.f k l m gap) (o, e) := by
  unfold widths_First.f purflingref15_First.f
  rw [refRight_eq]
  unfold columns_Right.f
  rw [decide_eq_true (show l.length ≤ 10000 by omega), Bool.true_and]
  by_cases c : (!(l.any badSize) && !(m.any (badNeed l.length))) = true
  · rw [c, Option.bind_some]
    by_cases c0 : gap < 0
    · rw [if_neg (by omega)]
      exact ⟨_, _, rfl, by simp, Ev.bind (Ev.now _) (Base.Ev.pos rfl (Base.Ev.pos c0 (refFirst_no _ _ _)))⟩
    · by_cases c1 : gap > 1073741824
      · rw [if_neg (by omega)]
        refine ⟨_, _, rfl, by simp, Ev.bind (Ev.now _) (Base.Ev.pos rfl (Base.Ev.neg c0 ?_))⟩
        rw [decide_eq_true c1]
        exact refFirst_no _ _ _
      · rw [if_pos ⟨rfl, by omega, by omega⟩]
        refine ⟨_, _, rfl, by rw [firstSizes_length]; exact hl, Ev.bind (Ev.now _) (Base.Ev.pos rfl (Base.Ev.neg c0 ?_))⟩
        rw [decide_eq_false c1]
        simp only [Bool.and_eq_true, Bool.not_eq_true'] at c
        have hz : Zero l := by
          intro s hs h0
          have h1 := List.any_eq_false.1 c.1 s hs
          rw [badSize_eq] at h1
          have h2 : Oks s := by simpa using h1
          unfold Oks at h2
          omega
        have hx : ∀ x ∈ m, ¬ NeedBad l.length x.f0.f2 x.f0.f4 x.f1 x.f2 x.f3.f0 x.f3.f1 := fun x hx => (badNeed_no _ _).1 (by simpa using List.any_eq_false.1 c.2 x hx)
        refine Ev.step (f := fun k => _) (fun k => by rw [purflingref15_First.j0]) ?_
        refine Base.Ev.neg (by simp) (Base.Ev.pos (by simp; omega) ?_)
        exact refFirst_l0 m gap ⟨by omega, by omega⟩ hm l.length (by omega) hx m.length 0 l (by omega) rfl hz
  · have cf : (!(l.any badSize) && !(m.any (badNeed l.length))) = false := by simpa using c
    rw [cf, Option.bind_some, if_neg (by simp)]
    exact ⟨_, _, rfl, by simp, Ev.bind (Ev.now _) (Base.Ev.neg (by simp) (refFirst_no _ _ _))⟩
theorem sameSizes_l (l : List S39) (hl : l.length ≤ 40) : ∀ (d i : Nat), i + d = l.length → Ev (fun k => purflingref15_SameSizes.l0 k l l (i : Int)) true
  | 0, i, h => by
    refine Ev.step (f := fun k => _) (fun k => by rw [purflingref15_SameSizes.l0]) ?_
    exact Base.Ev.neg (by omega) (Base.Ev.val rfl)
  | d + 1, i, h => by
    have hi : i < l.length := by omega
    refine Ev.step (f := fun k => _) (fun k => by rw [purflingref15_SameSizes.l0, nxt (by omega)]) ?_
    exact Base.Ev.pos (by omega) (Base.Ev.pos (by omega) (Base.Ev.pos (by omega) (Base.Ev.neg (by simp) (sameSizes_l l hl d (i + 1) (by omega)))))
theorem sameSizes_ev (l : List S39) (hl : l.length ≤ 40) : Ev (fun k => purflingref15_SameSizes.f k l l) true := by
  unfold purflingref15_SameSizes.f
  exact Base.Ev.pos rfl (sameSizes_l l hl l.length 0 (by omega))
theorem cut13 (l : List S39) (m : List S63) : purflinglaw13_Cut.f l m = some (l.take 40, m.take 100) := by
  obtain ⟨h1, h2, h3⟩ := mn_take l 40 40 rfl
  obtain ⟨h4, h5, h6⟩ := mn_take m 100 100 rfl
  unfold purflinglaw13_Cut.f
  rw [if_pos h1, if_pos h2, if_pos h4, if_pos h5, h3, h6]
end Go.Proofs.Ytilfgmclhoidiaa.Base
namespace Go.Proofs.Ytilfgmclhoidiaa.Pure
open Go.RowKit Go.Proofs.Ytilfgmclhoidiaa.PA Go.Proofs.YtilfgmclhoidiaaW.PrintWords Go.Proofs.YtilfgmclhoidiaaW.PrintLast Go.Proofs.YtilfgmclhoidiaaW.PrintMore Go.Proofs.Ytilfgmclhoidiaa.Base
theorem WidthsFixed (l : List S39) (_ : ∀ b ∈ l, good39 b) (_ : l.length ≤ maxLen) (m : List S63) (_ : ∀ b ∈ m, good63 b) (_ : m.length ≤ maxLen) (t : Int) (_ : (Lit.int .i64 t).wf = true) (gap : Int) (_ : (Lit.int .i64 gap).wf = true) : ∃ k, purflinglaw15_WidthsFixed.f k l m t gap = some true := by
  suffices h : Ev (fun k => purflinglaw15_WidthsFixed.f k l m t gap) true from h.rounds
  unfold purflinglaw15_WidthsFixed.f
  rw [cut13]
  have hl : (l.take 40).length ≤ 40 := by rw [List.length_take]; omega
  have hm : (m.take 100).length ≤ 100 := by rw [List.length_take]; omega
  generalize l.take 40 = l at *
  generalize m.take 100 = m at *
  refine Ev.bind shown15_ev (Ev.bind (Ev.now _) ?_)
  obtain ⟨o, e, h1, h2, h3⟩ := first_both l m gap hl hm
  have hrest : ∀ a : List Int, a.length ≤ 40 → ∀ c : Int, Ev (fun k => (widths_First.f l m gap).bind fun bt588 => ((purflingref15_First.f k l m gap).bind fun bt592 => (if true = true then ((purflingref01_Same.f k a a).bind fun t596 => (if t596 = true then (if c = c then ((purflingref15_SameSizes.f k bt588.1 bt592.1).bind fun t597 => (if t597 = true then (some (bt588.2 == bt592.2)) else (some false))) else (some false)) else (some false))) else (some false)))) true := by
    intro a ha c
    rw [h1]
    exact Ev.bind (Ev.now _) (Ev.bind h3 (Base.Ev.pos rfl (Ev.bind (same_self a (by omega)) (Base.Ev.pos rfl (Base.Ev.pos rfl (Ev.bind (sameSizes_ev o h2) (Base.Ev.pos rfl (Base.Ev.val (by simp)))))))))
  rcases fixed_prog l (by omega) t with ⟨hn, he⟩ | ⟨hy, he, _⟩
  · exact Ev.bind he (Ev.bind (fixed_ref_no l (by omega) t hn) (hrest [] (by simp) 130))
  · have hfl : (fixedOut l t).length ≤ 40 := by
      unfold fixedOut
      rw [giveOn_length]
      simpa [wants] using hl
    exact Ev.bind he (Ev.bind (fixed_ref l (by omega) t hy) (hrest _ hfl 0))
end Go.Proofs.Ytilfgmclhoidiaa.Pure
