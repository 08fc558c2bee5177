/- Fixed widths: what the program answers. Condition: at most 100 sizes, of numbers of 64 bits. -/
import Derived.Test.YtilfgmclhoidiaaPAx18
import Derived.Test.YtilfgmclhoidiaaPAx17
import Derived.Test.YtilfgmclhoidiaaPart
import Derived.Test.YtilfgmclhoidiaaGive
import Derived.Test.YtilfgmclhoidiaaOpen
namespace Go.Proofs.Ytilfgmclhoidiaa.Base
open Go.RowKit Go.Proofs.Ytilfgmclhoidiaa.PA Go.Proofs.YtilfgmclhoidiaaW.PrintWords Go.Proofs.YtilfgmclhoidiaaW.PrintLast Go.Proofs.YtilfgmclhoidiaaW.PrintMore Go.Proofs.Ytilfgmclhoidiaa.Pure
theorem nxt {i : Nat} (h : i ≤ 100000) : wrap64 ((i : Int) + 1) = ((i + 1 : Nat) : Int) := by rw [wrap_id (by omega) (by omega)]; rfl
theorem rdS (l : List S39) (i : Nat) (h : i < l.length) : rd_T39 l (i : Int) = l[i] := rd_size_nat l i h
theorem tk_map {α β : Type} (f : α → β) (l : List α) (i : Nat) (h : i < l.length) : (l.map f).take (i + 1) = (l.map f).take i ++ [f l[i]] := by
  rw [List.take_succ_eq_append_getElem (by simpa using h)]
  simp
theorem gD_mem (l : List Int) (i : Nat) (h : i < l.length) : l[i]?.getD 0 ∈ l := by
  rw [List.getElem?_eq_getElem h]
  exact List.getElem_mem h
/-- A right size. -/
def Oks (s : S39) : Prop := (s.f0 = 0 ∧ s.f1 = 0) ∨ (s.f0 = 1 ∧ 0 ≤ s.f1 ∧ s.f1 ≤ 1073741824) ∨ (s.f0 = 2 ∧ 0 ≤ s.f1 ∧ s.f1 ≤ 10000000)
instance (s : S39) : Decidable (Oks s) := by unfold Oks; infer_instance
theorem badSize_eq (s : S39) : badSize s = !decide (Oks s) := by
  unfold badSize goodSize outside Oks
  rw [Bool.eq_iff_iff]
  by_cases h0 : s.f0 = 0
  · simp [h0] <;> omega
  · by_cases h1 : s.f0 = 1
    · simp [h1] <;> omega
    · by_cases h2 : s.f0 = 2
      · simp [h2] <;> omega
      · simp [h0, h1, h2]
/-- Are sizes right? -/
def sizesOk (l : List S39) : Bool := l.all (fun s => decide (Oks s))
theorem sizes_prog (l : List S39) (hl : l.length ≤ 10000) : columns_Right.f l [] = some (sizesOk l) := by
  unfold columns_Right.f sizesOk
  rw [decide_eq_true hl, Bool.true_and, List.any_nil, Bool.not_false, Bool.and_true]
  congr 1
  rw [List.not_any_eq_all_not]
  congr 1
  funext s
  rw [badSize_eq, Bool.not_not]
theorem sizesOk_mem {l : List S39} (h : sizesOk l = true) : ∀ s ∈ l, Oks s := fun s hs => of_decide_eq_true (List.all_eq_true.1 h s hs)
/-- What a size is, of a total. -/
def wantOf (t : Int) (s : S39) : Int := if s.f0 = 1 then s.f1 else if s.f0 = 2 then mn (s.f1 * t / 10000) 9223372036854775807 else 0
def wants (t : Int) (l : List S39) : List Int := l.map (wantOf t)
theorem want_bound (t : Int) (s : S39) (hs : Oks s) (ht : 0 ≤ t) : 0 ≤ wantOf t s ∧ wantOf t s ≤ 9223372036854775807 := by
  unfold Oks at hs
  unfold wantOf
  split
  · omega
  · split
    · have h0 : 0 ≤ s.f1 := by omega
      have h1 : 0 ≤ s.f1 * t := Int.mul_nonneg h0 ht
      have h2 : 0 ≤ s.f1 * t / 10000 := by omega
      unfold mn
      split <;> omega
    · omega
theorem want_prog (t : Int) (s : S39) (hs : Oks s) (ht0 : 0 ≤ t) (ht : t ≤ 576460752303423488) : Ev (fun k => style_Wanted.f k s.f0 s.f1 t 0) (wantOf t s) := by
  unfold style_Wanted.f wantOf
  unfold Oks at hs
  by_cases c1 : s.f0 = 1
  · rw [if_pos c1]
    exact Base.Ev.pos c1 (Base.Ev.val rfl)
  · rw [if_neg c1]
    by_cases c2 : s.f0 = 2
    · rw [if_pos c2]
      exact Base.Ev.neg c1 (Base.Ev.pos c2 (Base.Ev.pos ht0 (Ev.bind (part_ev s.f1 t ⟨by omega, by omega⟩ ⟨ht0, by omega⟩) (Base.Ev.val rfl))))
    · rw [if_neg c2]
      exact Base.Ev.neg c1 (Base.Ev.neg c2 (Base.Ev.val rfl))
/-- Who gets what is left: the automatic ones, or all. -/
def isAuto (s : S39) : Bool := s.f0 == 0 && s.f1 == 0
def nats (l : List Nat) : List Int := l.map (fun n : Nat => (n : Int))
def autosF (l : List S39) : List Bool := l.map isAuto
def insF (l : List S39) : List Bool := if pos (autosF l) = [] then List.replicate l.length true else autosF l
theorem pos_snoc : ∀ (b : List Bool) (x : Bool), pos (b ++ [x]) = if x = true then pos b ++ [b.length] else pos b
  | [], true => rfl
  | [], false => rfl
  | true :: b, x => by
    show 0 :: (pos (b ++ [x])).map (· + 1) = _
    rw [pos_snoc b x]
    cases x <;> simp [pos]
  | false :: b, x => by
    show (pos (b ++ [x])).map (· + 1) = _
    rw [pos_snoc b x]
    cases x <;> simp [pos]
theorem fixed_l0 (l : List S39) (hl : l.length ≤ 100) (hk : ∀ s ∈ l, Oks s) (t : Int) (ht0 : 0 ≤ t) (ht : t ≤ 576460752303423488) (R : List Int × Int)
    (hend : Ev (fun k => widths_Fixed.j2 k t (wants t l) (nats (pos (insF l)))) R) :
    ∀ (d i : Nat), i + d = l.length → Ev (fun k => widths_Fixed.l0 k t ((wants t l).take i) (nats (pos ((autosF l).take i))) (nats (List.range i)) l (l.length : Int) (i : Int)) R
  | 0, i, h => by
    obtain rfl : i = l.length := by omega
    refine Ev.step (f := fun k => _) (fun k => by rw [widths_Fixed.l0]) ?_
    rw [List.take_of_length_le (l := wants t l) (by simp [wants]), List.take_of_length_le (l := autosF l) (by simp [autosF])]
    refine Base.Ev.neg (by omega) ?_
    unfold insF at hend
    by_cases c : pos (autosF l) = []
    · rw [if_pos c, pos_all] at hend
      refine Base.Ev.pos (by rw [c]; rfl) hend
    · rw [if_neg c] at hend
      refine Base.Ev.neg ?_ hend
      have := List.length_pos_iff.2 c
      simp [nats]
      exact c
  | d + 1, i, h => by
    have hi : i < l.length := by omega
    have ho := hk l[i] (List.getElem_mem hi)
    have hw := want_prog t l[i] ho ht0 ht
    have ih := fixed_l0 l hl hk t ht0 ht R hend d (i + 1) (by omega)
    have e1 : (wants t l).take (i + 1) = (wants t l).take i ++ [wantOf t l[i]] := tk_map _ l i hi
    have e2 : (autosF l).take (i + 1) = (autosF l).take i ++ [isAuto l[i]] := tk_map _ l i hi
    have e3 : nats (List.range (i + 1)) = nats (List.range i) ++ [(i : Int)] := by simp [nats, List.range_succ]
    have e4 : ((autosF l).take i).length = i := by simp [autosF]; omega
    have hp := pos_length_le ((autosF l).take i)
    rw [e1, e2, e3, pos_snoc, e4] at ih
    have n1 : ((wants t l).take i).length < 17592186044416 := by rw [List.length_take]; omega
    have n2 : (nats (List.range i)).length < 17592186044416 := by simp [nats]; omega
    have n3 : (nats (pos ((autosF l).take i))).length < 17592186044416 := by simp [nats]; omega
    refine Ev.step (f := fun k => _) (fun k => by rw [widths_Fixed.l0, rdS l i hi, nxt (by omega)]) ?_
    refine Base.Ev.pos (by omega) (Base.Ev.pos (by omega) (Base.Ev.pos (by omega) (Ev.bind hw (Base.Ev.pos n1 (Ev.bind (Ev.now _) (Base.Ev.pos n2 (Ev.bind (Ev.now _) ?_)))))))
    by_cases c : isAuto l[i] = true
    · rw [if_pos c] at ih
      have e5 : nats (pos ((autosF l).take i) ++ [i]) = nats (pos ((autosF l).take i)) ++ [(i : Int)] := by simp [nats]
      rw [e5] at ih
      exact Base.Ev.pos c (Base.Ev.pos n3 ih)
    · rw [if_neg c] at ih
      exact Base.Ev.neg c ih
theorem giveOn_at : ∀ (b : List Bool) (ws o : List Int) (k : Nat), ws.length = b.length → k < (pos b).length → (giveOn b ws (o.take k))[(pos b)[k]?.getD 0]?.getD 0 = ws[(pos b)[k]?.getD 0]?.getD 0
  | [], ws, o, k, _, hk => by simp [pos] at hk
  | true :: b, [], o, k, h, _ => by simp at h
  | true :: b, w :: ws, [], k, _, _ => by rw [List.take_nil, giveOn_nil]
  | true :: b, w :: ws, x :: o, 0, _, _ => by rw [List.take_zero, giveOn_nil]
  | true :: b, w :: ws, x :: o, k + 1, h, hk => by
    have hk' : k < (pos b).length := by simpa [pos] using hk
    have ih := giveOn_at b ws o k (by simpa using h) hk'
    have e1 : giveOn (true :: b) (w :: ws) ((x :: o).take (k + 1)) = (w + x) :: giveOn b ws (o.take k) := rfl
    have e3 : (pos (true :: b))[k + 1]?.getD 0 = (pos b)[k]?.getD 0 + 1 := by simp [pos, List.getElem?_eq_getElem hk']
    rw [e1, e3, List.getElem?_cons_succ, List.getElem?_cons_succ, ih]
  | false :: b, [], o, k, h, _ => by simp at h
  | false :: b, w :: ws, o, k, h, hk => by
    have hk' : k < (pos b).length := by simpa [pos] using hk
    have ih := giveOn_at b ws o k (by simpa using h) hk'
    have e1 : giveOn (false :: b) (w :: ws) (o.take k) = w :: giveOn b ws (o.take k) := rfl
    have e3 : (pos (false :: b))[k]?.getD 0 = (pos b)[k]?.getD 0 + 1 := by simp [pos, List.getElem?_eq_getElem hk']
    rw [e1, e3, List.getElem?_cons_succ, List.getElem?_cons_succ, ih]
theorem add_two (x y : Int) (hx : i64 x) (hy : i64 y) (h : i64 (x + y)) : fixed_Add.f [x, y] = some (x + y) := by
  unfold fixed_Add.f addOut
  rw [List.foldl_cons, List.foldl_cons, List.foldl_nil, step_sat 0 x (by unfold i64; omega) hx, Int.zero_add, sat_id hx, step_sat x y hx hy, sat_id h]
theorem rd_nats (l : List Nat) (k : Nat) (h : k < l.length) : rd (nats l) (k : Int) = (l[k] : Nat) := by
  rw [rd_nat]
  simp [nats, h]
theorem fixed_l1 (b : List Bool) (ws o : List Int) (hws : ws.length = b.length) (hb : b.length ≤ 100) (ho : o.length = (pos b).length) (A B : Int) (hA : ∀ x ∈ ws, 0 ≤ x ∧ x ≤ A) (hB : ∀ x ∈ o, 0 ≤ x ∧ x ≤ B) (hAB : A + B ≤ 9223372036854775807) (hA0 : A ≤ 9223372036854775807) (hB0 : B ≤ 9223372036854775807) :
    ∀ (d i : Nat), i + d = (pos b).length → Ev (fun k => widths_Fixed.l1 k (giveOn b ws (o.take i)) o (nats (pos b)) ((nats (pos b)).length : Int) (i : Int)) (giveOn b ws o, 0)
  | 0, i, h => by
    have hnl : (nats (pos b)).length = (pos b).length := by simp [nats]
    refine Ev.step (f := fun k => _) (fun k => by rw [widths_Fixed.l1]) ?_
    rw [List.take_of_length_le (by omega)]
    exact Base.Ev.neg (by omega) (Base.Ev.val rfl)
  | d + 1, i, h => by
    have hnl : (nats (pos b)).length = (pos b).length := by simp [nats]
    have hpl := pos_length_le b
    have hi : i < (pos b).length := by omega
    have hn := pos_lt b _ (List.getElem_mem hi)
    have ih := fixed_l1 b ws o hws hb ho A B hA hB hAB hA0 hB0 d (i + 1) (by omega)
    have er := rd_nats (pos b) i hi
    have hgl := giveOn_length b ws (o.take i)
    have hst := giveOn_step b ws o i hws ho (by omega)
    have hga := giveOn_at b ws o i hws hi
    rw [List.getElem?_eq_getElem hi, Option.getD_some] at hst hga
    rw [hga] at hst
    have hx := hA _ (gD_mem ws (pos b)[i] (by omega))
    have hy := hB _ (gD_mem o i (by omega))
    have ha := add_two (ws[(pos b)[i]]?.getD 0) (o[i]?.getD 0) (by unfold i64; omega) (by unfold i64; omega) (by unfold i64; omega)
    rw [← hst] at ih
    refine Ev.step (f := fun k => _) (fun k => by rw [widths_Fixed.l1, er, Int.toNat_natCast, nxt (by omega), rd_nat, rd_nat, hga]) ?_
    exact Base.Ev.pos (by omega) (Base.Ev.pos (by omega) (Base.Ev.pos (by omega) (Base.Ev.pos (by omega) (Base.Ev.pos (by omega) (Base.Ev.pos (by omega) (Ev.bind ⟨0, fun _ _ => ha⟩ ih))))))
/-! The whole. -/
def fixedOk (l : List S39) (t : Int) : Prop := l ≠ [] ∧ sizesOk l = true ∧ 0 ≤ t ∧ t ≤ 576460752303423488
instance (l : List S39) (t : Int) : Decidable (fixedOk l t) := by unfold fixedOk; infer_instance
def leftF (t : Int) (l : List S39) : Int := mx (t - (wants t l).sum) 0
def fixedOut (l : List S39) (t : Int) : List Int := giveOn (insF l) (wants t l) (evens (leftF t l) (pos (insF l)).length)
theorem insF_length (l : List S39) : (insF l).length = l.length := by
  unfold insF autosF
  split <;> simp
theorem insF_pos (l : List S39) (h : l ≠ []) : 0 < (pos (insF l)).length := by
  unfold insF
  by_cases c : pos (autosF l) = []
  · rw [if_pos c, pos_all]
    simpa using List.length_pos_iff.2 h
  · rw [if_neg c]
    exact List.length_pos_iff.2 c
theorem sum_pl (l : List Int) (h : ∀ x ∈ l, 0 ≤ x ∧ x ≤ 9223372036854775807) : fixed_Add.f l = some (mn l.sum 9223372036854775807) := by
  suffices k : ∀ (l : List Int) (s : Int), 0 ≤ s → s ≤ 9223372036854775807 → (∀ x ∈ l, 0 ≤ x ∧ x ≤ 9223372036854775807) → l.foldl addStep s = mn (s + l.sum) 9223372036854775807 by
    have := k l 0 (Int.le_refl _) (by omega) h
    unfold fixed_Add.f addOut
    rw [this, Int.zero_add]
  intro l
  induction l with
  | nil =>
    intro s _ h1 _
    show s = _
    unfold mn
    simp
    omega
  | cons a l ih =>
    intro s h0 h1 h
    have ha := h a (by simp)
    have hl := sum_nonneg l (fun x hx => (h x (by simp [hx])).1)
    rw [List.foldl_cons, List.sum_cons, step_sat s a (by unfold i64; omega) (by unfold i64; omega)]
    have hs : 0 ≤ sat (s + a) ∧ sat (s + a) ≤ 9223372036854775807 ∧ sat (s + a) = mn (s + a) 9223372036854775807 := by
      unfold sat mn
      (repeat' split) <;> omega
    rw [ih (sat (s + a)) hs.1 hs.2.1 (fun x hx => h x (by simp [hx])), hs.2.2]
    unfold mn
    (repeat' split) <;> omega
theorem wants_bound (t : Int) (l : List S39) (hk : ∀ s ∈ l, Oks s) (ht : 0 ≤ t) : ∀ x ∈ wants t l, 0 ≤ x ∧ x ≤ 9223372036854775807 := by
  intro x hx
  obtain ⟨s, hs, rfl⟩ := List.mem_map.1 hx
  exact want_bound t s (hk s hs) ht
theorem evens_nonneg (T : Int) (n : Nat) (h : mayShare T n) : (evens T n).sum = T ∧ ∀ x ∈ evens T n, 0 ≤ x ∧ x ≤ T := by
  obtain ⟨h1, h2⟩ := evens_fair T n h
  exact ⟨h1, le_of_sum _ _ h1 h2⟩
theorem fixed_yes (l : List S39) (hl : l.length ≤ 100) (t : Int) (h : fixedOk l t) : Ev (fun k => widths_Fixed.j0 k l t false) (fixedOut l t, 0) ∧ mayShare (leftF t l) (pos (insF l)).length := by
  obtain ⟨hne, hok, ht0, ht⟩ := h
  have hk := sizesOk_mem hok
  have hwb := wants_bound t l hk ht0
  have hwl : (wants t l).length = l.length := by simp [wants]
  have hil := insF_length l
  have hpp := insF_pos l hne
  have hpl := pos_length_le (insF l)
  have hsn := sum_nonneg (wants t l) (fun x hx => (hwb x hx).1)
  have hm : mayShare (leftF t l) (pos (insF l)).length := by
    unfold mayShare leftF mx
    split <;> (refine ⟨?_, ?_, ?_, ?_⟩ <;> omega)
  refine ⟨?_, hm⟩
  refine Ev.step (f := fun k => _) (fun k => by rw [widths_Fixed.j0]) ?_
  refine Base.Ev.neg (by simp) (fixed_l0 l hl hk t ht0 ht _ ?_ l.length 0 (by omega))
  refine Ev.step (f := fun k => _) (fun k => by rw [widths_Fixed.j2]) ?_
  refine Ev.bind ⟨0, fun _ _ => sum_pl (wants t l) hwb⟩ ?_
  have e1 : mx (wrap64 (t - mn (wants t l).sum 9223372036854775807)) 0 = leftF t l := by
    have h1 : 0 ≤ mn (wants t l).sum 9223372036854775807 ∧ mn (wants t l).sum 9223372036854775807 ≤ 9223372036854775807 := by
      unfold mn
      split <;> omega
    rw [wrap_id (by omega) (by omega)]
    unfold leftF mx mn
    (repeat' split) <;> omega
  have hnl : (nats (pos (insF l))).length = (pos (insF l)).length := by simp [nats]
  have he : fixed_Even.f (leftF t l) ((nats (pos (insF l))).length : Int) = some (evens (leftF t l) (pos (insF l)).length, 0) := by
    rw [hnl]
    unfold fixed_Even.f
    rw [if_pos hm, Int.toNat_natCast, evenOut_eq _ _ hm]
  rw [e1]
  refine Ev.bind ⟨0, fun _ _ => he⟩ ?_
  obtain ⟨hes, hev⟩ := evens_nonneg _ _ hm
  have hgo : ∀ A : Int, (∀ x ∈ wants t l, 0 ≤ x ∧ x ≤ A) → A + leftF t l ≤ 9223372036854775807 → A ≤ 9223372036854775807 → Ev (fun k => widths_Fixed.l1 k (wants t l) (evens (leftF t l) (pos (insF l)).length) (nats (pos (insF l))) ((nats (pos (insF l))).length : Int) 0) (fixedOut l t, 0) := by
    intro A hA hAB hA0
    have h1 := fixed_l1 (insF l) (wants t l) (evens (leftF t l) (pos (insF l)).length) (by omega) (by omega) (evens_length _ _) A (leftF t l) hA hev hAB hA0 (by have := hm.2.1; omega) (pos (insF l)).length 0 (by omega)
    rw [List.take_zero, giveOn_nil] at h1
    exact h1
  by_cases c : leftF t l = 0
  · exact hgo 9223372036854775807 hwb (by omega) (by omega)
  · have hlt : (wants t l).sum ≤ t := by
      unfold leftF mx at c
      split at c <;> omega
    refine hgo 576460752303423488 (fun x hx => ⟨(hwb x hx).1, ?_⟩) ?_ (by omega)
    · have := le_sum (wants t l) (fun x hx => (hwb x hx).1) x hx
      omega
    · have : leftF t l ≤ 576460752303423488 := by
        unfold leftF mx
        split <;> omega
      omega
theorem fixed_no (l : List S39) (t : Int) : Ev (fun k => widths_Fixed.j0 k l t true) ([], 130) := by
  refine Ev.step (f := fun k => _) (fun k => by rw [widths_Fixed.j0]) ?_
  exact Base.Ev.pos rfl (Base.Ev.val rfl)
theorem fixed_prog (l : List S39) (hl : l.length ≤ 100) (t : Int) : (¬ fixedOk l t ∧ Ev (fun k => widths_Fixed.f k l t) ([], 130)) ∨ (fixedOk l t ∧ Ev (fun k => widths_Fixed.f k l t) (fixedOut l t, 0) ∧ mayShare (leftF t l) (pos (insF l)).length) := by
  have hr := sizes_prog l (by omega)
  by_cases c : fixedOk l t
  · obtain ⟨hy, hm⟩ := fixed_yes l hl t c
    refine .inr ⟨c, ?_, hm⟩
    obtain ⟨hne, hok, ht0, ht⟩ := c
    have hlen : 0 < l.length := List.length_pos_iff.2 hne
    unfold widths_Fixed.f
    refine Base.Ev.neg (by omega) (Ev.bind ⟨0, fun _ _ => hr⟩ (Base.Ev.pos hok (Base.Ev.neg (by omega) ?_)))
    rw [decide_eq_false (by omega : ¬ t > 576460752303423488)]
    exact hy
  · refine .inl ⟨c, ?_⟩
    unfold widths_Fixed.f
    by_cases c0 : (l.length : Int) = 0
    · exact Base.Ev.pos c0 (fixed_no _ _)
    refine Base.Ev.neg c0 (Ev.bind ⟨0, fun _ _ => hr⟩ ?_)
    by_cases c1 : sizesOk l = true
    · refine Base.Ev.pos c1 ?_
      by_cases c2 : t < 0
      · exact Base.Ev.pos c2 (fixed_no _ _)
      · refine Base.Ev.neg c2 ?_
        have c3 : t > 576460752303423488 := by
          have hnn : l ≠ [] := fun e => c0 (by rw [e]; rfl)
          by_cases c4 : t ≤ 576460752303423488
          · exact absurd ⟨hnn, c1, by omega, c4⟩ c
          · omega
        rw [decide_eq_true c3]
        exact fixed_no _ _
    · exact Base.Ev.neg c1 (fixed_no _ _)
end Go.Proofs.Ytilfgmclhoidiaa.Base
