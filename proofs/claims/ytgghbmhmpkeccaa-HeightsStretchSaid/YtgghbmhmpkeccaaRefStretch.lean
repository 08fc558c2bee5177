/- The document's stretched rows are the program's. Condition: at most 8000 rows. -/
import Derived.Test.YtgghbmhmpkeccaaPAx27
import Derived.Test.YtgghbmhmpkeccaaPAx20
import Derived.Test.YtgghbmhmpkeccaaPAx21
import Derived.Test.YtgghbmhmpkeccaaThree
import Derived.Test.YtgghbmhmpkeccaaStretchA
namespace Go.Proofs.Ytgghbmhmpkeccaa.Base
open Go.RowKit Go.Proofs.Ytgghbmhmpkeccaa.PA Go.Proofs.YtgghbmhmpkeccaaW.PrintWords Go.Proofs.YtgghbmhmpkeccaaW.PrintLast Go.Proofs.YtgghbmhmpkeccaaW.PrintMore
theorem refSumH (s x : Int) (hs : 0 ≤ s) (hx : 0 ≤ x) (h : s + x ≤ 9223372036854775807) : Ev (fun k => purflingref01_Sum.f k s x) (s + x) := by
  unfold purflingref01_Sum.f
  by_cases c : x > 0
  · refine Base.Ev.pos c (Ev.step (f := fun k => _) (fun k => by rw [purflingref01_Sum.j0]) ?_)
    have e : wrap64 (9223372036854775807 - x) = 9223372036854775807 - x := wrap_id (by omega) (by omega)
    rw [e]
    exact Base.Ev.neg (by simp; omega) (Base.Ev.neg (by omega) (Base.Ev.val (wrap_id (by omega) (by omega))))
  · refine Base.Ev.neg c (Ev.step (f := fun k => _) (fun k => by rw [purflingref01_Sum.j0]) ?_)
    exact Base.Ev.neg (by simp) (Base.Ev.neg (by omega) (Base.Ev.val (wrap_id (by omega) (by omega))))
theorem refSubH (s x : Int) (hs : 0 ≤ s) (hx : 0 ≤ x) (hs2 : s ≤ 9223372036854775807) (hx2 : x ≤ 9223372036854775807) : Ev (fun k => purflingref01_Sub.f k s x) (s - x) := by
  unfold purflingref01_Sub.f
  refine Base.Ev.neg (by omega) (Ev.step (f := fun k => _) (fun k => by rw [purflingref01_Sub.j0]) ?_)
  refine Base.Ev.neg (by simp) ?_
  by_cases c : x > 0
  · refine Base.Ev.pos c ?_
    have e : wrap64 (-9223372036854775808 + x) = -9223372036854775808 + x := wrap_id (by omega) (by omega)
    rw [e]
    exact Base.Ev.neg (by omega) (Base.Ev.val (wrap_id (by omega) (by omega)))
  · exact Base.Ev.neg c (Base.Ev.val (wrap_id (by omega) (by omega)))
theorem wanted_l0 (l : List Int) (hl : l.length ≤ 10000) : ∀ (d i : Nat), i + d = l.length → Ev (fun k => purflingref16_wanted.l0 k l (i : Int)) ((l.drop i).all (fun x => decide (-1 ≤ x ∧ x ≤ 1073741824)))
  | 0, i, hi => by
    refine Ev.step (f := fun k => _) (fun k => by rw [purflingref16_wanted.l0]) ?_
    refine Base.Ev.neg (by omega) (Base.Ev.val ?_)
    rw [List.drop_of_length_le (by omega), decide_eq_true (by omega : (l.length : Int) ≤ 10000)]
    rfl
  | d + 1, i, hi => by
    have hin : i < l.length := by omega
    have e : wrap64 ((i : Int) + 1) = ((i + 1 : Nat) : Int) := by rw [wrap_id (by omega) (by omega)]; rfl
    have er : rd l (i : Int) = l[i] := by rw [rd_nat, List.getElem?_eq_getElem hin]; rfl
    have ih := wanted_l0 l hl d (i + 1) (by omega)
    refine Ev.step (f := fun k => _) (fun k => by rw [purflingref16_wanted.l0]) ?_
    rw [e, er, List.drop_eq_getElem_cons hin, List.all_cons]
    refine Base.Ev.pos (by omega) (Base.Ev.pos (by omega) ?_)
    by_cases c1 : l[i] < -1
    · rw [decide_eq_false (by omega : ¬ (-1 ≤ l[i] ∧ l[i] ≤ 1073741824)), Bool.false_and]
      exact Base.Ev.pos c1 (Ev.now _)
    · refine Base.Ev.neg c1 ?_
      by_cases c2 : l[i] > 1073741824
      · rw [decide_eq_false (by omega : ¬ (-1 ≤ l[i] ∧ l[i] ≤ 1073741824)), Bool.false_and]
        exact Base.Ev.pos c2 (Ev.now _)
      · rw [decide_eq_true (by omega : -1 ≤ l[i] ∧ l[i] ≤ 1073741824), Bool.true_and]
        exact Base.Ev.neg c2 ih
theorem wanted_ev (l : List Int) (hl : l.length ≤ 10000) : Ev (fun k => purflingref16_wanted.f k l) (l.all (fun x => decide (-1 ≤ x ∧ x ≤ 1073741824))) := by
  have := wanted_l0 l hl l.length 0 (by omega)
  rw [List.drop_zero] at this
  exact this
theorem freeP_at (p : Int → Bool) (l1 : List Int) (i : Nat) (h : p (l1[i]?.getD 0) = true) : ∀ d : Nat, (freeP p l1 (i + 1 + d))[(freeP p l1 i).length]? = some i
  | 0 => by
    rw [Nat.add_zero, freeP_yes p l1 i h, List.getElem?_append_right (by omega), Nat.sub_self]
    rfl
  | d + 1 => by
    have ih := freeP_at p l1 i h d
    by_cases c : p (l1[i + 1 + d]?.getD 0) = true
    · rw [show i + 1 + (d + 1) = (i + 1 + d) + 1 by omega, freeP_yes p l1 _ c, List.getElem?_append_left (List.getElem?_eq_some_iff.1 ih).1]
      exact ih
    · rw [Bool.not_eq_true] at c
      rw [show i + 1 + (d + 1) = (i + 1 + d) + 1 by omega, freeP_no p l1 _ c]
      exact ih
theorem refS_bad (l0 l1 : List Int) (a2 : Int) (hl : l0.length ≤ 8000) (hlen : l0.length = l1.length) : ∀ (d i : Nat) (s c : Int), i + d = l0.length → 0 ≤ s → s ≤ 1125899906842623 * (i : Int) → 0 ≤ c → c ≤ (i : Int) → (∃ j : Nat, i ≤ j ∧ j < l0.length ∧ ¬ wide (rd l0 j)) →
    Ev (fun k => purflingref16_Stretch.l0 k l0 l1 a2 s c (i : Int)) ([], 160)
  | 0, i, s, c, hi, _, _, _, _, ⟨j, h1, h2, _⟩ => by omega
  | d + 1, i, s, c, hi, s0, s1, c0, c1, ⟨j, h1, h2, h3⟩ => by
    have hin : i < l0.length := by omega
    have e : wrap64 ((i : Int) + 1) = ((i + 1 : Nat) : Int) := by rw [wrap_id (by omega) (by omega)]; rfl
    have ec : wrap64 (c + 1) = c + 1 := wrap_id (by omega) (by omega)
    refine Ev.step (f := fun k => _) (fun k => by rw [purflingref16_Stretch.l0]) ?_
    refine Base.Ev.pos (by omega) (Base.Ev.pos (by omega) ?_)
    have bad : Ev (fun k => purflingref16_Stretch.j2 k l0 l1 a2 s c (i : Int) true) ([], 160) := by
      refine Ev.step (f := fun k => _) (fun k => by rw [purflingref16_Stretch.j2]) ?_
      exact Base.Ev.pos rfl (Ev.now _)
    by_cases q1 : rd l0 (i : Int) < 0
    · exact Base.Ev.pos q1 bad
    · refine Base.Ev.neg q1 ?_
      by_cases q2 : rd l0 (i : Int) > 1125899906842623
      · rw [decide_eq_true q2]
        exact bad
      · rw [decide_eq_false q2]
        have hj : i + 1 ≤ j := by
          rcases Nat.lt_or_ge i j with h | h
          · exact h
          · exfalso
            have : i = j := by omega
            subst this
            exact h3 ⟨by omega, by omega⟩
        refine Ev.step (f := fun k => _) (fun k => by rw [purflingref16_Stretch.j2]) ?_
        refine Base.Ev.neg (by decide) (Base.Ev.pos (by omega) (Base.Ev.pos (by omega) (Ev.bind (refSumH s (rd l0 i) s0 (by omega) (by omega)) (Base.Ev.pos (by omega) ?_))))
        rw [e, ec]
        by_cases q3 : rd l1 (i : Int) = -1
        · exact Base.Ev.pos q3 (refS_bad l0 l1 a2 hl hlen d (i + 1) (s + rd l0 i) (c + 1) (by omega) (by omega) (by omega) (by omega) (by omega) ⟨j, hj, h2, h3⟩)
        · exact Base.Ev.neg q3 (refS_bad l0 l1 a2 hl hlen d (i + 1) (s + rd l0 i) c (by omega) (by omega) (by omega) (by omega) (by omega) ⟨j, hj, h2, h3⟩)
theorem refS_sum (l0 l1 : List Int) (a2 : Int) (hl : l0.length ≤ 8000) (hlen : l0.length = l1.length) (hw : ∀ x ∈ l0, wide x) (R : List Int × Int) (hR : Ev (fun k => purflingref16_Stretch.l1 k l0 l1 a2 l0.sum ((freeP isFree l1 l1.length).length : Int) [] 0) R) :
    ∀ (d i : Nat), i + d = l0.length → Ev (fun k => purflingref16_Stretch.l0 k l0 l1 a2 (l0.take i).sum ((freeP isFree l1 i).length : Int) (i : Int)) R
  | 0, i, hi => by
    refine Ev.step (f := fun k => _) (fun k => by rw [purflingref16_Stretch.l0]) ?_
    rw [List.take_of_length_le (by omega), show i = l1.length by omega]
    exact Base.Ev.neg (by omega) hR
  | d + 1, i, hi => by
    have hin : i < l0.length := by omega
    have e : wrap64 ((i : Int) + 1) = ((i + 1 : Nat) : Int) := by rw [wrap_id (by omega) (by omega)]; rfl
    have hfl := freeP_length isFree l1 i
    have ec : wrap64 (((freeP isFree l1 i).length : Int) + 1) = ((freeP isFree l1 i).length : Int) + 1 := wrap_id (by omega) (by omega)
    have hwi := hw _ (rd_mem l0 i hin)
    unfold wide at hwi
    have t0 := take_bnd 1125899906842623 l0 (fun x hx => hw x hx) i
    have s0 := take_next l0 i hin
    have ih := refS_sum l0 l1 a2 hl hlen hw R hR d (i + 1) (by omega)
    refine Ev.step (f := fun k => _) (fun k => by rw [purflingref16_Stretch.l0]) ?_
    refine Base.Ev.pos (by omega) (Base.Ev.pos (by omega) (Base.Ev.neg (by omega) ?_))
    rw [decide_eq_false (by omega : ¬ rd l0 (i : Int) > 1125899906842623)]
    refine Ev.step (f := fun k => _) (fun k => by rw [purflingref16_Stretch.j2]) ?_
    refine Base.Ev.neg (by decide) (Base.Ev.pos (by omega) (Base.Ev.pos (by omega) (Ev.bind (refSumH _ (rd l0 i) t0.1 (by omega) (by omega)) (Base.Ev.pos (by omega) ?_))))
    rw [e, ec, ← s0]
    by_cases q3 : rd l1 (i : Int) = -1
    · rw [freeP_yes isFree l1 i (by rw [← rd_nat, q3]; rfl), List.length_append, List.length_singleton] at ih
      exact Base.Ev.pos q3 ih
    · rw [freeP_no isFree l1 i (by rw [← rd_nat]; simpa [isFree] using q3)] at ih
      exact Base.Ev.neg q3 ih
theorem refS_rows (l0 l1 : List Int) (a2 : Int) (hl : l0.length ≤ 8000) (hlen : l0.length = l1.length) (F : Int) (p : Int → Bool) (hp : ∀ x, p x = true ↔ x = -1 ∨ F = 0) (R : List Int × Int) (o : List Int) (err : Int)
    (hsub : Ev (fun k => purflingref01_Sub.f k a2 l0.sum) (a2 - l0.sum)) (hsh : Ev (fun k => purflingref01_Share.f k (mx 0 (a2 - l0.sum)) (ofRows l0 (freeP p l1 l1.length))) (o, err)) (hR : Ev (fun k => purflingref16_Stretch.l2 k l0 l1 F o [] 0 0) R) :
    ∀ (d i : Nat), i + d = l0.length → Ev (fun k => purflingref16_Stretch.l1 k l0 l1 a2 l0.sum F (ofRows l0 (freeP p l1 i)) (i : Int)) R
  | 0, i, hi => by
    refine Ev.step (f := fun k => _) (fun k => by rw [purflingref16_Stretch.l1]) ?_
    rw [show i = l1.length by omega]
    exact Base.Ev.neg (by omega) (Ev.bind hsub (Ev.bind hsh hR))
  | d + 1, i, hi => by
    have hin : i < l0.length := by omega
    have e : wrap64 ((i : Int) + 1) = ((i + 1 : Nat) : Int) := by rw [wrap_id (by omega) (by omega)]; rfl
    have hfl := freeP_length p l1 i
    have hol : (ofRows l0 (freeP p l1 i)).length ≤ 8000 := by
      unfold ofRows
      rw [List.length_map]
      omega
    have ih := refS_rows l0 l1 a2 hl hlen F p hp R o err hsub hsh hR d (i + 1) (by omega)
    refine Ev.step (f := fun k => _) (fun k => by rw [purflingref16_Stretch.l1]) ?_
    refine Base.Ev.pos (by omega) (Base.Ev.pos (by omega) (Base.Ev.pos (by omega) ?_))
    rw [e]
    have next : p (rd l1 (i : Int)) = true → ofRows l0 (freeP p l1 (i + 1)) = ofRows l0 (freeP p l1 i) ++ [rd l0 (i : Int)] := fun h => by
      rw [freeP_yes p l1 i (by rw [← rd_nat]; exact h), rd_nat]
      unfold ofRows
      rw [List.map_append]
      rfl
    by_cases q3 : rd l1 (i : Int) = -1
    · rw [next ((hp _).2 (.inl q3))] at ih
      exact Base.Ev.pos q3 (Base.Ev.pos (by omega) ih)
    · refine Base.Ev.neg q3 ?_
      by_cases q4 : F = 0
      · rw [next ((hp _).2 (.inr q4))] at ih
        exact Base.Ev.pos q4 (Base.Ev.pos (by omega) ih)
      · rw [freeP_no p l1 i (by
          rw [← rd_nat, ← Bool.not_eq_true, hp]
          omega)] at ih
        exact Base.Ev.neg q4 ih
theorem refS_out (l0 l1 : List Int) (hl : l0.length ≤ 8000) (hlen : l0.length = l1.length) (F : Int) (p : Int → Bool) (hp : ∀ x, p x = true ↔ x = -1 ∨ F = 0) (a o : List Int) (hal : a.length = l0.length) (hlow : ∀ x ∈ a, 0 ≤ x ∧ x ≤ 1152921504606846975) (hol : o.length = (freeP p l1 l1.length).length)
    (hat : ∀ k (h1 : k < (freeP p l1 l1.length).length) (h2 : k < o.length), a[(freeP p l1 l1.length)[k]]? = some (rd l0 (freeP p l1 l1.length)[k] + o[k])) (hno : ∀ j, j ∉ freeP p l1 l1.length → a[j]? = l0[j]?) :
    ∀ (d i : Nat), i + d = l0.length → Ev (fun k => purflingref16_Stretch.l2 k l0 l1 F o (a.take i) ((freeP p l1 i).length : Int) (i : Int)) (a, 0)
  | 0, i, hi => by
    refine Ev.step (f := fun k => _) (fun k => by rw [purflingref16_Stretch.l2]) ?_
    rw [List.take_of_length_le (by omega)]
    exact Base.Ev.neg (by omega) (Ev.now _)
  | d + 1, i, hi => by
    have hin : i < l0.length := by omega
    have hia : i < a.length := by omega
    have e : wrap64 ((i : Int) + 1) = ((i + 1 : Nat) : Int) := by rw [wrap_id (by omega) (by omega)]; rfl
    have hfl := freeP_length p l1 i
    have hfl2 := freeP_length p l1 l1.length
    have ec : wrap64 (((freeP p l1 i).length : Int) + 1) = ((freeP p l1 i).length : Int) + 1 := wrap_id (by omega) (by omega)
    have htl : (a.take i).length ≤ 8000 := by rw [List.length_take]; omega
    have et := List.take_succ_eq_append_getElem hia
    have ih := refS_out l0 l1 hl hlen F p hp a o hal hlow hol hat hno d (i + 1) (by omega)
    rw [et] at ih
    have yes : p (rd l1 (i : Int)) = true → (freeP p l1 i).length < o.length ∧ wrap64 (rd l0 (i : Int) + rd o ((freeP p l1 i).length : Int)) = a[i] ∧ (freeP p l1 (i + 1)).length = (freeP p l1 i).length + 1 := fun h => by
      rw [rd_nat] at h
      have hk := freeP_at p l1 i h (l1.length - (i + 1))
      rw [show i + 1 + (l1.length - (i + 1)) = l1.length by omega] at hk
      obtain ⟨h1, h2⟩ := List.getElem?_eq_some_iff.1 hk
      have h3 := hat _ h1 (by omega)
      rw [h2, List.getElem?_eq_getElem hia] at h3
      have h4 := Option.some.inj h3
      have er : rd o ((freeP p l1 i).length : Int) = o[(freeP p l1 i).length]'(by omega) := by rw [rd_nat, List.getElem?_eq_getElem (by omega)]; rfl
      have hb := hlow _ (List.getElem_mem hia)
      refine ⟨by omega, ?_, ?_⟩
      · rw [er, ← h4]
        exact wrap_id (by omega) (by omega)
      · rw [freeP_yes p l1 i h, List.length_append, List.length_singleton]
    refine Ev.step (f := fun k => _) (fun k => by rw [purflingref16_Stretch.l2]) ?_
    refine Base.Ev.pos (by omega) (Base.Ev.pos (by omega) (Base.Ev.pos (by omega) ?_))
    rw [e, ec]
    by_cases q3 : rd l1 (i : Int) = -1
    · obtain ⟨y1, y2, y3⟩ := yes ((hp _).2 (.inl q3))
      rw [y3] at ih
      rw [y2]
      exact Base.Ev.pos q3 (Base.Ev.pos (by omega) (Base.Ev.pos (by omega) (Base.Ev.pos (by omega) ih)))
    · refine Base.Ev.neg q3 ?_
      by_cases q4 : F = 0
      · obtain ⟨y1, y2, y3⟩ := yes ((hp _).2 (.inr q4))
        rw [y3] at ih
        rw [y2]
        exact Base.Ev.pos q4 (Base.Ev.pos (by omega) (Base.Ev.pos (by omega) (Base.Ev.pos (by omega) ih)))
      · have hpn : p (l1[i]?.getD 0) = false := by
          rw [← rd_nat, ← Bool.not_eq_true, hp]
          omega
        have hni : i ∉ freeP p l1 l1.length := by
          rw [mem_freeP]
          rintro ⟨_, h⟩
          rw [hpn] at h
          cases h
        have ha := hno i hni
        rw [List.getElem?_eq_getElem hia, List.getElem?_eq_getElem hin] at ha
        have er : rd l0 (i : Int) = a[i] := by rw [rd_nat, List.getElem?_eq_getElem hin, Option.getD_some]; exact (Option.some.inj ha).symm
        rw [freeP_no p l1 i hpn] at ih
        rw [er]
        exact Base.Ev.neg q4 (Base.Ev.pos (by omega) ih)
theorem mx_swap (t : Int) : mx 0 t = mx t 0 := by
  unfold mx
  split <;> split <;> omega
/-- The document's answer is the program's. -/
theorem refStretch_both (l0 l1 : List Int) (a2 : Int) (hl : l0.length ≤ 8000) (hl1 : l1.length ≤ 8000) : ∃ a e, a.length ≤ 8000 ∧ heights_Stretch.f l0 l1 a2 = some (a, e) ∧ Ev (fun k => purflingref16_Stretch.f k l0 l1 a2) (a, e) := by
  have bad : Ev (fun k => purflingref16_Stretch.j0 k l0 l1 a2 true) ([], 160) := by
    refine Ev.step (f := fun k => _) (fun k => by rw [purflingref16_Stretch.j0]) ?_
    exact Base.Ev.pos rfl (Ev.now _)
  by_cases h : StrOk l0 l1 a2
  · obtain ⟨o, hF, hf, hs, hat, hno, hshare⟩ := stretched h hl
    have hlen := h.len
    have hp := h.pos
    have ht := h.total
    have t0 := take_bnd 1125899906842623 l0 (fun x hx => h.rows x hx) 0
    have hs0 := sum_nonneg l0 (fun x hx => (h.rows x hx).1)
    refine ⟨_, 0, by rw [hs.len]; exact hl, hf, ?_⟩
    have hFl := freeP_length isFree l1 l1.length
    obtain ⟨p, hpP, hp⟩ : ∃ p : Int → Bool, stretchP l1 = freeP p l1 l1.length ∧ ∀ x, p x = true ↔ x = -1 ∨ ((freeP isFree l1 l1.length).length : Int) = 0 := by
      by_cases c : freeP isFree l1 l1.length = []
      · refine ⟨yesB, by unfold stretchP; rw [if_pos c], fun x => ?_⟩
        rw [c]
        simp [yesB]
      · refine ⟨isFree, by unfold stretchP; rw [if_neg c], fun x => ?_⟩
        have : ¬ ((freeP isFree l1 l1.length).length : Int) = 0 := fun e => c (List.length_eq_zero_iff.1 (by omega))
        simp [isFree, c]
    rw [hpP] at hF hs hat hno hshare ⊢
    obtain ⟨o', e', hsh, _, hshE⟩ := share_both (mx (a2 - l0.sum) 0) (ofRows l0 (freeP p l1 l1.length)) (by
      unfold ofRows
      rw [List.length_map]
      have := freeP_length p l1 l1.length
      omega)
    rw [hsh] at hshare
    obtain ⟨rfl, rfl⟩ := Prod.mk.inj (Option.some.inj hshare)
    rw [← mx_swap] at hshE
    have hout := refS_out l0 l1 hl hlen _ p hp _ _ hs.len hs.low (by rw [hF.len]; exact List.length_map _) hat hno l0.length 0 (by omega)
    have hrows := refS_rows l0 l1 a2 hl hlen _ p hp _ _ _ (refSubH a2 l0.sum (by omega) hs0 (by omega) (by omega)) hshE hout l0.length 0 (by omega)
    have hsum := refS_sum l0 l1 a2 hl hlen h.rows _ hrows l0.length 0 (by omega)
    unfold purflingref16_Stretch.f
    have hall : l1.all (fun x => decide (-1 ≤ x ∧ x ≤ 1073741824)) = true := List.all_eq_true.2 (fun x hx => decide_eq_true (h.wants x hx))
    have hw := wanted_ev l1 (by omega)
    rw [hall] at hw
    refine Ev.bind hw (Base.Ev.pos rfl (Base.Ev.neg (by omega) (Base.Ev.pos (by omega) (Base.Ev.neg (by omega) ?_))))
    rw [decide_eq_false (by omega)]
    refine Ev.step (f := fun k => _) (fun k => by rw [purflingref16_Stretch.j0]) ?_
    exact Base.Ev.neg (by decide) hsum
  · rw [stretch_wrong h]
    refine ⟨[], 160, by simp, rfl, ?_⟩
    unfold purflingref16_Stretch.f
    refine Ev.bind (wanted_ev l1 (by omega)) ?_
    by_cases c1 : l1.all (fun x => decide (-1 ≤ x ∧ x ≤ 1073741824)) = true
    · refine Base.Ev.pos c1 ?_
      by_cases c2 : (l0.length : Int) < 1
      · exact Base.Ev.pos c2 bad
      · refine Base.Ev.neg c2 ?_
        by_cases c3 : (l0.length : Int) = (l1.length : Int)
        · refine Base.Ev.pos c3 ?_
          by_cases c4 : a2 < 0
          · exact Base.Ev.pos c4 bad
          · refine Base.Ev.neg c4 ?_
            by_cases c5 : a2 > 576460752303423488
            · rw [decide_eq_true c5]
              exact bad
            · rw [decide_eq_false c5]
              refine Ev.step (f := fun k => _) (fun k => by rw [purflingref16_Stretch.j0]) ?_
              refine Base.Ev.neg (by decide) ?_
              refine refS_bad l0 l1 a2 hl (by omega) l0.length 0 0 0 (by omega) (by omega) (by omega) (by omega) (by omega) ?_
              refine Classical.byContradiction fun hn => h ⟨by omega, by omega, by omega, fun x hx => ?_, fun x hx => ?_, by omega⟩
              · obtain ⟨i, hi, e⟩ := List.mem_iff_getElem.1 hx
                refine Classical.byContradiction fun hw => hn ⟨i, by omega, hi, ?_⟩
                rw [rd_nat, List.getElem?_eq_getElem hi, Option.getD_some, e]
                exact hw
              · exact of_decide_eq_true (List.all_eq_true.1 c1 x hx)
        · exact Base.Ev.neg c3 bad
    · exact Base.Ev.neg c1 bad
end Go.Proofs.Ytgghbmhmpkeccaa.Base
