/- What is shared out adds up to the length; a greater weight gets no less; a weight of 0 gets nothing, unless all are 0. In plain numbers; no program in sight. -/
import Derived.Test.YtpoboffdlnnbmaaTwo
namespace Go.Proofs.Ytpoboffdlnnbmaa.Base
open Go.RowKit Go.Proofs.Ytpoboffdlnnbmaa.PA Go.Proofs.YtpoboffdlnnbmaaW.PrintWords Go.Proofs.YtpoboffdlnnbmaaW.PrintLast Go.Proofs.YtpoboffdlnnbmaaW.PrintMore
theorem perm_sum {a b : List Int} (h : a.Perm b) : a.sum = b.sum := by
  induction h with
  | nil => rfl
  | cons x _ ih => simp only [List.sum_cons, ih]
  | swap x y l => simp only [List.sum_cons]; omega
  | trans _ _ h1 h2 => exact h1.trans h2
theorem sum_set : ∀ (l : List Int) (p : Nat) (x : Int) (h : p < l.length), (l.set p x).sum + l[p] = l.sum + x
  | a :: l, 0, x, _ => by simp; omega
  | a :: l, p + 1, x, h => by
    have := sum_set l p x (by simpa using h)
    simp only [List.set_cons_succ, List.sum_cons, List.getElem_cons_succ]
    omega
/-- The places of a sharing: a row of all places, the greater rests first. -/
structure Order (r : Nat → Int) (n : Nat) (S : List Nat) : Prop where
  len : S.length = n
  nodup : S.Nodup
  lt : ∀ x ∈ S, x < n
  mem : ∀ x, x < n → x ∈ S
  pw : S.Pairwise (before r)
  perm : S.Perm (List.range n)
theorem order (r : Nat → Int) (n : Nat) : Order r n (sortedP r n).toList := by
  obtain ⟨hs, hp, _⟩ := sortedP_facts r n
  exact ⟨by simpa using hs, hp.nodup_iff.2 List.nodup_range, fun x hx => by simpa using hp.mem_iff.1 hx, fun x hx => hp.mem_iff.2 (by simpa using hx), sortedP_pw r n, hp⟩
theorem Order.sum {r : Nat → Int} {n : Nat} {S : List Nat} (h : Order r n S) (qs : List Int) (hq : qs.length = n) : ∀ k, k ≤ n → (bump (S.take k) qs).sum = qs.sum + k
  | 0, _ => by rw [List.take_zero, bump_nil]; simp
  | k + 1, hk => by
    have hkS : k < S.length := by rw [h.len]; omega
    have hlt : S[k] < qs.length := by rw [hq]; exact h.lt _ (List.getElem_mem hkS)
    have hnot : S[k] ∉ S.take k := by
      intro hm
      obtain ⟨i, hi, e⟩ := List.mem_take_iff_getElem.1 hm
      have := (List.getElem_inj h.nodup).1 e
      omega
    have ih := h.sum qs hq k (by omega)
    rw [List.take_succ_eq_append_getElem hkS, ← bump_set (S.take k) qs S[k] hlt hnot]
    have hs := sum_set (bump (S.take k) qs) S[k] (qs[S[k]] + 1) (by rw [bump_length]; exact hlt)
    have hb : (bump (S.take k) qs)[S[k]]'(by rw [bump_length]; exact hlt) = qs[S[k]] := by rw [bump_get _ _ _ hlt, if_neg hnot, Int.add_zero]
    omega
/-- One that is ahead gets what one behind it gets. -/
theorem Order.ahead {r : Nat → Int} {n : Nat} {S : List Nat} (h : Order r n S) {i j k : Nat} (hi : i < n) (hb : before r i j) (hj : j ∈ S.take k) : i ∈ S.take k := by
  obtain ⟨b, hb1, hb2⟩ := List.mem_take_iff_getElem.1 hj
  obtain ⟨a, ha1, ha2⟩ := List.mem_iff_getElem.1 (h.mem i hi)
  rcases Nat.lt_trichotomy a b with c | c | c
  · exact List.mem_take_iff_getElem.2 ⟨a, by omega, ha2⟩
  · subst c
    rw [ha2] at hb2
    subst hb2
    unfold before at hb
    omega
  · have h1 := List.pairwise_iff_getElem.1 h.pw b a (by omega) ha1 c
    rw [ha2, hb2] at h1
    have := before_asymm r _ _ hb h1
    subst this
    unfold before at hb
    omega
theorem sum_le' (f : Nat → Int) (M : Int) : ∀ l : List Nat, (∀ i ∈ l, f i ≤ M) → (l.map f).sum ≤ l.length * M
  | [], _ => by simp
  | a :: l, h => by
    have h1 := h a (by simp)
    have h2 := sum_le' f M l (fun i hi => h i (by simp [hi]))
    rw [List.map_cons, List.sum_cons, List.length_cons, Int.natCast_succ, Int.add_mul]
    omega
/-- What the shares are, one by one. -/
theorem Facts.at {total : Int} {l : List Int} (f : Facts total l) (i : Nat) (hi : i < l.length) :
    rd (shareOut total l) (i : Int) = qOf total l i + if i ∈ (sortedP (rOf total l) l.length).toList.take (total - qSum total l).toNat then 1 else 0 := by
  rw [f.share, rd_nat, List.getElem?_eq_getElem (by rw [bump_length]; simpa using hi), Option.getD_some, bump_get _ _ _ (by simpa using hi)]
  simp
theorem Facts.total_sum {total : Int} {l : List Int} (f : Facts total l) : (shareOut total l).sum = total := by
  obtain ⟨r0, r1, _⟩ := f.rest
  rw [f.share, (order (rOf total l) l.length).sum _ (by simp) _ (by omega)]
  unfold qSum at *
  omega
theorem Facts.more {total : Int} {l : List Int} (f : Facts total l) (i j : Nat) (hi : i < l.length) (hj : j < l.length) (h : l[j]?.getD 0 < l[i]?.getD 0) : rd (shareOut total l) (j : Int) ≤ rd (shareOut total l) (i : Int) := by
  have o := order (rOf total l) l.length
  have ht := f.may.1
  have hp := f.pos
  have hm : total * l[j]?.getD 0 ≤ total * l[i]?.getD 0 := Int.mul_le_mul_of_nonneg_left (Int.le_of_lt h) ht
  have hq : qOf total l j ≤ qOf total l i := Int.ediv_le_ediv hp hm
  have di := f.div i
  have dj := f.div j
  rw [f.at i hi, f.at j hj]
  by_cases hT : j ∈ (sortedP (rOf total l) l.length).toList.take (total - qSum total l).toNat
  · by_cases hq2 : qOf total l j = qOf total l i
    · rw [← hq2] at di
      have hI : i ∈ (sortedP (rOf total l) l.length).toList.take (total - qSum total l).toNat := by
        by_cases hr : rOf total l j < rOf total l i
        · exact o.ahead hi (.inl hr) hT
        · have e : total * l[j]?.getD 0 = total * l[i]?.getD 0 := by omega
          have h0 : total = 0 := by
            have e2 : total * (l[i]?.getD 0 - l[j]?.getD 0) = 0 := by rw [Int.mul_sub]; omega
            rcases Int.mul_eq_zero.1 e2 with h | h
            · exact h
            · omega
          have hq0 : 0 ≤ qSum total l := sum_nonneg' _ _ (fun i _ => (f.q0 i).1)
          have e3 : (total - qSum total l).toNat = 0 := by omega
          rw [e3] at hT
          simp at hT
      rw [if_pos hI, if_pos hT]
      omega
    · split <;> split <;> omega
  · rw [if_neg hT]
    split <;> omega
theorem Facts.zero {total : Int} {l : List Int} (f : Facts total l) (i : Nat) (hi : i < l.length) (h : l[i]?.getD 0 = 0) : rd (shareOut total l) (i : Int) = 0 := by
  have o := order (rOf total l) l.length
  have hp := f.pos
  obtain ⟨r0, r1, r2⟩ := f.rest
  have hq : qOf total l i = 0 := by unfold qOf; rw [h, Int.mul_zero, Int.zero_ediv]
  have hr : rOf total l i = 0 := by unfold rOf; rw [h, Int.mul_zero, Int.zero_emod]
  rw [f.at i hi, hq]
  by_cases hT : i ∈ (sortedP (rOf total l) l.length).toList.take (total - qSum total l).toNat
  · exfalso
    generalize (sortedP (rOf total l) l.length).toList = S at *
    obtain ⟨t, ht1, ht2⟩ := List.mem_take_iff_getElem.1 hT
    have hS : rSum total l = (S.map (rOf total l)).sum := by
      unfold rSum
      exact (perm_sum (o.perm.map (rOf total l))).symm
    have hsplit : (S.map (rOf total l)).sum = ((S.take t).map (rOf total l)).sum + ((S.drop t).map (rOf total l)).sum := by
      rw [← List.sum_append, ← List.map_append, List.take_append_drop]
    have h1 := sum_le' (rOf total l) l.sum (S.take t) (fun x _ => Int.le_of_lt (f.r0 x).2)
    have h2 := sum_le' (rOf total l) 0 (S.drop t) (fun x hx => by
      obtain ⟨u, hu, e⟩ := List.mem_iff_getElem.1 hx
      rw [List.getElem_drop] at e
      have hlen : t + u < S.length := by rw [List.length_drop] at hu; omega
      by_cases hu0 : u = 0
      · subst hu0
        have e' : x = i := by rw [← e, ← ht2]; rfl
        rw [e', hr]
        exact Int.le_refl _
      · have := List.pairwise_iff_getElem.1 o.pw t (t + u) (by omega) hlen (by omega)
        rw [ht2, e] at this
        unfold before at this
        omega)
    rw [Int.mul_zero] at h2
    have h3 : ((S.take t).length : Int) ≤ t := by rw [List.length_take]; omega
    have h4 : ((S.take t).length : Int) * l.sum ≤ t * l.sum := Int.mul_le_mul_of_nonneg_right h3 (Int.le_of_lt hp)
    have h5 : ((t : Int) + 1) * l.sum ≤ (total - qSum total l) * l.sum := Int.mul_le_mul_of_nonneg_right (by omega) (Int.le_of_lt hp)
    rw [Int.add_mul, Int.one_mul] at h5
    omega
  · rw [if_neg hT]
    rfl
theorem Facts.nonneg {total : Int} {l : List Int} (f : Facts total l) (i : Nat) (hi : i < l.length) : 0 ≤ rd (shareOut total l) (i : Int) := by
  rw [f.at i hi]
  have := f.q0 i
  split <;> omega
end Go.Proofs.Ytpoboffdlnnbmaa.Base
