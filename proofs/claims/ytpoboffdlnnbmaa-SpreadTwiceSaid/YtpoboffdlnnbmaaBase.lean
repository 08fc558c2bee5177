/- What fixed.Share and fixed.Even compute, in plain numbers: the quotients, and the rest given one each, by the sorted places. No program in sight. -/
import Derived.Test.YtpoboffdlnnbmaaPAx5
namespace Go.Proofs.Ytpoboffdlnnbmaa.Base
open Go.RowKit Go.Proofs.Ytpoboffdlnnbmaa.PA Go.Proofs.YtpoboffdlnnbmaaW.PrintWords Go.Proofs.YtpoboffdlnnbmaaW.PrintLast

theorem wrap_id {n : Int} (h0 : -9223372036854775808 ≤ n) (h1 : n ≤ 9223372036854775807) : wrap64 n = n := by unfold wrap64; omega

/-- What a list has where it is bumped. -/
def bump (T : List Nat) (out : List Int) : List Int := out.mapIdx (fun i x => x + if i ∈ T then 1 else 0)
theorem bump_length (T : List Nat) (out : List Int) : (bump T out).length = out.length := by simp [bump]
theorem bump_nil (out : List Int) : bump [] out = out := by
  apply List.ext_getElem <;> simp [bump]
theorem bump_get (T : List Nat) (out : List Int) (i : Nat) (h : i < out.length) : (bump T out)[i]'(by rw [bump_length]; exact h) = out[i] + if i ∈ T then 1 else 0 := by simp [bump]

theorem bump_set (T : List Nat) (out : List Int) (p : Nat) (hp : p < out.length) (_ : p ∉ T) : (bump T out).set p (out[p] + 1) = bump (T ++ [p]) out := by
  apply List.ext_getElem
  · simp [bump]
  · intro i h1 h2
    have hi : i < out.length := by simpa [bump] using h2
    rw [List.getElem_set, bump_get _ _ i hi]
    by_cases e : p = i
    · subst e
      rw [if_pos rfl, bump_get _ _ p hi, if_pos (by simp)]
    · have e' : ¬ i = p := fun h => e h.symm
      rw [if_neg e, bump_get _ _ i hi]
      simp [e']
theorem give_eq : ∀ (ps : List Nat) (out : List Int) (k : Nat), (∀ p ∈ ps, p < out.length) → ps.Nodup → (∀ i (h : i < out.length), 0 ≤ out[i] ∧ out[i] ≤ 1152921504606846976 + 1) → k ≤ ps.length → k ≤ 1000000 →
    (∀ p ∈ ps, ∀ h : p < out.length, out[p] ≤ 1152921504606846976) → (giveL ps ((k : Int), out)).2 = bump (ps.take k) out
  | [], out, k, _, _, _, hk, _, _ => by simp [giveL, bump_nil]
  | p :: ps, out, 0, _, _, _, _, _, _ => by rw [giveL_zero _ _ rfl, List.take_zero, bump_nil]
  | p :: ps, out, k + 1, hp, hn, hb, hk, hk2, hb2 => by
    have hpl := hp p (by simp)
    obtain ⟨hpn, hn'⟩ := List.nodup_cons.1 hn
    have hbp := hb p hpl
    have hbp2 := hb2 p (by simp) hpl
    have hrd : rd out (p : Int) = out[p] := by simp [rd, hpl]
    have hs : giveStep (((k + 1 : Nat) : Int), out) p = ((k : Int), out.set p (out[p] + 1)) := by
      unfold giveStep
      rw [if_neg (by simp; omega)]
      simp only [hrd]
      rw [wrap_id (n := out[p] + 1) (by omega) (by omega), wrap_id (by omega) (by omega)]
      congr 1
      omega
    show (giveL ps (giveStep _ p)).2 = _
    rw [hs, give_eq ps (out.set p (out[p] + 1)) k (by simpa using fun q hq => hp q (by simp [hq])) hn' ?_ (by simpa using hk) (by omega) ?_]
    · apply List.ext_getElem
      · simp [bump]
      · intro i h1 h2
        have hi : i < out.length := by simpa [bump] using h2
        rw [bump_get _ _ i (by simpa using hi), bump_get _ _ i hi, List.getElem_set]
        by_cases e : p = i
        · subst e
          have : ¬ p ∈ ps.take k := fun h => hpn (List.mem_of_mem_take h)
          simp [this]
        · have e' : ¬ i = p := fun h => e h.symm
          simp [e, e']
    · intro i h
      rw [List.getElem_set]
      split
      · omega
      · exact hb i (by simpa using h)
    · intro q hq h
      rw [List.getElem_set]
      split
      · rename_i e
        subst e
        exact absurd hq hpn
      · exact hb2 q (by simp [hq]) (by simpa using h)

/-! The quotients, laid out. -/
theorem outL_get {n : Nat} (q : Nat → Int) : ∀ (pre : List (Fin n)) (o : List Int) (i : Nat) (h : i < o.length) (h2 : i < (pre.foldl (fun o i => o.set i.1 (wrap64 (q i.1))) o).length),
    (pre.foldl (fun o i => o.set i.1 (wrap64 (q i.1))) o)[i] = if i ∈ pre.map (·.1) then wrap64 (q i) else o[i]
  | [], o, i, h, _ => by simp
  | a :: pre, o, i, h, h2 => by
    simp only [List.foldl_cons] at h2 ⊢
    rw [outL_get q pre (o.set a.1 (wrap64 (q a.1))) i (by simpa using h) h2, List.getElem_set]
    by_cases e : a.1 = i
    · subst e
      simp
    · have e' : ¬ i = a.1 := fun h => e h.symm
      simp [e, e']
theorem outL_all (n : Nat) (q : Nat → Int) (hq : ∀ i, i < n → 0 ≤ q i ∧ q i ≤ 9223372036854775807) : outL n q (List.finRange n) = (List.range n).map q := by
  apply List.ext_getElem
  · rw [outL_length]; simp
  · intro i h1 h2
    have hi : i < n := by simpa using h2
    refine (outL_get q (List.finRange n) (List.replicate n 0) i (by simpa using hi) h1).trans ?_
    have hm : i ∈ (List.finRange n).map (·.1) := List.mem_map.2 ⟨⟨i, hi⟩, by simp, rfl⟩
    rw [if_pos hm, wrap_id (by have := hq i hi; omega) (by have := hq i hi; omega)]
    simp
theorem restL_eq {n : Nat} (q : Nat → Int) (hq : ∀ i, i < n → 0 ≤ q i ∧ q i ≤ 9223372036854775807) : ∀ (pre : List (Fin n)) (s : Int), ((pre.map (fun i => q i.1)).sum ≤ s) → s ≤ 9223372036854775807 → restL s q pre = s - (pre.map (fun i => q i.1)).sum
  | [], s, _, _ => by simp [restL]
  | a :: pre, s, h, hs => by
    have h0 := hq a.1 a.2
    have h1 : 0 ≤ (pre.map (fun i => q i.1)).sum := sum_nonneg _ (fun x hx => by
      obtain ⟨i, _, rfl⟩ := List.mem_map.1 hx
      exact (hq i.1 i.2).1)
    simp only [List.map_cons, List.sum_cons] at h ⊢
    show restL (wrap64 (s - wrap64 (q a.1))) q pre = _
    rw [wrap_id (n := q a.1) (by omega) (by omega), wrap_id (n := s - q a.1) (by omega) (by omega), restL_eq q hq pre (s - q a.1) (by omega) (by omega)]
    omega
theorem finRange_map (n : Nat) (q : Nat → Int) : (List.finRange n).map (fun i => q i.1) = (List.range n).map q := by
  apply List.ext_getElem <;> simp

/-! The division's sums. -/
theorem sum_mul (S : Int) : ∀ l : List Int, (l.map (· * S)).sum = l.sum * S
  | [] => by simp
  | a :: l => by simp only [List.map_cons, List.sum_cons, sum_mul S l, Int.add_mul]
theorem sum_add (f g : Nat → Int) : ∀ l : List Nat, (l.map (fun i => f i + g i)).sum = (l.map f).sum + (l.map g).sum
  | [] => by simp
  | a :: l => by simp only [List.map_cons, List.sum_cons, sum_add f g l]; omega
theorem sum_congr (f g : Nat → Int) : ∀ l : List Nat, (∀ i ∈ l, f i = g i) → (l.map f).sum = (l.map g).sum
  | [], _ => rfl
  | a :: l, h => by simp only [List.map_cons, List.sum_cons]; rw [h a (by simp), sum_congr f g l (fun i hi => h i (by simp [hi]))]
theorem sum_lt (f : Nat → Int) (M : Int) : ∀ l : List Nat, l ≠ [] → (∀ i ∈ l, f i < M) → (l.map f).sum < l.length * M
  | [], h, _ => absurd rfl h
  | [a], _, h => by have := h a (by simp); simp; omega
  | a :: b :: l, _, h => by
    have h1 := h a (by simp)
    have h2 := sum_lt f M (b :: l) (by simp) (fun i hi => h i (by simp [hi]))
    rw [List.map_cons, List.sum_cons, List.length_cons, Int.natCast_succ, Int.add_mul]
    omega
theorem sum_nonneg' (f : Nat → Int) (l : List Nat) (h : ∀ i ∈ l, 0 ≤ f i) : 0 ≤ (l.map f).sum := sum_nonneg _ (fun x hx => by
  obtain ⟨i, hi, rfl⟩ := List.mem_map.1 hx
  exact h i hi)
theorem list_as_range (l : List Int) : (List.range l.length).map (fun i => l[i]?.getD 0) = l := by
  apply List.ext_getElem
  · simp
  · intro i h1 h2
    simp [h2]

structure Facts (total : Int) (l : List Int) where
  may : mayShare total l.length
  good : goodW l
  pos : 0 < l.sum
theorem Facts.wt {total : Int} {l : List Int} (h : Facts total l) (i : Nat) : 0 ≤ l[i]?.getD 0 ∧ l[i]?.getD 0 ≤ 1125899906842623 := by
  by_cases hi : i < l.length
  · rw [List.getElem?_eq_getElem hi]
    exact h.good _ (List.getElem_mem hi)
  · rw [List.getElem?_eq_none (by omega)]
    simp
theorem Facts.le {total : Int} {l : List Int} (h : Facts total l) (i : Nat) : l[i]?.getD 0 ≤ l.sum := by
  by_cases hi : i < l.length
  · rw [List.getElem?_eq_getElem hi]
    exact le_sum l (fun x hx => (h.good x hx).1) _ (List.getElem_mem hi)
  · rw [List.getElem?_eq_none (by omega)]
    exact Int.le_of_lt h.pos
theorem Facts.div {total : Int} {l : List Int} (_ : Facts total l) (i : Nat) : qOf total l i * l.sum + rOf total l i = total * l[i]?.getD 0 := by
  unfold qOf rOf
  have := Int.emod_add_mul_ediv (total * l[i]?.getD 0) l.sum
  rw [Int.mul_comm l.sum] at this
  omega
theorem Facts.r0 {total : Int} {l : List Int} (h : Facts total l) (i : Nat) : 0 ≤ rOf total l i ∧ rOf total l i < l.sum := by
  have := h.pos
  exact ⟨Int.emod_nonneg _ (by omega), Int.emod_lt_of_pos _ h.pos⟩
theorem Facts.q0 {total : Int} {l : List Int} (h : Facts total l) (i : Nat) : 0 ≤ qOf total l i ∧ qOf total l i ≤ total := by
  have hp := h.pos
  have hw := h.wt i
  have hl := h.le i
  have ht := h.may.1
  refine ⟨Int.ediv_nonneg (Int.mul_nonneg ht hw.1) (by omega), ?_⟩
  have h1 : total * l[i]?.getD 0 ≤ total * l.sum := Int.mul_le_mul_of_nonneg_left hl ht
  have h2 : total * l[i]?.getD 0 / l.sum ≤ total * l.sum / l.sum := Int.ediv_le_ediv hp h1
  rw [Int.mul_ediv_cancel _ (by omega)] at h2
  exact h2
/-- The sum of the quotients. -/
def qSum (total : Int) (l : List Int) : Int := ((List.range l.length).map (qOf total l)).sum
def rSum (total : Int) (l : List Int) : Int := ((List.range l.length).map (rOf total l)).sum
theorem Facts.sums {total : Int} {l : List Int} (h : Facts total l) : qSum total l * l.sum + rSum total l = total * l.sum := by
  have h1 : ((List.range l.length).map (fun i => qOf total l i * l.sum + rOf total l i)).sum = ((List.range l.length).map (fun i => l[i]?.getD 0 * total)).sum :=
    sum_congr _ _ _ (fun i _ => by rw [h.div i, Int.mul_comm])
  rw [sum_add (fun i => qOf total l i * l.sum)] at h1
  have h2 : ((List.range l.length).map (fun i => qOf total l i * l.sum)).sum = qSum total l * l.sum := by
    unfold qSum
    rw [← sum_mul, List.map_map]
    rfl
  have h3 : ((List.range l.length).map (fun i => l[i]?.getD 0 * total)).sum = l.sum * total := by
    have := sum_mul total ((List.range l.length).map (fun i => l[i]?.getD 0))
    rw [List.map_map, list_as_range] at this
    exact this
  rw [h2, h3, Int.mul_comm l.sum] at h1
  exact h1
/-- What is left over: so many as places get one more. -/
theorem Facts.rest {total : Int} {l : List Int} (h : Facts total l) : 0 ≤ total - qSum total l ∧ total - qSum total l < l.length ∧ (total - qSum total l) * l.sum = rSum total l := by
  have hs := h.sums
  have hp := h.pos
  have hn : 0 < l.length := by have := h.may.2.2.1; omega
  have hr0 : 0 ≤ rSum total l := sum_nonneg' _ _ (fun i _ => (h.r0 i).1)
  have hr1 : rSum total l < l.length * l.sum := by
    have := sum_lt (rOf total l) l.sum (List.range l.length) (fun e => by have := congrArg List.length e; rw [List.length_range, List.length_nil] at this; omega) (fun i _ => (h.r0 i).2)
    rwa [List.length_range] at this
  have he : (total - qSum total l) * l.sum = rSum total l := by rw [Int.sub_mul, ← hs, Int.add_comm, Int.add_sub_cancel]
  refine ⟨?_, ?_, he⟩
  · rw [← he] at hr0
    exact Int.le_of_mul_le_mul_right (by simpa using hr0) hp
  · rw [← he] at hr1
    exact Int.lt_of_mul_lt_mul_right hr1 (by omega)
/-- What Share gives. -/
theorem Facts.share {total : Int} {l : List Int} (h : Facts total l) :
    shareOut total l = bump ((sortedP (rOf total l) l.length).toList.take (total - qSum total l).toNat) ((List.range l.length).map (qOf total l)) := by
  have ht := h.may.2.1
  have hlen := h.may.2.2.2
  have hq : ∀ i, i < l.length → 0 ≤ qOf total l i ∧ qOf total l i ≤ 9223372036854775807 := fun i _ => by have := h.q0 i; omega
  obtain ⟨h0, h1, _⟩ := h.rest
  obtain ⟨hs1, hs2, _⟩ := sortedP_facts (rOf total l) l.length
  unfold shareOut mainOut
  rw [outL_all _ _ hq, restL_eq _ hq _ _ (by rw [finRange_map]; have : qSum total l ≤ total := by omega
                                             exact this) (by omega), finRange_map]
  have hk : (total - qSum total l) = (((total - qSum total l).toNat : Nat) : Int) := by omega
  have hk' : total - ((List.range l.length).map (qOf total l)).sum = (((total - qSum total l).toNat : Nat) : Int) := hk
  rw [hk']
  refine give_eq _ _ _ ?_ ?_ ?_ ?_ (by omega) ?_
  · intro p hp
    have := hs2.mem_iff.1 hp
    simpa using this
  · exact hs2.nodup_iff.2 List.nodup_range
  · intro i hi
    have := h.q0 i
    simp
    omega
  · simp [hs1]
    omega
  · intro p _ hp
    have := h.q0 p
    simp
    omega
end Go.Proofs.Ytpoboffdlnnbmaa.Base
