/- What heights.Least answers: no row less than it was, and enough for each cell. Condition: at most 8000 rows. -/
import Derived.Test.YtgghbmhmpkeccaaPAx16
import Derived.Test.YtgghbmhmpkeccaaOverT
namespace Go.Proofs.Ytgghbmhmpkeccaa.Base
open Go.RowKit Go.Proofs.Ytgghbmhmpkeccaa.PA Go.Proofs.YtgghbmhmpkeccaaW.PrintWords Go.Proofs.YtgghbmhmpkeccaaW.PrintLast Go.Proofs.YtgghbmhmpkeccaaW.PrintMore
theorem share_okH (total : Int) (w : List Int) (h : mayShare total w.length) (hg : goodW w) : ∃ o, fixed_Share.f total w = some (o, 0) ∧ Fair total w o := by
  rcases share_fair total w with h' | h'
  · exfalso
    unfold fixed_Share.f at h'
    have hb : ¬ w.any badW = true := by
      intro hb
      obtain ⟨x, hx, hxb⟩ := List.any_eq_true.1 hb
      have := hg x hx
      simp [badW] at hxb
      omega
    rw [if_pos h, if_neg hb] at h'
    by_cases c : w.sum = 0
    · rw [if_pos c] at h'
      simp at h'
    · rw [if_neg c] at h'
      simp at h'
  · exact h'
theorem overT_okH (n : Int) (l w : List Int) (hn : wide n) (h2 : ∀ x ∈ l, wide x) (h3 : ∀ x ∈ w, wide x) (h4 : l.length = w.length) (hp : 0 < l.length) (hl : l.length ≤ 8000) : ∃ o, OverIs n l w o ∧ overT n l w = (added o l, 0) := by
  have hs0 := sum_nonneg l (fun x hx => (h2 x hx).1)
  have hn' := hn
  unfold wide at hn'
  have hmay : mayShare (spareOf n l) w.length := by
    unfold mayShare spareOf mx
    split <;> omega
  obtain ⟨o, ho, hf⟩ := share_okH (spareOf n l) w hmay (fun x hx => h3 x hx)
  refine ⟨o, ⟨hn, h2, h3, h4, ho, hf⟩, ?_⟩
  unfold overT sharedT
  rw [if_pos ((overOk_iff n l w).2 ⟨hn, h2, h3, h4⟩), ho]
  rfl
theorem sum_addedH (o l : List Int) (h : o.length = l.length) : (added o l).sum = o.sum + l.sum := by
  have e1 : added o l = (List.range o.length).map (fun i => o[i]?.getD 0 + l[i]?.getD 0) := by
    apply List.ext_getElem
    · simp [added]
    · intro i h1 h2
      have hi : i < o.length := by simpa [added] using h1
      simp [added, rd, hi]
  rw [e1, sum_add (fun i => o[i]?.getD 0), list_as_range, h, list_as_range]
/-- What is grown: as much as was wanted at least, each no less, all wide. -/
structure GrownH (n : Int) (l g : List Int) : Prop where
  len : g.length = l.length
  ge : ∀ i : Nat, i < l.length → rd l i ≤ rd g i
  wide : ∀ x ∈ g, wide x
  enough : n ≤ g.sum
  same : n ≤ l.sum → g = l
  sum : g.sum = mx l.sum n
theorem OverIs.grownH {n : Int} {l w o : List Int} (h : OverIs n l w o) : GrownH n l (added o l) := by
  have hol : o.length = l.length := by rw [h.fair.len, h.len]
  have hsum := sum_addedH o l hol
  rw [h.fair.sum] at hsum
  have hs0 := sum_nonneg l (fun x hx => (h.lW x hx).1)
  have hge : ∀ i : Nat, i < l.length → rd l i ≤ rd (added o l) i := fun i hi => by
    rw [added_at o l i (by omega)]
    have := h.fair.pos _ (rd_mem o i (by omega))
    omega
  have hn := h.nW
  unfold Base.wide at hn
  refine ⟨by rw [added_length, hol], hge, fun x hx => ?_, ?_, fun hle => ?_, ?_⟩
  · obtain ⟨i, hi, e⟩ := List.mem_iff_getElem.1 hx
    have hio : i < o.length := by rw [added_length] at hi; exact hi
    have h1 := added_at o l i hio
    have h5 := h.fair.pos _ (rd_mem o i hio)
    have h6 := h.lW _ (rd_mem l i (by omega))
    have hx0 : rd (added o l) i = x := by rw [rd_nat, List.getElem?_eq_getElem hi, Option.getD_some, e]
    have hall : ∀ y ∈ added o l, 0 ≤ y := fun y hy => by
      obtain ⟨j, hj, ej⟩ := List.mem_iff_getElem.1 hy
      have hjo : j < o.length := by rw [added_length] at hj; exact hj
      have h1 := added_at o l j hjo
      have h5 := h.fair.pos _ (rd_mem o j hjo)
      have h6 := h.lW _ (rd_mem l j (by omega))
      unfold Base.wide at h6
      rw [rd_nat, List.getElem?_eq_getElem hj, Option.getD_some, ej] at h1
      omega
    have hle := le_sum _ hall x hx
    unfold Base.wide at h6 ⊢
    unfold spareOf mx at h5 hsum
    split at hsum <;> split at h5 <;> omega
  · rw [hsum]
    unfold spareOf mx
    split <;> omega
  · have hz : spareOf n l = 0 := by
      unfold spareOf mx
      split <;> omega
    apply List.ext_getElem
    · rw [added_length, hol]
    · intro i h1 h2
      have hio : i < o.length := by omega
      have h3 := added_at o l i hio
      have h5 := h.fair.pos _ (rd_mem o i hio)
      have e1 : rd (added o l) (i : Int) = (added o l)[i] := by rw [rd_nat, List.getElem?_eq_getElem h1]; rfl
      have e2 : rd l (i : Int) = l[i] := by rw [rd_nat, List.getElem?_eq_getElem h2]; rfl
      rw [hz] at h5
      omega
  · rw [hsum]
    unfold spareOf mx
    split <;> split <;> omega
theorem sum_le_ofH (l m : List Int) (hl : l.length = m.length) (h : ∀ i : Nat, i < l.length → rd l (i : Int) ≤ rd m (i : Int)) : l.sum ≤ m.sum := by
  induction l generalizing m with
  | nil =>
    cases m with
    | nil => exact Int.le_refl _
    | cons b m => simp at hl
  | cons a l ih =>
    cases m with
    | nil => simp at hl
    | cons b m =>
      have h0 := h 0 (by simp)
      simp only [rd_nat] at h0
      have := ih m (by simpa using hl) (fun i hi => by
        have := h (i + 1) (by simpa using hi)
        simpa only [rd_nat, List.getElem?_cons_succ] using this)
      simp at h0
      rw [List.sum_cons, List.sum_cons]
      omega
theorem le_mxH (a b : Int) : a ≤ mx a b ∧ b ≤ mx a b := by
  unfold mx
  split <;> omega
/-- No row is less, none is too high. -/
structure NoLessH (l r : List Int) : Prop where
  len : r.length = l.length
  ok : ∀ y ∈ r, wide y
  ge : ∀ i : Nat, i < l.length → rd l i ≤ rd r i
theorem NoLessH.refl {l : List Int} (h : ∀ y ∈ l, wide y) : NoLessH l l := ⟨rfl, h, fun _ _ => Int.le_refl _⟩
theorem NoLessH.trans {a b c : List Int} (h : NoLessH a b) (k : NoLessH b c) : NoLessH a c :=
  ⟨k.len.trans h.len, k.ok, fun i hi => Int.le_trans (h.ge i hi) (k.ge i (by rw [h.len]; exact hi))⟩
/-- A cell's rows are enough for it. -/
def EnoughH (gap : Int) (x : HCell) (r : List Int) : Prop := x.f1 ≤ (partH r x.f0.f1.toNat x.f0.f3.toNat).sum + gap * (x.f0.f3 - 1)
theorem partH_at (l : List Int) (p n i : Nat) (h : i < n) : rd (partH l p n) i = rd l (p + i : Nat) := by
  rw [rd_nat, rd_nat]
  unfold partH
  rw [List.getElem?_take_of_lt h, List.getElem?_drop]
theorem NoLessH.enough {l r : List Int} (h : NoLessH l r) {gap : Int} {x : HCell} (hx : InRows l.length x) (he : EnoughH gap x l) : EnoughH gap x r := by
  obtain ⟨h1, h2, h3, _⟩ := hx
  have hn : x.f0.f1.toNat + x.f0.f3.toNat ≤ l.length := by omega
  have hn' : x.f0.f1.toNat + x.f0.f3.toNat ≤ r.length := by rw [h.len]; exact hn
  have := sum_le_ofH (partH l x.f0.f1.toNat x.f0.f3.toNat) (partH r x.f0.f1.toNat x.f0.f3.toNat) (by rw [partH_length _ _ _ hn, partH_length _ _ _ hn']) (fun i hi => by
    rw [partH_length _ _ _ hn] at hi
    rw [partH_at l _ _ i hi, partH_at r _ _ i hi]
    exact h.ge _ (by omega))
  unfold EnoughH at *
  omega
theorem layAt_at (out : List Int) (p : Nat) (ys : List Int) (h : p + ys.length ≤ out.length) (i : Nat) : rd (layAt out p ys) i = if p ≤ i ∧ i < p + ys.length then rd ys (i - p : Nat) else rd out i := by
  have hp : (out.take p).length = p := by rw [List.length_take]; omega
  rw [rd_nat, rd_nat, rd_nat]
  unfold layAt
  by_cases c1 : i < p
  · rw [if_neg (by omega), List.append_assoc, List.getElem?_append_left (by omega), List.getElem?_take_of_lt c1]
  · by_cases c2 : i < p + ys.length
    · rw [if_pos ⟨by omega, c2⟩, List.getElem?_append_left (by rw [List.length_append, hp]; exact c2), List.getElem?_append_right (by omega), hp]
    · rw [if_neg (by omega), List.getElem?_append_right (by rw [List.length_append, hp]; omega), List.length_append, hp, List.getElem?_drop]
      congr 2
      omega
theorem layAt_mem (out : List Int) (p : Nat) (ys : List Int) (y : Int) (h : y ∈ layAt out p ys) : y ∈ out ∨ y ∈ ys := by
  unfold layAt at h
  rcases List.mem_append.1 h with h | h
  · rcases List.mem_append.1 h with h | h
    · exact .inl (List.mem_of_mem_take h)
    · exact .inr h
  · exact .inl (List.mem_of_mem_drop h)
theorem layAt_part (out : List Int) (p : Nat) (ys : List Int) (h : p + ys.length ≤ out.length) : partH (layAt out p ys) p ys.length = ys := by
  have hp : (out.take p).length = p := by rw [List.length_take]; omega
  unfold partH layAt
  rw [List.append_assoc, List.drop_append_of_le_length (by omega), List.drop_of_length_le (by omega), List.nil_append, List.take_left']
  rfl
theorem stepH_is (gap : Int) (out : List Int) (x : HCell) (hle : out.length ≤ 8000) (ho : ∀ y ∈ out, wide y) (hx : InRows out.length x) (hg : 0 ≤ gap) : ∃ o, stepH gap out x = some o ∧ NoLessH out o ∧ EnoughH gap x o := by
  obtain ⟨h1, h2, h3, h4, h5⟩ := hx
  have hn : x.f0.f1.toNat + x.f0.f3.toNat ≤ out.length := by omega
  unfold stepH
  by_cases c : x.f0.f3 = 1
  · have hlt : x.f0.f1.toNat < out.length := by omega
    have hm := le_mxH (out[x.f0.f1.toNat]?.getD 0) x.f1
    have hwm : wide (mx (out[x.f0.f1.toNat]?.getD 0) x.f1) := by
      have := ho _ (rd_mem out _ hlt)
      rw [rd_nat] at this
      unfold wide mx at *
      split <;> omega
    rw [if_pos c]
    refine ⟨_, rfl, ⟨List.length_set, fun y hy => ?_, fun i hi => ?_⟩, ?_⟩
    · rcases List.mem_or_eq_of_mem_set hy with hy | rfl
      · exact ho y hy
      · exact hwm
    · rw [rd_nat, rd_nat]
      by_cases ci : x.f0.f1.toNat = i
      · rw [ci] at hm ⊢
        rw [List.getElem?_set_self hi, Option.getD_some]
        exact hm.1
      · rw [List.getElem?_set_ne ci]
        exact Int.le_refl _
    · unfold EnoughH
      have e : partH (out.set x.f0.f1.toNat (mx (out[x.f0.f1.toNat]?.getD 0) x.f1)) x.f0.f1.toNat x.f0.f3.toNat = [mx (out[x.f0.f1.toNat]?.getD 0) x.f1] := by
        refine List.ext_getElem (by rw [partH_length _ _ _ (by rw [List.length_set]; omega), c]; rfl) (fun i i1 i2 => ?_)
        have hi : i = 0 := by simpa using i2
        subst hi
        have := partH_at (out.set x.f0.f1.toNat (mx (out[x.f0.f1.toNat]?.getD 0) x.f1)) x.f0.f1.toNat x.f0.f3.toNat 0 (by omega)
        rw [rd_nat, rd_nat, Nat.add_zero, List.getElem?_set_self hlt, Option.getD_some, List.getElem?_eq_getElem i1, Option.getD_some] at this
        rw [this]
        rfl
      rw [e, c]
      simp only [List.sum_cons, List.sum_nil]
      omega
  · rw [if_neg c]
    have hpl := partH_length out x.f0.f1.toNat x.f0.f3.toNat hn
    have hpw : ∀ y ∈ partH out x.f0.f1.toNat x.f0.f3.toNat, wide y := fun y hy => ho y (by
      unfold partH at hy
      exact List.mem_of_mem_drop (List.mem_of_mem_take hy))
    obtain ⟨o, hO, e⟩ := overT_okH (partN gap x.f0.f3 x.f1) _ _ (partN_wide gap x.f0.f3 x.f1 ⟨h4, h5⟩ hg h2).1 hpw hpw rfl (by omega) (by omega)
    have hG := hO.grownH
    have eo : overH gap out x = (added o (partH out x.f0.f1.toNat x.f0.f3.toNat), 0) := e
    rw [eo]
    generalize added o (partH out x.f0.f1.toNat x.f0.f3.toNat) = g at *
    have hgl := hG.len
    rw [hpl] at hgl
    refine ⟨layAt out x.f0.f1.toNat g, if_pos rfl, ⟨layAt_length _ _ _ (by omega), fun y hy => ?_, fun i hi => ?_⟩, ?_⟩
    · rcases layAt_mem _ _ _ _ hy with hy | hy
      · exact ho y hy
      · exact hG.wide y hy
    · rw [layAt_at _ _ _ (by omega)]
      split
      · rename_i ci
        have := hG.ge (i - x.f0.f1.toNat) (by omega)
        rw [partH_at _ _ _ _ (by omega), show x.f0.f1.toNat + (i - x.f0.f1.toNat) = i by omega] at this
        exact this
      · exact Int.le_refl _
    · have := layAt_part out x.f0.f1.toNat g (by omega)
      rw [hgl] at this
      unfold EnoughH
      rw [this]
      have h6 := hG.enough
      have h7 := (le_mxH (x.f1 - gap * (x.f0.f3 - 1)) 0).1
      unfold partN at h6
      omega
theorem leastT_is (gap : Int) (hg : 0 ≤ gap) : ∀ (xs : List HCell) (out : List Int), out.length ≤ 8000 → (∀ y ∈ out, wide y) → (∀ x ∈ xs, InRows out.length x) → ∃ o, leastT gap xs out = some o ∧ NoLessH out o ∧ ∀ x ∈ xs, EnoughH gap x o
  | [], out, _, ho, _ => ⟨out, rfl, NoLessH.refl ho, fun x hx => by cases hx⟩
  | x :: xs, out, hle, ho, hr => by
    have hx := hr x (by simp)
    obtain ⟨o1, e1, n1, g1⟩ := stepH_is gap out x hle ho hx hg
    obtain ⟨o, e2, n2, g2⟩ := leastT_is gap hg xs o1 (by rw [n1.len]; exact hle) n1.ok (fun y hy => by rw [n1.len]; exact hr y (by simp [hy]))
    refine ⟨o, ?_, n1.trans n2, fun y hy => ?_⟩
    · unfold leastT
      rw [e1]
      exact e2
    · rcases List.mem_cons.1 hy with rfl | hy
      · exact n2.enough (by rw [n1.len]; exact hx) g1
      · exact g2 y hy
theorem cellsS_mem (L : List HCell) (m : Nat) (hx : ∀ x ∈ L, 1 ≤ x.f0.f3 ∧ x.f0.f3 ≤ (m : Int)) (x : HCell) : x ∈ cellsS L m ↔ x ∈ L := by
  have hk : ∀ i, i < L.length → rowsAt L i < 1 + (m : Int) ∧ 1 ≤ rowsAt L i := by
    intro i hi
    unfold rowsAt
    rw [List.getElem?_eq_getElem hi]
    have := hx _ (List.getElem_mem hi)
    exact ⟨by show L[i].f0.f3 < _; omega, this.1⟩
  unfold cellsS
  rw [List.mem_map]
  constructor
  · rintro ⟨i, hi, rfl⟩
    have := ((StabCell.blocks_memCell (fun i hi => (hk i hi).1) i).1 hi).1
    rw [List.getElem?_eq_getElem this]
    exact List.getElem_mem this
  · intro h
    obtain ⟨i, hi, e⟩ := List.mem_iff_getElem.1 h
    refine ⟨i, (StabCell.blocks_memCell (fun i hi => (hk i hi).1) i).2 ⟨hi, (hk i hi).2⟩, ?_⟩
    rw [List.getElem?_eq_getElem hi]
    exact e
theorem wants_of {l0 : List Int} {l1 : List S35} {l2 : List Int} {a3 : Int} (h : rightH l0 l1 l2 a3 = true) : ∀ x ∈ l0, -1 ≤ x ∧ x ≤ 1073741824 := by
  unfold rightH at h
  simp only [Bool.and_eq_true, Bool.not_eq_true', decide_eq_true_eq] at h
  obtain ⟨⟨⟨⟨⟨_, h2⟩, _⟩, _⟩, _⟩, _⟩ := h
  intro x hx
  have := List.any_eq_false.1 h2 x hx
  have e : offBounds (-1) 1073741824 x = false := by simpa using this
  unfold offBounds at e
  simp only [Bool.or_eq_false_iff, decide_eq_false_iff_not] at e
  omega
theorem start_wide {l0 : List Int} (h : ∀ x ∈ l0, -1 ≤ x ∧ x ≤ 1073741824) : ∀ y ∈ l0.map (fun n => mx n 0), wide y := by
  intro y hy
  obtain ⟨x, hx, rfl⟩ := List.mem_map.1 hy
  have := h x hx
  unfold wide mx
  split <;> omega
theorem least_wrong {l0 : List Int} {l1 : List S35} {l2 : List Int} {a3 : Int} (hm : l0.length ≤ 8000) (h : ¬ leastOk l0 l1 l2 a3 = true) : heights_Least.f l0 l1 l2 a3 = some ([], 160) := by
  unfold heights_Least.f
  rw [if_pos hm, if_neg h]
/-- What is right is answered. -/
theorem least_answer {l0 : List Int} {l1 : List S35} {l2 : List Int} {a3 : Int} (hm : l0.length ≤ 8000) (h : leastOk l0 l1 l2 a3 = true) :
    ∃ o, heights_Least.f l0 l1 l2 a3 = some (o, 0) ∧ leastR l0 l1 l2 a3 = some o ∧ NoLessH (l0.map (fun n => mx n 0)) o ∧ ∀ x ∈ cellsL l1 l2, EnoughH a3 x o := by
  have hr : rightH l0 l1 l2 a3 = true := by
    unfold leastOk at h
    rw [Bool.and_eq_true] at h
    exact h.1
  obtain ⟨h1, h2, h3, h4⟩ := right_cells hr
  have hL : ∀ x ∈ cellsL l1 l2, 1 ≤ x.f0.f3 ∧ x.f0.f3 ≤ (l0.length : Int) := fun x hx => by
    obtain ⟨q1, q2, q3, _⟩ := h4 x hx
    omega
  obtain ⟨o, e, hn, he⟩ := leastT_is a3 h2 (cellsS (cellsL l1 l2) l0.length) (l0.map (fun n => mx n 0)) (by rw [List.length_map]; exact hm) (start_wide (wants_of hr)) (fun x hx => by
    rw [List.length_map]
    exact h4 x ((cellsS_mem _ _ hL x).1 hx))
  have e' : leastR l0 l1 l2 a3 = some o := e
  refine ⟨o, ?_, e', hn, fun x hx => he x ((cellsS_mem _ _ hL x).2 hx)⟩
  unfold heights_Least.f
  rw [if_pos hm, if_pos h, e']
  rfl
end Go.Proofs.Ytgghbmhmpkeccaa.Base
