/- What spreading all needs leaves: bands that are right, no less than they were, and enough for each need. Condition: the bands and the needs are right. -/
import Derived.Test.YtpoboffdlnnbmaaSpread
namespace Go.Proofs.Ytpoboffdlnnbmaa.Base
open Go.RowKit Go.Proofs.Ytpoboffdlnnbmaa.PA Go.Proofs.YtpoboffdlnnbmaaW.PrintWords Go.Proofs.YtpoboffdlnnbmaaW.PrintLast Go.Proofs.YtpoboffdlnnbmaaW.PrintMore
abbrev SN := S53
/-- A need that is right, where there are n bands. -/
structure RightN (n : Nat) (x : SN) : Prop where
  col0 : 0 ≤ x.f0.f2
  col1 : x.f0.f2 < (n : Int)
  cols0 : 1 ≤ x.f0.f4
  cols1 : x.f0.f4 ≤ (n : Int) - x.f0.f2
  least : wide x.f1
  most : wide x.f2
  le : x.f1 ≤ x.f2
/-- No band is less, and what does not grow is the same. -/
structure NoLess (l r : List SB) : Prop where
  len : r.length = l.length
  ok : ∀ b ∈ r, Okb b
  at_ : ∀ q, q < l.length → (bAt l q).f0 ≤ (bAt r q).f0 ∧ (bAt l q).f1 ≤ (bAt r q).f1 ∧ (bAt r q).f2 = (bAt l q).f2 ∧ (bAt r q).f3 = (bAt l q).f3
theorem NoLess.refl {l : List SB} (h : ∀ b ∈ l, Okb b) : NoLess l l := ⟨rfl, h, fun _ _ => ⟨Int.le_refl _, Int.le_refl _, rfl, rfl⟩⟩
theorem NoLess.trans {a b c : List SB} (h : NoLess a b) (k : NoLess b c) : NoLess a c := by
  refine ⟨k.len.trans h.len, k.ok, fun q hq => ?_⟩
  obtain ⟨h1, h2, h3, h4⟩ := h.at_ q hq
  obtain ⟨k1, k2, k3, k4⟩ := k.at_ q (by rw [h.len]; exact hq)
  exact ⟨Int.le_trans h1 k1, Int.le_trans h2 k2, k3.trans h3, k4.trans h4⟩
theorem bAt_step (all : List SB) (from_ : Nat) (g h : List Int) (q : Nat) (hq : q < all.length) : bAt (stepL all from_ g h) q = if from_ ≤ q ∧ q < from_ + g.length then ⟨rd g ((q - from_ : Nat) : Int), rd h ((q - from_ : Nat) : Int), (bAt all q).f2, (bAt all q).f3⟩ else bAt all q := by
  conv => lhs; unfold bAt
  rw [stepL_get all from_ g h q hq]
  rfl
theorem le_mx_left (a b : Int) : a ≤ mx a b := by
  unfold mx
  split <;> omega
theorem le_mx_right (a b : Int) : b ≤ mx a b := by
  unfold mx
  split <;> omega
theorem okb_all {l : List SB} (h : ∀ q, q < l.length → Okb (bAt l q)) : ∀ b ∈ l, Okb b := by
  intro b hb
  obtain ⟨i, hi, e⟩ := List.mem_iff_getElem.1 hb
  have := h i hi
  unfold bAt at this
  rw [List.getElem?_eq_getElem hi, Option.getD_some, e] at this
  exact this
theorem StepIs.noLess {all : List SB} {from_ n : Nat} {pm px : Int} {o1 o2 g h : List Int} (s : StepIs all from_ n pm px o1 o2 g h) (hn : from_ + n ≤ all.length) (hall : ∀ b ∈ all, Okb b) : NoLess all (stepL all from_ g h) := by
  have l1 := minsOf_length all from_ n hn
  have lg : g.length = n := by rw [s.gg.len, l1]
  have l3 := most2_length all from_ n g hn
  have lh : h.length = n := by rw [s.gh.len, l3]
  have key : ∀ q, q < all.length → (from_ ≤ q ∧ q < from_ + n) → (bAt all q).f0 ≤ rd g ((q - from_ : Nat) : Int) ∧ (bAt all q).f1 ≤ rd h ((q - from_ : Nat) : Int) ∧ rd g ((q - from_ : Nat) : Int) ≤ rd h ((q - from_ : Nat) : Int) ∧ wide (rd g ((q - from_ : Nat) : Int)) ∧ wide (rd h ((q - from_ : Nat) : Int)) := by
    intro q hq c
    have hi : q - from_ < n := by omega
    have h1 := s.gg.ge (q - from_) (by omega)
    have h2 := s.gh.ge (q - from_) (by omega)
    rw [minsOf_at all from_ n _ hn hi, show from_ + (q - from_) = q by omega] at h1
    rw [most2_at all from_ n _ g hn hi, show from_ + (q - from_) = q by omega] at h2
    have h3 := le_mx_left (bAt all q).f1 (rd g ((q - from_ : Nat) : Int))
    have h4 := le_mx_right (bAt all q).f1 (rd g ((q - from_ : Nat) : Int))
    exact ⟨h1, Int.le_trans h3 h2, Int.le_trans h4 h2, s.gg.wide _ (rd_mem g _ (by omega)), s.gh.wide _ (rd_mem h _ (by omega))⟩
  refine ⟨stepL_length _ _ _ _, okb_all (fun q hq => ?_), fun q hq => ?_⟩
  · rw [stepL_length] at hq
    rw [bAt_step all from_ g h q hq, lg]
    have hb := okb_at hall q hq
    by_cases c : from_ ≤ q ∧ q < from_ + n
    · rw [if_pos c]
      obtain ⟨_, _, k3, k4, k5⟩ := key q hq c
      exact ⟨k4.1, k3, k5.2, hb.sh0, hb.sh1, hb.wa0, hb.wa1, hb.one⟩
    · rw [if_neg c]
      exact hb
  · rw [bAt_step all from_ g h q hq, lg]
    by_cases c : from_ ≤ q ∧ q < from_ + n
    · rw [if_pos c]
      obtain ⟨k1, k2, _⟩ := key q hq c
      exact ⟨k1, k2, rfl, rfl⟩
    · rw [if_neg c]
      exact ⟨Int.le_refl _, Int.le_refl _, rfl, rfl⟩
/-- All columns of a need are enough. -/
structure Enough (gap : Int) (x : SN) (r : List SB) : Prop where
  least : partN gap x.f0.f4 x.f1 ≤ (minsOf r x.f0.f2.toNat x.f0.f4.toNat).sum
  most : partN gap x.f0.f4 x.f2 ≤ (mostOf r x.f0.f2.toNat x.f0.f4.toNat).sum
theorem sum_le_of (l m : List Int) (hl : l.length = m.length) (h : ∀ i : Nat, i < l.length → rd l (i : Int) ≤ rd m (i : Int)) : l.sum ≤ m.sum := by
  induction l generalizing m with
  | nil =>
    cases m with
    | nil => exact Int.le_refl _
    | cons b m => simp at hl
  | cons a l ih =>
    cases m with
    | nil => simp at hl
    | cons b m =>
      have h0 := h 0 (by simp)
      simp only [rd_nat] at h0
      have := ih m (by simpa using hl) (fun i hi => by
        have := h (i + 1) (by simpa using hi)
        simpa only [rd_nat, List.getElem?_cons_succ] using this)
      simp at h0
      rw [List.sum_cons, List.sum_cons]
      omega
theorem NoLess.enough {l r : List SB} (h : NoLess l r) {gap : Int} {x : SN} (hx : RightN l.length x) (he : Enough gap x l) : Enough gap x r := by
  obtain ⟨c1, c2, c3, c4, _, _, _⟩ := hx
  have hn : x.f0.f2.toNat + x.f0.f4.toNat ≤ l.length := by omega
  have hn' : x.f0.f2.toNat + x.f0.f4.toNat ≤ r.length := by rw [h.len]; exact hn
  refine ⟨Int.le_trans he.least (sum_le_of _ _ ?_ (fun i hi => ?_)), Int.le_trans he.most (sum_le_of _ _ ?_ (fun i hi => ?_))⟩
  · rw [minsOf_length _ _ _ hn, minsOf_length _ _ _ hn']
  · rw [minsOf_length _ _ _ hn] at hi
    rw [minsOf_at _ _ _ i hn hi, minsOf_at _ _ _ i hn' hi]
    exact (h.at_ _ (by omega)).1
  · rw [mostOf_length _ _ _ hn, mostOf_length _ _ _ hn']
  · rw [mostOf_length _ _ _ hn] at hi
    rw [mostOf_at _ _ _ i hn hi, mostOf_at _ _ _ i hn' hi]
    exact (h.at_ _ (by omega)).2.1
/-- A step that is enough stays as it is. -/
theorem StepIs.same {all : List SB} {from_ n : Nat} {pm px : Int} {o1 o2 g h : List Int} (s : StepIs all from_ n pm px o1 o2 g h) (hn : from_ + n ≤ all.length) (hall : ∀ b ∈ all, Okb b) (h1 : pm ≤ (minsOf all from_ n).sum) (h2 : px ≤ (mostOf all from_ n).sum) : stepL all from_ g h = all := by
  have eg := s.gg.same h1
  have l1 := minsOf_length all from_ n hn
  have l2 := mostOf_length all from_ n hn
  have em : most2 all from_ n g = mostOf all from_ n := by
    refine list_eq (by rw [most2_length all from_ n g hn, l2]) (fun i hi => ?_)
    rw [most2_length all from_ n g hn] at hi
    rw [most2_at all from_ n i g hn hi, eg, minsOf_at all from_ n i hn hi, mostOf_at all from_ n i hn hi]
    have := (okb_at hall (from_ + i) (by omega)).minmax
    unfold mx
    rw [if_neg (by omega)]
  have eh : h = mostOf all from_ n := by
    have := s.gh.same (by rw [em]; exact h2)
    rw [this, em]
  refine bAt_ext (stepL_length _ _ _ _) (fun q hq => ?_)
  rw [stepL_length] at hq
  have lg : g.length = n := by rw [s.gg.len, l1]
  rw [bAt_step all from_ g h q hq, lg]
  by_cases c : from_ ≤ q ∧ q < from_ + n
  · rw [if_pos c, eg, eh, minsOf_at all from_ n _ hn (by omega), mostOf_at all from_ n _ hn (by omega), show from_ + (q - from_) = q by omega]
  · rw [if_neg c]
/-- One need, in the terms of all. -/
theorem need_step (all : List SB) (x : SN) (gap : Int) (hle : all.length ≤ 8000) (hall : ∀ b ∈ all, Okb b) (hx : RightN all.length x) (hg : 0 ≤ gap) :
    ∃ o1 o2 g h, StepIs all x.f0.f2.toNat x.f0.f4.toNat (partN gap x.f0.f4 x.f1) (partN gap x.f0.f4 x.f2) o1 o2 g h ∧ spreadsT all x.f0.f2.toNat x.f0.f4.toNat x.f0.f4 x.f1 x.f2 gap = (true, stepL all x.f0.f2.toNat g h) := by
  obtain ⟨c1, c2, c3, c4, c5, c6, _⟩ := hx
  exact step_is all x.f0.f2.toNat x.f0.f4.toNat x.f0.f4 x.f1 x.f2 gap (by omega) (by omega) hle hall c5 c6 hg c3
theorem step_enough {all : List SB} {x : SN} {gap : Int} {o1 o2 g h : List Int} (hx : RightN all.length x) (s : StepIs all x.f0.f2.toNat x.f0.f4.toNat (partN gap x.f0.f4 x.f1) (partN gap x.f0.f4 x.f2) o1 o2 g h) : Enough gap x (stepL all x.f0.f2.toNat g h) := by
  obtain ⟨c1, c2, c3, c4, _, _, _⟩ := hx
  have hn : x.f0.f2.toNat + x.f0.f4.toNat ≤ all.length := by omega
  have hn' : x.f0.f2.toNat + x.f0.f4.toNat ≤ (stepL all x.f0.f2.toNat g h).length := by rw [stepL_length]; exact hn
  have l1 := minsOf_length all _ _ hn
  have lg : g.length = x.f0.f4.toNat := by rw [s.gg.len, l1]
  have lh : h.length = x.f0.f4.toNat := by rw [s.gh.len, most2_length all _ _ g hn]
  have e1 : minsOf (stepL all x.f0.f2.toNat g h) x.f0.f2.toNat x.f0.f4.toNat = g := by
    refine list_eq (by rw [minsOf_length _ _ _ hn', lg]) (fun i hi => ?_)
    rw [minsOf_length _ _ _ hn'] at hi
    rw [minsOf_at _ _ _ i hn' hi, bAt_step all _ g h _ (by omega), if_pos ⟨by omega, by omega⟩, show x.f0.f2.toNat + i - x.f0.f2.toNat = i by omega]
  have e2 : mostOf (stepL all x.f0.f2.toNat g h) x.f0.f2.toNat x.f0.f4.toNat = h := by
    refine list_eq (by rw [mostOf_length _ _ _ hn', lh]) (fun i hi => ?_)
    rw [mostOf_length _ _ _ hn'] at hi
    rw [mostOf_at _ _ _ i hn' hi, bAt_step all _ g h _ (by omega), if_pos ⟨by omega, by omega⟩, show x.f0.f2.toNat + i - x.f0.f2.toNat = i by omega]
  exact ⟨by rw [e1]; exact s.gg.enough, by rw [e2]; exact s.gh.enough⟩
/-- All needs, one behind the other. -/
theorem needs_all (gap : Int) (hg : 0 ≤ gap) : ∀ (xs : List SN) (l : List SB), l.length ≤ 8000 → (∀ b ∈ l, Okb b) → (∀ x ∈ xs, RightN l.length x) → ∃ r, needsT gap xs l = some r ∧ NoLess l r ∧ ∀ x ∈ xs, Enough gap x r
  | [], l, _, hall, _ => ⟨l, rfl, NoLess.refl hall, fun x hx => by simp at hx⟩
  | x :: xs, l, hle, hall, hr => by
    have hx := hr x (by simp)
    obtain ⟨o1, o2, g, h, hs, e⟩ := need_step l x gap hle hall hx hg
    have hn : x.f0.f2.toNat + x.f0.f4.toNat ≤ l.length := by
      obtain ⟨c1, c2, c3, c4, _, _, _⟩ := hx
      omega
    have h1 := hs.noLess hn hall
    obtain ⟨r, h2, h3, h4⟩ := needs_all gap hg xs (stepL l x.f0.f2.toNat g h) (by rw [stepL_length]; exact hle) h1.ok (fun y hy => by rw [stepL_length]; exact hr y (by simp [hy]))
    refine ⟨r, ?_, h1.trans h3, fun y hy => ?_⟩
    · unfold needsT
      rw [e]
      exact (if_pos rfl).trans h2
    · rcases List.mem_cons.1 hy with rfl | hy
      · exact h3.enough (by rw [stepL_length]; exact hx) (step_enough hx hs)
      · exact h4 y hy
/-- .. where they are enough already. -/
theorem needs_same (gap : Int) (hg : 0 ≤ gap) : ∀ (xs : List SN) (l : List SB), l.length ≤ 8000 → (∀ b ∈ l, Okb b) → (∀ x ∈ xs, RightN l.length x) → (∀ x ∈ xs, Enough gap x l) → needsT gap xs l = some l
  | [], _, _, _, _, _ => rfl
  | x :: xs, l, hle, hall, hr, he => by
    have hx := hr x (by simp)
    obtain ⟨o1, o2, g, h, hs, e⟩ := need_step l x gap hle hall hx hg
    have hn : x.f0.f2.toNat + x.f0.f4.toNat ≤ l.length := by
      obtain ⟨c1, c2, c3, c4, _, _, _⟩ := hx
      omega
    have h1 := hs.same hn hall (he x (by simp)).least (he x (by simp)).most
    rw [h1] at e
    unfold needsT
    rw [e]
    exact (if_pos rfl).trans (needs_same gap hg xs l hle hall (fun y hy => hr y (by simp [hy])) (fun y hy => he y (by simp [hy])))
/-- What is right. -/
structure NeedsRight (l : List SB) (needs : List SN) (gap : Int) : Prop where
  few : l.length ≤ 100
  few1 : needs.length ≤ 1000
  gap0 : 0 ≤ gap
  gap1 : gap ≤ 1073741824
  ok : ∀ b ∈ l, Okb b
  right : ∀ x ∈ needs, RightN l.length x
theorem needs_right_of {l : List SB} {needs : List SN} {gap : Int} (h : needsOk l needs gap) : NeedsRight l needs gap := by
  obtain ⟨h1, h2, h3⟩ := h
  unfold fewN at h1
  simp only [Bool.and_eq_true, decide_eq_true_eq] at h1
  obtain ⟨⟨⟨q1, q2⟩, q3⟩, q4⟩ := h1
  rw [right_prog l (by omega)] at h2
  refine ⟨q1, q2, q3, q4, bandsOk_mem (by simpa using h2), fun x hx => ?_⟩
  obtain ⟨n1, n2, n3, n4, n5, n6, n7⟩ := need_right h3 x hx
  exact ⟨n1, n2, n3, n4, n5, n6, n7⟩
theorem spansOut_mem (l : List SN) (m : Nat) (x : SN) (h : x ∈ spansOut l m) : x ∈ l := by
  unfold spansOut at h
  obtain ⟨i, hi, rfl⟩ := List.mem_map.1 h
  unfold StabNeed.blocks at hi
  obtain ⟨c, _, hi⟩ := List.mem_flatMap.1 hi
  have hlt := List.mem_range.1 (List.mem_filter.1 hi).1
  rw [List.getElem?_eq_getElem hlt]
  exact List.getElem_mem hlt
theorem spansOut_has (l : List SN) (m : Nat) (x : SN) (h : x ∈ l) (h2 : 2 ≤ x.f0.f4) (hm : x.f0.f4 < 2 + (m : Int)) : x ∈ spansOut l m := by
  obtain ⟨i, hi, e⟩ := List.mem_iff_getElem.1 h
  unfold spansOut
  have hk : l[i]?.getD z53 = x := by rw [List.getElem?_eq_getElem hi, Option.getD_some, e]
  refine List.mem_map.2 ⟨i, ?_, hk⟩
  have hc : colsAt l i = x.f0.f4 := by unfold colsAt; rw [hk]
  unfold StabNeed.blocks
  refine List.mem_flatMap.2 ⟨(x.f0.f4 - 2).toNat, List.mem_range.2 (by omega), List.mem_filter.2 ⟨List.mem_range.2 hi, ?_⟩⟩
  rw [hc, beq_iff_eq]
  omega
/-- What spread.Needs answers. -/
theorem needs_answer (l : List SB) (needs : List SN) (gap : Int) : (¬ needsOk l needs gap ∧ spread_Needs.f l needs gap = some ([], 130)) ∨
    (NeedsRight l needs gap ∧ ∃ r, needsT gap (spansOut needs (l.length - 1)) l = some r ∧ spread_Needs.f l needs gap = some (r, 0) ∧ NoLess l r ∧ ∀ x ∈ needs, 2 ≤ x.f0.f4 → Enough gap x r) := by
  by_cases h : needsOk l needs gap
  · have hr := needs_right_of h
    obtain ⟨r, h1, h2, h3⟩ := needs_all gap hr.gap0 (spansOut needs (l.length - 1)) l (by have := hr.few; omega) hr.ok (fun x hx => hr.right x (spansOut_mem needs _ x hx))
    refine .inr ⟨hr, r, h1, ?_, h2, fun x hx h2x => h3 x (spansOut_has needs _ x hx h2x ?_)⟩
    · unfold spread_Needs.f
      rw [if_pos h, h1]
      rfl
    · obtain ⟨c1, c2, c3, c4, _, _, _⟩ := hr.right x hx
      omega
  · refine .inl ⟨h, ?_⟩
    unfold spread_Needs.f
    rw [if_neg h]
end Go.Proofs.Ytpoboffdlnnbmaa.Base
