/- What spreading one need over right bands leaves: Mins and Maxs that are no less, and enough. Condition: the bands are right, and the need lies within them. -/
import Derived.Test.YtpoboffdlnnbmaaPAx24
import Derived.Test.YtpoboffdlnnbmaaPAx23
import Derived.Test.YtpoboffdlnnbmaaPAx22
import Derived.Test.YtpoboffdlnnbmaaRight
import Derived.Test.YtpoboffdlnnbmaaOverT
namespace Go.Proofs.Ytpoboffdlnnbmaa.Base
open Go.RowKit Go.Proofs.Ytpoboffdlnnbmaa.PA Go.Proofs.YtpoboffdlnnbmaaW.PrintWords Go.Proofs.YtpoboffdlnnbmaaW.PrintLast Go.Proofs.YtpoboffdlnnbmaaW.PrintMore
abbrev SB := S42
theorem share_ok (total : Int) (w : List Int) (h : mayShare total w.length) (hg : goodW w) : ∃ o, fixed_Share.f total w = some (o, 0) ∧ Fair total w o := by
  rcases share_fair total w with h' | h'
  · exfalso
    unfold fixed_Share.f at h'
    have hb : ¬ w.any badW = true := by
      intro hb
      obtain ⟨x, hx, hxb⟩ := List.any_eq_true.1 hb
      have := hg x hx
      simp [badW] at hxb
      omega
    rw [if_pos h, if_neg hb] at h'
    by_cases c : w.sum = 0
    · rw [if_pos c] at h'
      simp at h'
    · rw [if_neg c] at h'
      simp at h'
  · exact h'
theorem overT_ok (n : Int) (l w : List Int) (hn : wide n) (h2 : ∀ x ∈ l, wide x) (h3 : ∀ x ∈ w, wide x) (h4 : l.length = w.length) (hp : 0 < l.length) (hl : l.length ≤ 8000) : ∃ o, OverIs n l w o ∧ overT n l w = (added o l, 0) := by
  have hs0 := sum_nonneg l (fun x hx => (h2 x hx).1)
  have hn' := hn
  unfold wide at hn'
  have hmay : mayShare (spareOf n l) w.length := by
    unfold mayShare spareOf mx
    split <;> omega
  obtain ⟨o, ho, hf⟩ := share_ok (spareOf n l) w hmay (fun x hx => h3 x hx)
  refine ⟨o, ⟨hn, h2, h3, h4, ho, hf⟩, ?_⟩
  unfold overT sharedT
  rw [if_pos ((overOk_iff n l w).2 ⟨hn, h2, h3, h4⟩), ho]
  rfl
theorem sum_added (o l : List Int) (h : o.length = l.length) : (added o l).sum = o.sum + l.sum := by
  have e1 : added o l = (List.range o.length).map (fun i => o[i]?.getD 0 + l[i]?.getD 0) := by
    apply List.ext_getElem
    · simp [added]
    · intro i h1 h2
      have hi : i < o.length := by simpa [added] using h1
      simp [added, rd, hi]
  rw [e1, sum_add (fun i => o[i]?.getD 0), list_as_range, h, list_as_range]
/-- What is grown: as much as was wanted at least, each no less, all wide. -/
structure Grown (n : Int) (l g : List Int) : Prop where
  len : g.length = l.length
  ge : ∀ i : Nat, i < l.length → rd l i ≤ rd g i
  wide : ∀ x ∈ g, wide x
  enough : n ≤ g.sum
  same : n ≤ l.sum → g = l
  sum : g.sum = mx l.sum n
theorem OverIs.grown {n : Int} {l w o : List Int} (h : OverIs n l w o) : Grown n l (added o l) := by
  have hol : o.length = l.length := by rw [h.fair.len, h.len]
  have hsum := sum_added o l hol
  rw [h.fair.sum] at hsum
  have hs0 := sum_nonneg l (fun x hx => (h.lW x hx).1)
  have hge : ∀ i : Nat, i < l.length → rd l i ≤ rd (added o l) i := fun i hi => by
    rw [added_at o l i (by omega)]
    have := h.fair.pos _ (rd_mem o i (by omega))
    omega
  have hn := h.nW
  unfold Base.wide at hn
  refine ⟨by rw [added_length, hol], hge, fun x hx => ?_, ?_, fun hle => ?_, ?_⟩
  · obtain ⟨i, hi, e⟩ := List.mem_iff_getElem.1 hx
    have hio : i < o.length := by rw [added_length] at hi; exact hi
    have h1 := added_at o l i hio
    have h5 := h.fair.pos _ (rd_mem o i hio)
    have h6 := h.lW _ (rd_mem l i (by omega))
    have hx0 : rd (added o l) i = x := by rw [rd_nat, List.getElem?_eq_getElem hi, Option.getD_some, e]
    have hall : ∀ y ∈ added o l, 0 ≤ y := fun y hy => by
      obtain ⟨j, hj, ej⟩ := List.mem_iff_getElem.1 hy
      have hjo : j < o.length := by rw [added_length] at hj; exact hj
      have h1 := added_at o l j hjo
      have h5 := h.fair.pos _ (rd_mem o j hjo)
      have h6 := h.lW _ (rd_mem l j (by omega))
      unfold Base.wide at h6
      rw [rd_nat, List.getElem?_eq_getElem hj, Option.getD_some, ej] at h1
      omega
    have hle := le_sum _ hall x hx
    unfold Base.wide at h6 ⊢
    unfold spareOf mx at h5 hsum
    split at hsum <;> split at h5 <;> omega
  · rw [hsum]
    unfold spareOf mx
    split <;> omega
  · have hz : spareOf n l = 0 := by
      unfold spareOf mx
      split <;> omega
    apply List.ext_getElem
    · rw [added_length, hol]
    · intro i h1 h2
      have hio : i < o.length := by omega
      have h3 := added_at o l i hio
      have h5 := h.fair.pos _ (rd_mem o i hio)
      have e1 : rd (added o l) (i : Int) = (added o l)[i] := by rw [rd_nat, List.getElem?_eq_getElem h1]; rfl
      have e2 : rd l (i : Int) = l[i] := by rw [rd_nat, List.getElem?_eq_getElem h2]; rfl
      rw [hz] at h5
      omega
  · rw [hsum]
    unfold spareOf mx
    split <;> split <;> omega
def bAt (all : List SB) (q : Nat) : SB := all[q]?.getD z42
/-- Bands with other Mins and Maxs, from a place on. -/
def stepL (all : List SB) (from_ : Nat) (g h : List Int) : List SB := all.mapIdx (fun q b => if from_ ≤ q ∧ q < from_ + g.length then ⟨rd g ((q - from_ : Nat) : Int), rd h ((q - from_ : Nat) : Int), b.f2, b.f3⟩ else b)
theorem stepL_length (all : List SB) (from_ : Nat) (g h : List Int) : (stepL all from_ g h).length = all.length := by simp [stepL]
theorem stepL_get (all : List SB) (from_ : Nat) (g h : List Int) (q : Nat) (hq : q < all.length) : (stepL all from_ g h)[q]? = some (if from_ ≤ q ∧ q < from_ + g.length then ⟨rd g ((q - from_ : Nat) : Int), rd h ((q - from_ : Nat) : Int), (bAt all q).f2, (bAt all q).f3⟩ else bAt all q) := by
  unfold stepL bAt
  rw [List.getElem?_mapIdx, List.getElem?_eq_getElem hq]
  rfl
theorem bAt_eq (all : List SB) (q : Nat) (hq : q < all.length) : all[q]? = some (bAt all q) := by
  unfold bAt
  rw [List.getElem?_eq_getElem hq]
  rfl
theorem minsOf_length (all : List SB) (from_ n : Nat) (h : from_ + n ≤ all.length) : (minsOf all from_ n).length = n := by
  unfold minsOf
  rw [List.length_map, partL_length all from_ n h]
theorem mostOf_length (all : List SB) (from_ n : Nat) (h : from_ + n ≤ all.length) : (mostOf all from_ n).length = n := by
  unfold mostOf
  rw [List.length_map, partL_length all from_ n h]
theorem minsOf_at (all : List SB) (from_ n i : Nat) (h : from_ + n ≤ all.length) (hi : i < n) : rd (minsOf all from_ n) (i : Int) = (bAt all (from_ + i)).f0 := by
  rw [rd_nat]
  unfold minsOf
  rw [List.getElem?_map, partL_get _ _ _ _ hi, bAt_eq all _ (by omega)]
  rfl
theorem mostOf_at (all : List SB) (from_ n i : Nat) (h : from_ + n ≤ all.length) (hi : i < n) : rd (mostOf all from_ n) (i : Int) = (bAt all (from_ + i)).f1 := by
  rw [rd_nat]
  unfold mostOf
  rw [List.getElem?_map, partL_get _ _ _ _ hi, bAt_eq all _ (by omega)]
  rfl
theorem list_eq {l m : List Int} (hl : l.length = m.length) (h : ∀ i : Nat, i < l.length → rd l (i : Int) = rd m (i : Int)) : l = m := by
  apply List.ext_getElem hl
  intro i h1 h2
  have := h i h1
  rw [rd_nat, rd_nat, List.getElem?_eq_getElem h1, List.getElem?_eq_getElem h2] at this
  exact this
theorem updL_bAt (st : SB → Int → SB) (ns : List Int) (p : Nat) (all : List SB) (q : Nat) (hq : q < all.length) : bAt (updL st ns p all) q = if p ≤ q ∧ q < p + ns.length then st (bAt all q) (rd ns ((q - p : Nat) : Int)) else bAt all q := by
  by_cases c : p ≤ q ∧ q < p + ns.length
  · rw [if_pos c]
    have hi : q - p < ns.length := by omega
    have h1 := updL_at st ns p all (q - p) hi (by omega)
    rw [show p + (q - p) = q by omega] at h1
    unfold bAt
    rw [h1, rd_nat, List.getElem?_eq_getElem hi]
    rfl
  · rw [if_neg c]
    unfold bAt
    rw [updL_get st ns p all q (by omega)]
theorem bAt_ext {l m : List SB} (hl : l.length = m.length) (h : ∀ q, q < l.length → bAt l q = bAt m q) : l = m := by
  apply List.ext_getElem hl
  intro i h1 h2
  have := h i h1
  unfold bAt at this
  rw [List.getElem?_eq_getElem h1, List.getElem?_eq_getElem h2] at this
  exact this
/-- The Maxs behind the first growth. -/
def most2 (all : List SB) (from_ n : Nat) (g : List Int) : List Int := (mostOf all from_ n).mapIdx (fun i x => mx x (rd g (i : Int)))
theorem most2_length (all : List SB) (from_ n : Nat) (g : List Int) (h : from_ + n ≤ all.length) : (most2 all from_ n g).length = n := by
  unfold most2
  rw [List.length_mapIdx, mostOf_length all from_ n h]
theorem most2_at (all : List SB) (from_ n i : Nat) (g : List Int) (h : from_ + n ≤ all.length) (hi : i < n) : rd (most2 all from_ n g) (i : Int) = mx (bAt all (from_ + i)).f1 (rd g (i : Int)) := by
  have h1 := mostOf_at all from_ n i h hi
  rw [rd_nat] at h1 ⊢
  unfold most2
  rw [List.getElem?_mapIdx]
  have hl := mostOf_length all from_ n h
  rw [List.getElem?_eq_getElem (by omega)] at h1 ⊢
  simp only [Option.map_some, Option.getD_some] at h1 ⊢
  rw [h1]
/-- One need: what its spreading leaves. -/
structure StepIs (all : List SB) (from_ n : Nat) (pm px : Int) (o1 o2 g h : List Int) : Prop where
  eg : g = added o1 (minsOf all from_ n)
  eh : h = added o2 (most2 all from_ n g)
  o1 : OverIs pm (minsOf all from_ n) (mostOf all from_ n) o1
  o2 : OverIs px (most2 all from_ n g) (most2 all from_ n g) o2
  gg : Grown pm (minsOf all from_ n) g
  gh : Grown px (most2 all from_ n g) h
theorem okb_at {all : List SB} (hall : ∀ b ∈ all, Okb b) (q : Nat) (hq : q < all.length) : Okb (bAt all q) := by
  unfold bAt
  rw [List.getElem?_eq_getElem hq]
  exact hall _ (List.getElem_mem hq)
theorem mins_wide {all : List SB} (hall : ∀ b ∈ all, Okb b) (from_ n : Nat) (h : from_ + n ≤ all.length) : ∀ x ∈ minsOf all from_ n, wide x := by
  intro x hx
  obtain ⟨i, hi, e⟩ := List.mem_iff_getElem.1 hx
  rw [minsOf_length all from_ n h] at hi
  have h1 := minsOf_at all from_ n i h hi
  rw [rd_nat, List.getElem?_eq_getElem (by rw [minsOf_length all from_ n h]; exact hi), Option.getD_some, e] at h1
  have := okb_at hall (from_ + i) (by omega)
  rw [h1]
  exact ⟨this.min0, Int.le_trans this.minmax this.max⟩
theorem most_wide {all : List SB} (hall : ∀ b ∈ all, Okb b) (from_ n : Nat) (h : from_ + n ≤ all.length) : ∀ x ∈ mostOf all from_ n, wide x := by
  intro x hx
  obtain ⟨i, hi, e⟩ := List.mem_iff_getElem.1 hx
  rw [mostOf_length all from_ n h] at hi
  have h1 := mostOf_at all from_ n i h hi
  rw [rd_nat, List.getElem?_eq_getElem (by rw [mostOf_length all from_ n h]; exact hi), Option.getD_some, e] at h1
  have := okb_at hall (from_ + i) (by omega)
  rw [h1]
  exact ⟨Int.le_trans this.min0 this.minmax, this.max⟩
theorem all_wide_of {l : List Int} (h : ∀ i : Nat, i < l.length → wide (rd l (i : Int))) : ∀ x ∈ l, wide x := by
  intro x hx
  obtain ⟨i, hi, e⟩ := List.mem_iff_getElem.1 hx
  have := h i hi
  rw [rd_nat, List.getElem?_eq_getElem hi, Option.getD_some, e] at this
  exact this
theorem mx_wide {a b : Int} (ha : wide a) (hb : wide b) : wide (mx a b) := by
  unfold mx
  split <;> assumption
theorem step_is (all : List SB) (from_ n : Nat) (cols least most gap : Int) (hn : from_ + n ≤ all.length) (hp : 0 < n) (hle : all.length ≤ 8000) (hall : ∀ b ∈ all, Okb b) (hl : wide least) (hm : wide most) (hg : 0 ≤ gap) (hc : 1 ≤ cols) :
    ∃ o1 o2 g h, StepIs all from_ n (partN gap cols least) (partN gap cols most) o1 o2 g h ∧ spreadsT all from_ n cols least most gap = (true, stepL all from_ g h) := by
  have l1 := minsOf_length all from_ n hn
  have l2 := mostOf_length all from_ n hn
  obtain ⟨o1, ho1, e1⟩ := overT_ok (partN gap cols least) (minsOf all from_ n) (mostOf all from_ n) (partN_wide gap cols least hl hg hc).1 (mins_wide hall from_ n hn) (most_wide hall from_ n hn) (by omega) (by omega) (by omega)
  have gg := ho1.grown
  obtain ⟨g, hge⟩ : ∃ g, g = added o1 (minsOf all from_ n) := ⟨_, rfl⟩
  rw [← hge] at gg e1
  have lg : g.length = n := by rw [gg.len, l1]
  have hm2 : ∀ x ∈ most2 all from_ n g, wide x := by
    refine all_wide_of (fun i hi => ?_)
    rw [most2_length all from_ n g hn] at hi
    rw [most2_at all from_ n i g hn hi]
    have := okb_at hall (from_ + i) (by omega)
    exact mx_wide ⟨Int.le_trans this.min0 this.minmax, this.max⟩ (gg.wide _ (rd_mem g i (by omega)))
  have l3 := most2_length all from_ n g hn
  obtain ⟨o2, ho2, e2⟩ := overT_ok (partN gap cols most) (most2 all from_ n g) (most2 all from_ n g) (partN_wide gap cols most hm hg hc).1 hm2 hm2 rfl (by omega) (by omega)
  have gh := ho2.grown
  obtain ⟨h, hhe⟩ : ∃ h, h = added o2 (most2 all from_ n g) := ⟨_, rfl⟩
  rw [← hhe] at gh e2
  have lh : h.length = n := by rw [gh.len, l3]
  refine ⟨o1, o2, g, h, ⟨hge, hhe, ho1, ho2, gg, gh⟩, ?_⟩
  unfold spreadsT
  rw [e1]
  dsimp only
  rw [if_pos rfl]
  obtain ⟨a1, ha1⟩ : ∃ a1, a1 = updL stMin g from_ all := ⟨_, rfl⟩
  rw [← ha1]
  have la1 : a1.length = all.length := by rw [ha1, updL_length]
  have b1 : ∀ q, q < all.length → bAt a1 q = if from_ ≤ q ∧ q < from_ + n then stMin (bAt all q) (rd g ((q - from_ : Nat) : Int)) else bAt all q := fun q hq => by
    rw [ha1, updL_bAt _ _ _ _ _ hq, lg]
  have hmaxs : maxsL a1 from_ n = most2 all from_ n g := by
    have lm : (maxsL a1 from_ n).length = n := by unfold maxsL; rw [List.length_map, partL_length a1 from_ n (by omega)]
    refine list_eq (by rw [lm, l3]) (fun i hi => ?_)
    rw [lm] at hi
    rw [most2_at all from_ n i g hn hi, rd_nat, List.getElem?_eq_getElem (by omega), maxsL_at a1 from_ n i hi (by omega) (by omega)]
    have := b1 (from_ + i) (by omega)
    rw [if_pos ⟨by omega, by omega⟩, show from_ + i - from_ = i by omega] at this
    unfold bAt at this
    show mx _ _ = _
    rw [this]
    rfl
  rw [hmaxs]
  obtain ⟨a2, ha2⟩ : ∃ a2, a2 = updL stMax (most2 all from_ n g) from_ a1 := ⟨_, rfl⟩
  rw [← ha2]
  have la2 : a2.length = all.length := by rw [ha2, updL_length, la1]
  have b2 : ∀ q, q < all.length → bAt a2 q = if from_ ≤ q ∧ q < from_ + n then stMax (bAt a1 q) (rd (most2 all from_ n g) ((q - from_ : Nat) : Int)) else bAt a1 q := fun q hq => by
    rw [ha2, updL_bAt _ _ _ _ _ (by omega), l3]
  have hm3 : mostOf a2 from_ n = most2 all from_ n g := by
    have lm := mostOf_length a2 from_ n (by omega)
    refine list_eq (by omega) (fun i hi => ?_)
    rw [lm] at hi
    rw [mostOf_at a2 from_ n i (by omega) hi, b2 (from_ + i) (by omega), if_pos ⟨by omega, by omega⟩, show from_ + i - from_ = i by omega]
    rfl
  rw [hm3, e2]
  dsimp only
  rw [if_pos rfl]
  have hend : updL stMax h from_ a2 = stepL all from_ g h := by
    refine bAt_ext (by rw [updL_length, stepL_length, la2]) (fun q hq => ?_)
    rw [updL_length, la2] at hq
    rw [updL_bAt _ _ _ _ _ (by omega), lh, b2 q hq, b1 q hq]
    have h3 := stepL_get all from_ g h q hq
    have h4 : bAt (stepL all from_ g h) q = if from_ ≤ q ∧ q < from_ + g.length then ⟨rd g ((q - from_ : Nat) : Int), rd h ((q - from_ : Nat) : Int), (bAt all q).f2, (bAt all q).f3⟩ else bAt all q := by
      conv => lhs; unfold bAt
      rw [h3]
      rfl
    rw [h4, lg]
    by_cases c : from_ ≤ q ∧ q < from_ + n
    · rw [if_pos c, if_pos c, if_pos c, if_pos c]
      rfl
    · rw [if_neg c, if_neg c, if_neg c, if_neg c]
  rw [hend]
  have hw : (mostOf (stepL all from_ g h) from_ n).any wideBad = false := by
    rw [any_wide]
    refine all_wide_of (fun i hi => ?_)
    rw [mostOf_length _ from_ n (by rw [stepL_length]; exact hn)] at hi
    rw [mostOf_at _ from_ n i (by rw [stepL_length]; exact hn) hi]
    have h3 := stepL_get all from_ g h (from_ + i) (by omega)
    unfold bAt
    rw [h3, Option.getD_some, if_pos ⟨by omega, by omega⟩, show from_ + i - from_ = i by omega]
    exact gh.wide _ (rd_mem h i (by omega))
  rw [hw]
  rfl
end Go.Proofs.Ytpoboffdlnnbmaa.Base
