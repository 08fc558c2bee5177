/- What the document's spreading of needs answers: what the program's does. Condition: the bands and needs are right. -/
import Derived.Test.YtacigmhhegaieaaPAx28
import Derived.Test.YtacigmhhegaieaaPAx27
import Derived.Test.YtacigmhhegaieaaPAx23
import Derived.Test.YtacigmhhegaieaaRefOver
import Derived.Test.YtacigmhhegaieaaShown14
namespace Go.Proofs.Ytacigmhhegaieaa.Base
open Go.RowKit Go.Proofs.Ytacigmhhegaieaa.PA Go.Proofs.YtacigmhhegaieaaW.PrintWords Go.Proofs.YtacigmhhegaieaaW.PrintLast Go.Proofs.YtacigmhhegaieaaW.PrintMore
theorem bAt_set (l : List SB) (p q : Nat) (b : SB) (hp : p < l.length) : bAt (l.set p b) q = if q = p then b else bAt l q := by
  unfold bAt
  by_cases c : q = p
  · subst c
    rw [if_pos rfl, List.getElem?_set_self hp]
    rfl
  · rw [if_neg c, List.getElem?_set_ne (fun e => c e.symm)]
/-- The place of a need's column. -/
theorem place_id (col : Int) (i : Nat) (h0 : 0 ≤ col) (h : col + i ≤ 100000) : wrap64 (col + (i : Int)) = ((col.toNat + i : Nat) : Int) := by
  rw [wrap_id (by omega) (by omega)]
  omega
theorem one_l3 (x : List SB) (h : List Int) (p0 p1 p2 p3 p4 : Int) (n : Nat) (hn : n ≤ 10000) (hl : h.length = n) (hw : ∀ y ∈ h, wide y) (hp4 : p4 = (n : Int)) : ∀ (d i : Nat), i + d = n → Ev (fun k => purflingref14_one.l3 k x h (i : Int) p0 p1 p2 p3 p4) (true, x)
  | 0, i, hi => by
    refine Ev.step (f := fun k => _) (fun k => by rw [purflingref14_one.l3]) ?_
    exact Base.Ev.neg (by omega) (Ev.now _)
  | d + 1, i, hi => by
    have ih := one_l3 x h p0 p1 p2 p3 p4 n hn hl hw hp4 d (i + 1) (by omega)
    have := hw _ (rd_mem h i (by omega))
    unfold wide at this
    refine Ev.step (f := fun k => _) (fun k => by rw [purflingref14_one.l3, next (by omega)]) ?_
    exact Base.Ev.pos (by omega) (Base.Ev.pos (by omega) (Base.Ev.pos (by omega) (Base.Ev.neg (by omega) ih)))
theorem one_l2 (all : List SB) (g h : List Int) (x : SN) (hle : all.length ≤ 8000) (hx : RightN all.length x) (lg : g.length = x.f0.f4.toNat) (lh : h.length = x.f0.f4.toNat) (hw : ∀ y ∈ h, wide y) :
    ∀ (d i : Nat) (l : List SB), i + d = x.f0.f4.toNat → l.length = all.length → (∀ q, q < all.length → bAt l q = if x.f0.f2.toNat ≤ q ∧ q < x.f0.f2.toNat + x.f0.f4.toNat then (if q < x.f0.f2.toNat + i then ⟨rd g ((q - x.f0.f2.toNat : Nat) : Int), rd h ((q - x.f0.f2.toNat : Nat) : Int), (bAt all q).f2, (bAt all q).f3⟩ else ⟨rd g ((q - x.f0.f2.toNat : Nat) : Int), (bAt l q).f1, (bAt all q).f2, (bAt all q).f3⟩) else bAt all q) →
    Ev (fun k => purflingref14_one.l2 k l h (i : Int) x.f0.f0 x.f0.f1 x.f0.f2 x.f0.f3 x.f0.f4) (true, stepL all x.f0.f2.toNat g h)
  | 0, i, l, hi, hl, hb => by
    obtain ⟨c1, c2, c3, c4, _, _, _⟩ := hx
    have e : l = stepL all x.f0.f2.toNat g h := by
      refine bAt_ext (by rw [hl, stepL_length]) (fun q hq => ?_)
      rw [hl] at hq
      rw [bAt_step all _ g h q hq, hb q hq, lg]
      by_cases c : x.f0.f2.toNat ≤ q ∧ q < x.f0.f2.toNat + x.f0.f4.toNat
      · rw [if_pos c, if_pos c, if_pos (by omega)]
      · rw [if_neg c, if_neg c]
    refine Ev.step (f := fun k => _) (fun k => by rw [purflingref14_one.l2]) ?_
    refine Base.Ev.neg (by omega) ?_
    rw [← e]
    exact one_l3 l h x.f0.f0 x.f0.f1 x.f0.f2 x.f0.f3 x.f0.f4 x.f0.f4.toNat (by omega) lh hw (by omega) x.f0.f4.toNat 0 (by omega)
  | d + 1, i, l, hi, hl, hb => by
    have hx' := hx
    obtain ⟨c1, c2, c3, c4, _, _, _⟩ := hx'
    have hp := place_id x.f0.f2 i c1 (by omega)
    have hpl : x.f0.f2.toNat + i < l.length := by omega
    have hbi := hb (x.f0.f2.toNat + i) (by omega)
    rw [if_pos ⟨by omega, by omega⟩, if_neg (by omega), show x.f0.f2.toNat + i - x.f0.f2.toNat = i by omega] at hbi
    have ih := one_l2 all g h x hle hx lg lh hw d (i + 1) (l.set (x.f0.f2.toNat + i) ⟨(bAt l (x.f0.f2.toNat + i)).f0, rd h (i : Int), (bAt l (x.f0.f2.toNat + i)).f2, (bAt l (x.f0.f2.toNat + i)).f3⟩) (by omega) (by rw [List.length_set]; exact hl) (fun q hq => by
      rw [bAt_set _ _ _ _ hpl]
      by_cases cq : q = x.f0.f2.toNat + i
      · rw [if_pos cq, if_pos ⟨by omega, by omega⟩, if_pos (by omega)]
        subst cq
        rw [hbi, show x.f0.f2.toNat + i - x.f0.f2.toNat = i by omega]
      · rw [if_neg cq, hb q hq]
        by_cases c : x.f0.f2.toNat ≤ q ∧ q < x.f0.f2.toNat + x.f0.f4.toNat
        · rw [if_pos c, if_pos c]
          by_cases c2 : q < x.f0.f2.toNat + i
          · rw [if_pos c2, if_pos (by omega)]
          · rw [if_neg c2, if_neg (by omega)]
        · rw [if_neg c, if_neg c])
    refine Ev.step (f := fun k => _) (fun k => by rw [purflingref14_one.l2, hp, next (by omega), rdB, Int.toNat_natCast]) ?_
    exact Base.Ev.pos (by omega) (Base.Ev.pos (by omega) (Base.Ev.pos (by omega) (Base.Ev.pos (by omega) (Base.Ev.pos (by omega) ih))))
theorem one_l1 (all : List SB) (gap : Int) (o1 o2 g h : List Int) (x : SN) (hle : all.length ≤ 8000) (hall : ∀ b ∈ all, Okb b) (hx : RightN all.length x) (hg : 0 ≤ gap ∧ gap ≤ 1073741824)
    (s : StepIs all x.f0.f2.toNat x.f0.f4.toNat (partN gap x.f0.f4 x.f1) (partN gap x.f0.f4 x.f2) o1 o2 g h) :
    ∀ (d i : Nat) (l : List SB) (m : List Int), i + d = x.f0.f4.toNat → l.length = all.length → m.length = x.f0.f4.toNat → (∀ q, q < all.length → bAt l q = if x.f0.f2.toNat ≤ q ∧ q < x.f0.f2.toNat + i then ⟨rd g ((q - x.f0.f2.toNat : Nat) : Int), mx (bAt all q).f1 (rd g ((q - x.f0.f2.toNat : Nat) : Int)), (bAt all q).f2, (bAt all q).f3⟩ else bAt all q) →
    (∀ j : Nat, j < x.f0.f4.toNat → rd m (j : Int) = if j < i then mx (bAt all (x.f0.f2.toNat + j)).f1 (rd g (j : Int)) else (bAt all (x.f0.f2.toNat + j)).f1) →
    Ev (fun k => purflingref14_one.l1 k l gap m g (i : Int) x.f0.f0 x.f0.f1 x.f0.f2 x.f0.f3 x.f0.f4 x.f1 x.f2 x.f3.f0 x.f3.f1 x.f0.f0 x.f0.f1 x.f0.f2 x.f0.f3 x.f0.f4) (true, stepL all x.f0.f2.toNat g h)
  | 0, i, l, m, hi, hl, hm, hb, hmb => by
    have hx' := hx
    obtain ⟨c1, c2, c3, c4, c5, c6, _⟩ := hx'
    have hle2 : x.f0.f2.toNat + x.f0.f4.toNat ≤ all.length := by omega
    have lg : g.length = x.f0.f4.toNat := by rw [s.gg.len, minsOf_length all _ _ hle2]
    have lh : h.length = x.f0.f4.toNat := by rw [s.gh.len, most2_length all _ _ g hle2]
    have em : m = most2 all x.f0.f2.toNat x.f0.f4.toNat g := by
      refine list_eq (by rw [hm, most2_length all _ _ g hle2]) (fun j hj => ?_)
      rw [hm] at hj
      rw [hmb j hj, most2_at all _ _ j g hle2 hj, if_pos (by omega)]
    refine Ev.step (f := fun k => _) (fun k => by rw [purflingref14_one.l1]) ?_
    refine Base.Ev.neg (by omega) (Ev.bind (refPartN gap x.f0.f4 x.f2 c6 hg ⟨c3, by omega⟩) ?_)
    rw [em]
    have hov := refOver _ _ _ _ s.o2 (by rw [most2_length all _ _ g hle2]; omega) (by rw [most2_length all _ _ g hle2]; omega)
    rw [← s.eh] at hov
    refine Ev.bind hov (Base.Ev.pos rfl ?_)
    refine one_l2 all g h x hle hx lg lh s.gh.wide x.f0.f4.toNat 0 l (by omega) hl (fun q hq => ?_)
    have ei : i = x.f0.f4.toNat := by omega
    subst ei
    rw [hb q hq]
    by_cases c : x.f0.f2.toNat ≤ q ∧ q < x.f0.f2.toNat + x.f0.f4.toNat
    · rw [if_pos c, if_pos c, if_neg (by omega)]
    · rw [if_neg c, if_neg c]
  | d + 1, i, l, m, hi, hl, hm, hb, hmb => by
    have hx' := hx
    obtain ⟨c1, c2, c3, c4, c5, c6, _⟩ := hx'
    have hle2 : x.f0.f2.toNat + x.f0.f4.toNat ≤ all.length := by omega
    have lg : g.length = x.f0.f4.toNat := by rw [s.gg.len, minsOf_length all _ _ hle2]
    have hp := place_id x.f0.f2 i c1 (by omega)
    have hpl : x.f0.f2.toNat + i < l.length := by omega
    have hbi := hb (x.f0.f2.toNat + i) (by omega)
    rw [if_neg (by omega)] at hbi
    have hmi := hmb i (by omega)
    rw [if_neg (by omega)] at hmi
    have ih := one_l1 all gap o1 o2 g h x hle hall hx hg s d (i + 1) ((l.set (x.f0.f2.toNat + i) ⟨rd g (i : Int), (bAt l (x.f0.f2.toNat + i)).f1, (bAt l (x.f0.f2.toNat + i)).f2, (bAt l (x.f0.f2.toNat + i)).f3⟩).set (x.f0.f2.toNat + i) ⟨rd g (i : Int), mx (rd m (i : Int)) (rd g (i : Int)), (bAt l (x.f0.f2.toNat + i)).f2, (bAt l (x.f0.f2.toNat + i)).f3⟩) (m.set i (mx (rd m (i : Int)) (rd g (i : Int)))) (by omega) (by rw [List.length_set, List.length_set]; exact hl) (by rw [List.length_set]; exact hm) (fun q hq => by
      rw [bAt_set _ _ _ _ (by rw [List.length_set]; exact hpl)]
      by_cases cq : q = x.f0.f2.toNat + i
      · rw [if_pos cq, if_pos ⟨by omega, by omega⟩]
        subst cq
        rw [show x.f0.f2.toNat + i - x.f0.f2.toNat = i by omega, hmi, hbi]
      · rw [if_neg cq, bAt_set _ _ _ _ hpl, if_neg cq, hb q hq]
        by_cases c : x.f0.f2.toNat ≤ q ∧ q < x.f0.f2.toNat + i
        · rw [if_pos c, if_pos ⟨c.1, by omega⟩]
        · rw [if_neg c, if_neg (by omega)]) (fun j hj => by
      rw [rd_nat]
      by_cases cj : j = i
      · subst cj
        rw [List.getElem?_set_self (by omega), if_pos (by omega), Option.getD_some, hmi]
      · rw [List.getElem?_set_ne (fun e => cj e.symm), ← rd_nat, hmb j hj]
        by_cases c : j < i
        · rw [if_pos c, if_pos (by omega)]
        · rw [if_neg c, if_neg (by omega)])
    have hset : bAt (l.set (x.f0.f2.toNat + i) ⟨rd g (i : Int), (bAt l (x.f0.f2.toNat + i)).f1, (bAt l (x.f0.f2.toNat + i)).f2, (bAt l (x.f0.f2.toNat + i)).f3⟩) (x.f0.f2.toNat + i) = ⟨rd g (i : Int), (bAt l (x.f0.f2.toNat + i)).f1, (bAt l (x.f0.f2.toNat + i)).f2, (bAt l (x.f0.f2.toNat + i)).f3⟩ := by
      rw [bAt_set _ _ _ _ hpl, if_pos rfl]
    refine Ev.step (f := fun k => _) (fun k => by rw [purflingref14_one.l1, hp, next (by omega), rdB, Int.toNat_natCast, Int.toNat_natCast]) ?_
    refine Base.Ev.pos (by omega) (Base.Ev.pos (by omega) (Base.Ev.pos (by omega) (Base.Ev.pos (by omega) (Base.Ev.pos (by omega) (Ev.bind (Ev.now _) (Base.Ev.pos (by omega) ?_))))))
    rw [rdB, hset]
    exact ih
theorem one_l0 (all : List SB) (gap : Int) (o1 o2 g h : List Int) (x : SN) (hle : all.length ≤ 8000) (hall : ∀ b ∈ all, Okb b) (hx : RightN all.length x) (hg : 0 ≤ gap ∧ gap ≤ 1073741824)
    (s : StepIs all x.f0.f2.toNat x.f0.f4.toNat (partN gap x.f0.f4 x.f1) (partN gap x.f0.f4 x.f2) o1 o2 g h) :
    ∀ (d i : Nat), i + d = x.f0.f4.toNat → Ev (fun k => purflingref14_one.l0 k all gap ((minsOf all x.f0.f2.toNat x.f0.f4.toNat).take i) ((mostOf all x.f0.f2.toNat x.f0.f4.toNat).take i) (x.f0.f2 + (i : Int)) x.f0.f0 x.f0.f1 x.f0.f2 x.f0.f3 x.f0.f4 x.f1 x.f2 x.f3.f0 x.f3.f1 x.f0.f0 x.f0.f1 x.f0.f2 x.f0.f3 x.f0.f4) (true, stepL all x.f0.f2.toNat g h)
  | 0, i, hi => by
    have hx' := hx
    obtain ⟨c1, c2, c3, c4, c5, c6, _⟩ := hx'
    have hle2 : x.f0.f2.toNat + x.f0.f4.toNat ≤ all.length := by omega
    have e : wrap64 (x.f0.f2 + x.f0.f4) = x.f0.f2 + x.f0.f4 := wrap_id (by omega) (by omega)
    have l1 := minsOf_length all _ _ hle2
    have l2 := mostOf_length all _ _ hle2
    refine Ev.step (f := fun k => _) (fun k => by rw [purflingref14_one.l0, e]) ?_
    rw [List.take_of_length_le (by omega), List.take_of_length_le (by omega)]
    refine Base.Ev.neg (by omega) (Ev.bind (refPartN gap x.f0.f4 x.f1 c5 hg ⟨c3, by omega⟩) ?_)
    have hov := refOver _ _ _ _ s.o1 (by omega) (by omega)
    rw [← s.eg] at hov
    refine Ev.bind hov (Base.Ev.pos rfl ?_)
    refine one_l1 all gap o1 o2 g h x hle hall hx hg s x.f0.f4.toNat 0 all (mostOf all x.f0.f2.toNat x.f0.f4.toNat) (by omega) rfl l2 (fun q hq => ?_) (fun j hj => ?_)
    · rw [if_neg (by omega)]
    · rw [if_neg (by omega), mostOf_at all _ _ j hle2 hj]
  | d + 1, i, hi => by
    have hx' := hx
    obtain ⟨c1, c2, c3, c4, c5, c6, _⟩ := hx'
    have hle2 : x.f0.f2.toNat + x.f0.f4.toNat ≤ all.length := by omega
    have e : wrap64 (x.f0.f2 + x.f0.f4) = x.f0.f2 + x.f0.f4 := wrap_id (by omega) (by omega)
    have e1 : wrap64 (x.f0.f2 + (i : Int) + 1) = x.f0.f2 + ((i + 1 : Nat) : Int) := by rw [wrap_id (by omega) (by omega)]; omega
    have hix : x.f0.f2 + (i : Int) = ((x.f0.f2.toNat + i : Nat) : Int) := by omega
    have l1 := minsOf_length all _ _ hle2
    have l2 := mostOf_length all _ _ hle2
    have hin : i < x.f0.f4.toNat := by omega
    have t1 : (minsOf all x.f0.f2.toNat x.f0.f4.toNat).take (i + 1) = (minsOf all x.f0.f2.toNat x.f0.f4.toNat).take i ++ [(bAt all (x.f0.f2.toNat + i)).f0] := by
      have := minsOf_at all _ _ i hle2 hin
      rw [rd_nat, List.getElem?_eq_getElem (by omega), Option.getD_some] at this
      rw [List.take_succ_eq_append_getElem (by omega), this]
    have t2 : (mostOf all x.f0.f2.toNat x.f0.f4.toNat).take (i + 1) = (mostOf all x.f0.f2.toNat x.f0.f4.toNat).take i ++ [(bAt all (x.f0.f2.toNat + i)).f1] := by
      have := mostOf_at all _ _ i hle2 hin
      rw [rd_nat, List.getElem?_eq_getElem (by omega), Option.getD_some] at this
      rw [List.take_succ_eq_append_getElem (by omega), this]
    have ih := one_l0 all gap o1 o2 g h x hle hall hx hg s d (i + 1) (by omega)
    rw [t1, t2] at ih
    have hrb : rd_T39 all (x.f0.f2 + (i : Int)) = bAt all (x.f0.f2.toNat + i) := by rw [hix, rdB]
    refine Ev.step (f := fun k => _) (fun k => by rw [purflingref14_one.l0, e, hrb, e1]) ?_
    exact Base.Ev.pos (by omega) (Base.Ev.pos (by omega) (Base.Ev.pos (by omega) (Base.Ev.pos (by rw [List.length_take]; omega) (Base.Ev.pos (by rw [List.length_take]; omega) ih))))
/-- One need, by the document. -/
theorem one_ref (all : List SB) (gap : Int) (x : SN) (hle : all.length ≤ 8000) (hall : ∀ b ∈ all, Okb b) (hx : RightN all.length x) (hg : 0 ≤ gap ∧ gap ≤ 1073741824) :
    ∃ l, NoLess all l ∧ spreadsT all x.f0.f2.toNat x.f0.f4.toNat x.f0.f4 x.f1 x.f2 gap = (true, l) ∧ Ev (fun k => purflingref14_one.f k all x.f0.f0 x.f0.f1 x.f0.f2 x.f0.f3 x.f0.f4 x.f1 x.f2 x.f3.f0 x.f3.f1 gap) (true, l) := by
  obtain ⟨o1, o2, g, h, s, e⟩ := need_step all x gap hle hall hx hg.1
  have hx' := hx
  obtain ⟨c1, c2, c3, c4, c5, c6, _⟩ := hx'
  refine ⟨_, s.noLess (by omega) hall, e, ?_⟩
  unfold purflingref14_one.f
  have := one_l0 all gap o1 o2 g h x hle hall hx hg s x.f0.f4.toNat 0 (by omega)
  simp only [List.take_zero, Int.natCast_zero, Int.add_zero] at this
  exact this
/-- The needs of c columns, from the i-th on. -/
def rowN (needs : List SN) (c : Int) (i : Nat) : List SN := (((List.range needs.length).drop i).filter (fun j => colsAt needs j == c)).map (fun j => needs[j]?.getD z37)
/-- .. and of more columns. -/
def restN (needs : List SN) (c : Int) (e : Nat) : List SN := (StabNeed.blocks (colsAt needs) needs.length c e).map (fun j => needs[j]?.getD z37)
theorem restN_succ (needs : List SN) (c : Int) (e : Nat) : restN needs c (e + 1) = rowN needs c 0 ++ restN needs (c + 1) e := by
  unfold restN rowN StabNeed.blocks
  rw [List.range_succ_eq_map, List.flatMap_cons, List.map_append, List.flatMap_map, List.drop_zero]
  congr 2
  · simp
  · refine congrArg (fun f => List.flatMap f (List.range e)) (funext fun t => ?_)
    refine List.filter_congr (fun i _ => ?_)
    have : c + ((Nat.succ t : Nat) : Int) = c + 1 + (t : Int) := by omega
    rw [this]
theorem rowN_end (needs : List SN) (c : Int) : rowN needs c needs.length = [] := by
  unfold rowN
  rw [List.drop_of_length_le (by simp)]
  rfl
theorem rowN_yes (needs : List SN) (c : Int) (i : Nat) (h : i < needs.length) (hc : needs[i].f0.f4 = c) : rowN needs c i = needs[i] :: rowN needs c (i + 1) := by
  unfold rowN
  have hk : colsAt needs i = c := by
    unfold colsAt
    rw [List.getElem?_eq_getElem h]
    exact hc
  rw [List.drop_eq_getElem_cons (by simpa using h), List.getElem_range, List.filter_cons_of_pos (by simp [hk]), List.map_cons, List.getElem?_eq_getElem h]
  rfl
theorem rowN_no (needs : List SN) (c : Int) (i : Nat) (h : i < needs.length) (hc : ¬ needs[i].f0.f4 = c) : rowN needs c i = rowN needs c (i + 1) := by
  unfold rowN
  have hk : ¬ colsAt needs i = c := by
    unfold colsAt
    rw [List.getElem?_eq_getElem h]
    exact hc
  conv => lhs; rw [List.drop_eq_getElem_cons (by simpa using h)]
  rw [List.getElem_range, List.filter_cons_of_neg (by simp [hk])]
theorem ref_l1 (l0 : List SB) (needs : List SN) (gap c : Int) (rest : List SN) (r : List SB) (hle : l0.length ≤ 100) (hnl : needs.length ≤ 1000) (hg : 0 ≤ gap ∧ gap ≤ 1073741824) (hr : ∀ x ∈ needs, RightN l0.length x)
    (hcont : ∀ out : List SB, out.length = l0.length → (∀ b ∈ out, Okb b) → needsT gap rest out = some r → Ev (fun k => purflingref14_Needs.l0 k l0 needs gap out (wrap64 (c + 1))) (r, 0)) :
    ∀ (d i : Nat) (out : List SB), i + d = needs.length → out.length = l0.length → (∀ b ∈ out, Okb b) → needsT gap (rowN needs c i ++ rest) out = some r → Ev (fun k => purflingref14_Needs.l1 k l0 needs gap out c (i : Int)) (r, 0)
  | 0, i, out, hi, hl, hall, hT => by
    have e : i = needs.length := by omega
    subst e
    rw [rowN_end, List.nil_append] at hT
    refine Ev.step (f := fun k => _) (fun k => by rw [purflingref14_Needs.l1]) ?_
    exact Base.Ev.neg (by omega) (hcont out hl hall hT)
  | d + 1, i, out, hi, hl, hall, hT => by
    have hin : i < needs.length := by omega
    have hx := hr needs[i] (List.getElem_mem hin)
    rw [← hl] at hx
    refine Ev.step (f := fun k => _) (fun k => by rw [purflingref14_Needs.l1, rdN needs i hin, next (by omega)]) ?_
    refine Base.Ev.pos (by omega) (Base.Ev.pos (by omega) ?_)
    by_cases cc : needs[i].f0.f4 = c
    · obtain ⟨l, hno, he, hev⟩ := one_ref out gap needs[i] (by omega) hall hx hg
      rw [rowN_yes needs c i hin cc, List.cons_append] at hT
      unfold needsT at hT
      rw [he] at hT
      have hT' : needsT gap (rowN needs c (i + 1) ++ rest) l = some r := (if_pos rfl).symm.trans hT
      refine Base.Ev.pos cc (Ev.bind hev (Base.Ev.pos rfl ?_))
      exact ref_l1 l0 needs gap c rest r hle hnl hg hr hcont d (i + 1) l (by omega) (by rw [hno.len, hl]) hno.ok hT'
    · rw [rowN_no needs c i hin cc] at hT
      refine Base.Ev.neg cc ?_
      exact ref_l1 l0 needs gap c rest r hle hnl hg hr hcont d (i + 1) out (by omega) hl hall hT
theorem ref_l0 (l0 : List SB) (needs : List SN) (gap : Int) (r : List SB) (hle : l0.length ≤ 100) (hnl : needs.length ≤ 1000) (hg : 0 ≤ gap ∧ gap ≤ 1073741824) (hr : ∀ x ∈ needs, RightN l0.length x) :
    ∀ (e c : Nat) (out : List SB), c + e = l0.length + 1 → out.length = l0.length → (∀ b ∈ out, Okb b) → needsT gap (restN needs (c : Int) e) out = some r → Ev (fun k => purflingref14_Needs.l0 k l0 needs gap out (c : Int)) (r, 0)
  | 0, c, out, hc, hl, hall, hT => by
    have e : restN needs (c : Int) 0 = [] := rfl
    rw [e] at hT
    obtain rfl := Option.some.inj hT
    refine Ev.step (f := fun k => _) (fun k => by rw [purflingref14_Needs.l0]) ?_
    exact Base.Ev.neg (by omega) (Ev.now _)
  | e + 1, c, out, hc, hl, hall, hT => by
    rw [restN_succ] at hT
    refine Ev.step (f := fun k => _) (fun k => by rw [purflingref14_Needs.l0]) ?_
    refine Base.Ev.pos (by omega) ?_
    refine ref_l1 l0 needs gap (c : Int) (restN needs ((c : Int) + 1) e) r hle hnl hg hr (fun out' hl' hall' hT' => ?_) needs.length 0 out (by omega) hl hall hT
    rw [next (by omega)]
    exact ref_l0 l0 needs gap r hle hnl hg hr e (c + 1) out' (by omega) hl' hall' (by
      have : ((c + 1 : Nat) : Int) = (c : Int) + 1 := by omega
      rw [this]
      exact hT')
theorem refRight_no (l : List SB) (needs : List SN) : Ev (fun k => purflingref14_Right.j0 k l needs true) false := by
  refine Ev.step (f := fun k => _) (fun k => by rw [purflingref14_Right.j0]) ?_
  exact Base.Ev.pos rfl (Ev.now _)
theorem refRight14 (l : List SB) (needs : List SN) (gap : Int) (hl : l.length ≤ 100) (hn : needs.length ≤ 1000) : Ev (fun k => purflingref14_Right.f k l needs gap) (decide (needsOk l needs gap)) := by
  unfold purflingref14_Right.f
  refine Ev.bind (right_ref l (by omega)) ?_
  have hb := right_prog l (by omega)
  by_cases h1 : bandsOk l = true
  · refine Base.Ev.pos h1 ?_
    by_cases h2 : gap < 0
    · rw [show decide (needsOk l needs gap) = false from decide_eq_false (fun h => by have := (needs_right_of h).gap0; omega)]
      exact Base.Ev.pos h2 (refRight_no l needs)
    refine Base.Ev.neg h2 ?_
    by_cases h3 : gap > 1073741824
    · rw [show decide (needsOk l needs gap) = false from decide_eq_false (fun h => by have := (needs_right_of h).gap1; omega)]
      exact Base.Ev.pos h3 (refRight_no l needs)
    refine Base.Ev.neg h3 (Base.Ev.neg (by omega) ?_)
    rw [decide_eq_false (by omega : ¬ (needs.length : Int) > 1000)]
    refine Ev.step (f := fun k => _) (fun k => by rw [purflingref14_Right.j0]) ?_
    refine Base.Ev.neg (by simp) ?_
    have ha : purflingref14_auto.f (l.length : Int) = some (List.replicate l.length z35) := by
      unfold purflingref14_auto.f
      rw [if_pos (by omega), Int.toNat_natCast, if_pos (by omega)]
    rw [ha]
    refine Ev.bind (Ev.now _) ?_
    obtain ⟨t, ht⟩ : ∃ t, purflingref13_Right.f (List.replicate l.length z35) needs = some t := ⟨_, rfl⟩
    have ht2 : columns_Right.f (List.replicate l.length z35) needs = some t := ht
    rw [ht]
    refine Ev.bind (Ev.now _) (Base.Ev.val ?_)
    have hfew : fewN l.length needs.length gap = true := by
      unfold fewN
      rw [decide_eq_true hl, decide_eq_true hn, decide_eq_true (by omega : 0 ≤ gap), decide_eq_true (by omega : gap ≤ 1073741824)]
      rfl
    have hiff : needsOk l needs gap ↔ t = true := by
      unfold needsOk
      rw [hb, h1, ht2, hfew]
      simp
    cases t with
    | true => exact (decide_eq_true (hiff.2 rfl)).symm
    | false => exact (decide_eq_false (fun h => by simpa using hiff.1 h)).symm
  · rw [show decide (needsOk l needs gap) = false from decide_eq_false (fun h => by
      have := h.2.1
      rw [hb] at this
      exact h1 (by simpa using this))]
    exact Base.Ev.neg h1 (refRight_no l needs)
/-- What the document's Needs answers. -/
theorem refNeeds (l : List SB) (needs : List SN) (gap : Int) (hl : l.length ≤ 100) (hn : needs.length ≤ 1000) : ∃ r e, r.length ≤ 100 ∧ spread_Needs.f l needs gap = some (r, e) ∧ Ev (fun k => purflingref14_Needs.f k l needs gap) (r, e) := by
  unfold purflingref14_Needs.f
  rcases needs_answer l needs gap with ⟨hno, h⟩ | ⟨hr, r, h1, h, hless, _⟩
  · refine ⟨[], 130, by simp, h, Ev.bind (refRight14 l needs gap hl hn) ?_⟩
    rw [decide_eq_false hno]
    exact Base.Ev.neg (by simp) (Ev.now _)
  · have hok : needsOk l needs gap := by
      by_cases c : needsOk l needs gap
      · exact c
      · unfold spread_Needs.f at h
        rw [if_neg c] at h
        simp at h
    refine ⟨r, 0, by rw [hless.len]; exact hl, h, Ev.bind (refRight14 l needs gap hl hn) ?_⟩
    rw [decide_eq_true hok]
    refine Base.Ev.pos rfl (Base.Ev.pos (by simp; omega) ?_)
    have hstart : ∀ (hp : 1 ≤ l.length), Ev (fun k => purflingref14_Needs.l0 k l needs gap l ((2 : Nat) : Int)) (r, 0) := fun hp =>
      ref_l0 l needs gap r hl hn ⟨hr.gap0, hr.gap1⟩ hr.right (l.length - 1) 2 l (by omega) rfl hr.ok h1
    by_cases hp : 1 ≤ l.length
    · exact hstart hp
    · have e : l = [] := List.length_eq_zero_iff.1 (by omega)
      subst e
      have hrr : r = [] := List.length_eq_zero_iff.1 hless.len
      subst hrr
      refine Ev.step (f := fun k => _) (fun k => by rw [purflingref14_Needs.l0]) ?_
      exact Base.Ev.neg (by simp) (Ev.now _)
end Go.Proofs.Ytacigmhhegaieaa.Base
