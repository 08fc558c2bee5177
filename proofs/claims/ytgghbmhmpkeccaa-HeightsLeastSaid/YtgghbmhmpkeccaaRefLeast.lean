/- The document's least heights are the program's. Condition: at most 60 rows, a hundred cells. -/
import Derived.Test.YtgghbmhmpkeccaaPAx25
import Derived.Test.YtgghbmhmpkeccaaPAx20
import Derived.Test.YtgghbmhmpkeccaaRefOverL
import Derived.Test.YtgghbmhmpkeccaaLeastOne
import Derived.Test.YtgghbmhmpkeccaaCut16
namespace Go.Proofs.Ytgghbmhmpkeccaa.Base
open Go.RowKit Go.Proofs.Ytgghbmhmpkeccaa.PA Go.Proofs.YtgghbmhmpkeccaaW.PrintWords Go.Proofs.YtgghbmhmpkeccaaW.PrintLast Go.Proofs.YtgghbmhmpkeccaaW.PrintMore
theorem wantedL_l0 (l : List Int) (hl : l.length ≤ 10000) : ∀ (d i : Nat), i + d = l.length → Ev (fun k => purflingref16_wanted.l0 k l (i : Int)) ((l.drop i).all (fun x => decide (-1 ≤ x ∧ x ≤ 1073741824)))
  | 0, i, hi => by
    refine Ev.step (f := fun k => _) (fun k => by rw [purflingref16_wanted.l0]) ?_
    refine Base.Ev.neg (by omega) (Base.Ev.val ?_)
    rw [List.drop_of_length_le (by omega), decide_eq_true (by omega : (l.length : Int) ≤ 10000)]
    rfl
  | d + 1, i, hi => by
    have hin : i < l.length := by omega
    have e : wrap64 ((i : Int) + 1) = ((i + 1 : Nat) : Int) := by rw [wrap_id (by omega) (by omega)]; rfl
    have er : rd l (i : Int) = l[i] := by rw [rd_nat, List.getElem?_eq_getElem hin]; rfl
    have ih := wantedL_l0 l hl d (i + 1) (by omega)
    refine Ev.step (f := fun k => _) (fun k => by rw [purflingref16_wanted.l0]) ?_
    rw [e, er, List.drop_eq_getElem_cons hin, List.all_cons]
    refine Base.Ev.pos (by omega) (Base.Ev.pos (by omega) ?_)
    by_cases c1 : l[i] < -1
    · rw [decide_eq_false (by omega : ¬ (-1 ≤ l[i] ∧ l[i] ≤ 1073741824)), Bool.false_and]
      exact Base.Ev.pos c1 (Ev.now _)
    · refine Base.Ev.neg c1 ?_
      by_cases c2 : l[i] > 1073741824
      · rw [decide_eq_false (by omega : ¬ (-1 ≤ l[i] ∧ l[i] ≤ 1073741824)), Bool.false_and]
        exact Base.Ev.pos c2 (Ev.now _)
      · rw [decide_eq_true (by omega : -1 ≤ l[i] ∧ l[i] ≤ 1073741824), Bool.true_and]
        exact Base.Ev.neg c2 ih
theorem wantedL_ev (l : List Int) (hl : l.length ≤ 10000) : Ev (fun k => purflingref16_wanted.f k l) (l.all (fun x => decide (-1 ≤ x ∧ x ≤ 1073741824))) := by
  have := wantedL_l0 l hl l.length 0 (by omega)
  rw [List.drop_zero] at this
  exact this
def okP (n : Int) (p : SPl) (h : Int) : Prop := wide h ∧ 0 ≤ p.f1 ∧ p.f1 ≤ n ∧ 1 ≤ p.f3 ∧ p.f3 ≤ n - p.f1
theorem right_l0 (l0 : List Int) (l1 : List SPl) (l2 : List Int) (h0 : l0.length ≤ 60) (h1 : l1.length ≤ 100) (hlen : l1.length = l2.length) : ∀ (d i : Nat), i + d = l1.length → ∃ r, Ev (fun k => purflingref16_Right.l0 k l0 l1 l2 (i : Int)) r ∧ (r = true ↔ ∀ j (g1 : j < l1.length) (g2 : j < l2.length), i ≤ j → okP l0.length l1[j] l2[j])
  | 0, i, hi => by
    refine ⟨true, ?_, ?_⟩
    · refine Ev.step (f := fun k => _) (fun k => by rw [purflingref16_Right.l0]) ?_
      exact Base.Ev.neg (by omega) (Ev.now _)
    · refine ⟨fun _ j g1 g2 g3 => by omega, fun _ => rfl⟩
  | d + 1, i, hi => by
    have hin : i < l1.length := by omega
    have hin2 : i < l2.length := by omega
    have e : wrap64 ((i : Int) + 1) = ((i + 1 : Nat) : Int) := by rw [wrap_id (by omega) (by omega)]; rfl
    have er : rd l2 (i : Int) = l2[i] := by rw [rd_nat, List.getElem?_eq_getElem hin2]; rfl
    obtain ⟨r, ih, hr⟩ := right_l0 l0 l1 l2 h0 h1 hlen d (i + 1) (by omega)
    by_cases c : okP l0.length l1[i] l2[i]
    · have c' := c
      obtain ⟨⟨q1, q2⟩, q3, q4, q5, q6⟩ := c'
      have ew : wrap64 ((l0.length : Int) - l1[i].f1) = (l0.length : Int) - l1[i].f1 := wrap_id (by omega) (by omega)
      refine ⟨r, ?_, ?_⟩
      · refine Ev.step (f := fun k => _) (fun k => by rw [purflingref16_Right.l0]) ?_
        rw [rdP l1 i hin, er, e, ew]
        exact Base.Ev.pos (by omega) (Base.Ev.pos (by omega) (Base.Ev.pos (by omega) (Base.Ev.neg (by omega) (Base.Ev.neg (by omega) (Base.Ev.neg (by omega) (Base.Ev.neg (by omega) (Base.Ev.neg (by omega) (Base.Ev.neg (by omega) ih))))))))
      · rw [hr]
        refine ⟨fun h j g1 g2 g3 => ?_, fun h j g1 g2 g3 => h j g1 g2 (by omega)⟩
        rcases Nat.lt_or_ge i j with g | g
        · exact h j g1 g2 g
        · obtain rfl : i = j := by omega
          exact c
    · refine ⟨false, ?_, ?_⟩
      · refine Ev.step (f := fun k => _) (fun k => by rw [purflingref16_Right.l0]) ?_
        rw [rdP l1 i hin, er]
        refine Base.Ev.pos (by omega) (Base.Ev.pos (by omega) (Base.Ev.pos (by omega) ?_))
        by_cases d1 : l2[i] < 0
        · exact Base.Ev.pos d1 (Ev.now _)
        · refine Base.Ev.neg d1 ?_
          by_cases d2 : l2[i] > 1125899906842623
          · exact Base.Ev.pos d2 (Ev.now _)
          · refine Base.Ev.neg d2 ?_
            by_cases d3 : l1[i].f1 < 0
            · exact Base.Ev.pos d3 (Ev.now _)
            · refine Base.Ev.neg d3 ?_
              by_cases d4 : l1[i].f1 > (l0.length : Int)
              · exact Base.Ev.pos d4 (Ev.now _)
              · refine Base.Ev.neg d4 ?_
                have ew : wrap64 ((l0.length : Int) - l1[i].f1) = (l0.length : Int) - l1[i].f1 := wrap_id (by omega) (by omega)
                rw [ew]
                by_cases d5 : l1[i].f3 < 1
                · exact Base.Ev.pos d5 (Ev.now _)
                · refine Base.Ev.neg d5 ?_
                  by_cases d6 : l1[i].f3 > (l0.length : Int) - l1[i].f1
                  · exact Base.Ev.pos d6 (Ev.now _)
                  · exact absurd ⟨⟨by omega, by omega⟩, by omega, by omega, by omega, by omega⟩ c
      · refine ⟨fun h => (by cases h), fun h => absurd (h i hin hin2 (Nat.le_refl _)) c⟩
theorem refRight (l0 : List Int) (l1 : List SPl) (l2 : List Int) (a3 : Int) (h0 : l0.length ≤ 60) (h1 : l1.length ≤ 100) : Ev (fun k => purflingref16_Right.f k l0 l1 l2 a3) (leastOk l0 l1 l2 a3) := by
  have bad : Ev (fun k => purflingref16_Right.j0 k l0 l1 l2 true) false := by
    refine Ev.step (f := fun k => _) (fun k => by rw [purflingref16_Right.j0]) ?_
    exact Base.Ev.pos rfl (Ev.now _)
  have no : ¬ LeastIs l0 l1 l2 a3 → leastOk l0 l1 l2 a3 = false := fun h => by
    rw [← Bool.not_eq_true, leastOk_iff]
    exact h
  unfold purflingref16_Right.f
  refine Ev.bind (wantedL_ev l0 (by omega)) ?_
  by_cases c1 : l0.all (fun x => decide (-1 ≤ x ∧ x ≤ 1073741824)) = true
  · refine Base.Ev.pos c1 ?_
    by_cases c2 : (l1.length : Int) = (l2.length : Int)
    · refine Base.Ev.pos c2 ?_
      by_cases c3 : a3 < 0
      · rw [no (fun h => by have := h.gap; omega)]
        exact Base.Ev.pos c3 bad
      · refine Base.Ev.neg c3 ?_
        by_cases c4 : a3 > 1073741824
        · rw [no (fun h => by have := h.gap; omega), decide_eq_true c4]
          exact bad
        · rw [decide_eq_false c4]
          refine Ev.step (f := fun k => _) (fun k => by rw [purflingref16_Right.j0]) ?_
          refine Base.Ev.neg (by decide) ?_
          obtain ⟨r, hr, hi⟩ := right_l0 l0 l1 l2 h0 h1 (by omega) l1.length 0 (by omega)
          have er : r = leastOk l0 l1 l2 a3 := by
            rw [Bool.eq_iff_iff, hi, leastOk_iff]
            constructor
            · intro h
              refine ⟨by omega, fun x hx => of_decide_eq_true (List.all_eq_true.1 c1 x hx), by omega, fun x hx => ?_, by omega, fun p hp => ?_, by omega⟩
              · obtain ⟨j, hj, e⟩ := List.mem_iff_getElem.1 hx
                rw [← e]
                exact (h j (by omega) hj (by omega)).1
              · obtain ⟨j, hj, e⟩ := List.mem_iff_getElem.1 hp
                have := h j hj (by omega) (by omega)
                rw [e] at this
                obtain ⟨_, q3, q4, q5, q6⟩ := this
                omega
            · intro h j g1 g2 _
              obtain ⟨p1, p2, p3, p4⟩ := h.places _ (List.getElem_mem g1)
              exact ⟨h.highs _ (List.getElem_mem g2), p1, by omega, p3, p4⟩
          rw [← er]
          exact hr
    · rw [no (fun h => by have := h.len; omega)]
      exact Base.Ev.neg c2 bad
  · rw [no (fun h => c1 (List.all_eq_true.2 (fun x hx => decide_eq_true (h.wants x hx))))]
    exact Base.Ev.neg c1 bad
/-! The order of the cells. -/
theorem list_eqH {a b : List Int} (hl : a.length = b.length) (h : ∀ i : Nat, i < a.length → rd a i = rd b i) : a = b :=
  List.ext_getElem hl (fun i h1 h2 => by
    have := h i h1
    rw [rd_nat, rd_nat, List.getElem?_eq_getElem h1, List.getElem?_eq_getElem h2] at this
    exact this)
def blk (L : List HCell) (n : Int) : List HCell := L.filter (fun x => x.f0.f3 == n)
def blks (L : List HCell) (m : Nat) : List HCell := (List.range m).flatMap (fun c : Nat => blk L (1 + (c : Int)))
theorem blks_succ (L : List HCell) (m : Nat) : blks L (m + 1) = blks L m ++ blk L (1 + (m : Int)) := by
  unfold blks
  rw [List.range_succ, List.flatMap_append]
  simp
theorem cells_blks (L : List HCell) (m : Nat) : cellsS L m = blks L m := by
  have eL : (List.range L.length).map (fun i => L[i]?.getD zH) = L := by
    refine List.ext_getElem (by simp) (fun i h1 h2 => ?_)
    rw [List.getElem_map, List.getElem_range, List.getElem?_eq_getElem h2]
    rfl
  have eb : ∀ v : Int, ((List.range L.length).filter (fun i => rowsAt L i == v)).map (fun i => L[i]?.getD zH) = blk L v := fun v => by
    have h := List.filter_map (f := fun i => L[i]?.getD zH) (p := fun x : HCell => x.f0.f3 == v) (l := List.range L.length)
    rw [eL] at h
    exact h.symm
  unfold cellsS StabCell.blocksCell blks
  rw [List.map_flatMap]
  exact congrArg (fun f => (List.range m).flatMap f) (funext (fun c => eb _))
theorem blks_more (L : List HCell) (m : Nat) (h : ∀ x ∈ L, x.f0.f3 ≤ (m : Int)) : ∀ d : Nat, blks L (m + d) = blks L m
  | 0 => rfl
  | d + 1 => by
    rw [← Nat.add_assoc, blks_succ, blks_more L m h d]
    have : blk L (1 + ((m + d : Nat) : Int)) = [] := by
      unfold blk
      rw [List.filter_eq_nil_iff]
      intro x hx
      have := h x hx
      rw [beq_iff_eq]
      omega
    rw [this, List.append_nil]
theorem blks_same (L : List HCell) (m k : Nat) (h : ∀ x ∈ L, x.f0.f3 ≤ (m : Int)) (g : ∀ x ∈ L, x.f0.f3 ≤ (k : Int)) : blks L m = blks L k := by
  rcases Nat.le_total m k with c | c
  · have := blks_more L m h (k - m)
    rw [show m + (k - m) = k by omega] at this
    exact this.symm
  · have := blks_more L k g (m - k)
    rw [show k + (m - k) = m by omega] at this
    exact this
theorem blk_take (L : List HCell) (n : Int) (i : Nat) (h : i < L.length) : blk (L.take (i + 1)) n = blk (L.take i) n ++ (if L[i].f0.f3 = n then [L[i]] else []) := by
  unfold blk
  rw [List.take_succ_eq_append_getElem h, List.filter_append]
  congr 1
  by_cases c : L[i].f0.f3 = n
  · rw [if_pos c, List.filter_cons_of_pos (by simpa using c)]
    rfl
  · rw [if_neg c, List.filter_cons_of_neg (by simpa using c)]
    rfl
def mostOfH (L : List HCell) : Int := L.foldl (fun m x => mx m x.f0.f3) 1
theorem mostOfH_take (L : List HCell) (i : Nat) (h : i < L.length) : mostOfH (L.take (i + 1)) = mx (mostOfH (L.take i)) L[i].f0.f3 := by
  unfold mostOfH
  rw [List.take_succ_eq_append_getElem h, List.foldl_append]
  rfl
theorem foldl_mx_ge (L : List HCell) : ∀ m : Int, m ≤ L.foldl (fun m x => mx m x.f0.f3) m ∧ ∀ x ∈ L, x.f0.f3 ≤ L.foldl (fun m x => mx m x.f0.f3) m := by
  induction L with
  | nil => exact fun m => ⟨Int.le_refl _, fun x hx => by cases hx⟩
  | cons y L ih =>
    intro m
    obtain ⟨h1, h2⟩ := ih (mx m y.f0.f3)
    have h3 := le_mxH m y.f0.f3
    rw [List.foldl_cons]
    refine ⟨by omega, fun x hx => ?_⟩
    rcases List.mem_cons.1 hx with rfl | hx
    · omega
    · exact h2 x hx
theorem foldl_mx_le (M : Int) (L : List HCell) (h : ∀ x ∈ L, x.f0.f3 ≤ M) : ∀ m : Int, m ≤ M → L.foldl (fun m x => mx m x.f0.f3) m ≤ M := by
  induction L with
  | nil => exact fun m hm => hm
  | cons y L ih =>
    intro m hm
    rw [List.foldl_cons]
    refine ih (fun x hx => h x (by simp [hx])) _ ?_
    have := h y (by simp)
    unfold mx
    split <;> omega
theorem cellsL_length (l1 : List SPl) (l2 : List Int) (h : l1.length = l2.length) : (cellsL l1 l2).length = l1.length := by
  unfold cellsL
  rw [List.length_zipWith]
  omega
theorem cellsL_at (l1 : List SPl) (l2 : List Int) (i : Nat) (h1 : i < l1.length) (h2 : i < l2.length) (h : i < (cellsL l1 l2).length) : (cellsL l1 l2)[i] = ⟨l1[i], l2[i]⟩ := List.getElem_zipWith (f := HCell.mk)
theorem rd_setH (l : List Int) (p i : Nat) (x : Int) (h : p < l.length) : rd (l.set p x) (i : Int) = if i = p then x else rd l i := by
  rw [rd_nat, rd_nat]
  by_cases c : i = p
  · rw [if_pos c, c, List.getElem?_set_self h]
    rfl
  · rw [if_neg c, List.getElem?_set_ne (fun e => c e.symm)]
theorem lay_next (out g : List Int) (p k : Nat) (hk : k < g.length) (hp : p + g.length ≤ out.length) : (layAt out p (g.take k)).set (p + k) (rd g k) = layAt out p (g.take (k + 1)) := by
  have t0 : (g.take k).length = k := by rw [List.length_take]; omega
  have t1 : (g.take (k + 1)).length = k + 1 := by rw [List.length_take]; omega
  have l0 := layAt_length out p (g.take k) (by omega)
  have l1 := layAt_length out p (g.take (k + 1)) (by omega)
  refine list_eqH (by rw [List.length_set, l0, l1]) (fun i hi => ?_)
  rw [List.length_set, l0] at hi
  have tk : ∀ j m : Nat, j < m → rd (g.take m) (j : Int) = rd g j := fun j m h => by rw [rd_nat, rd_nat, List.getElem?_take_of_lt h]
  rw [rd_setH _ _ _ _ (by omega), layAt_at out p _ (by omega), layAt_at out p _ (by omega), t0, t1]
  by_cases c : i = p + k
  · rw [if_pos c, if_pos (by omega), tk _ _ (by omega), show i - p = k by omega]
  · rw [if_neg c]
    by_cases c2 : p ≤ i ∧ i < p + k
    · rw [if_pos c2, if_pos (by omega), tk _ _ (by omega), tk _ _ (by omega)]
    · rw [if_neg c2, if_neg (by omega)]
theorem least_l4 (l1 : List SPl) (l2 : List Int) (gap : Int) (out g : List Int) (most n : Int) (j : Nat) (hj : j < l1.length) (hol : out.length ≤ 60) (h1 : 0 ≤ l1[j].f1) (hn : n = (g.length : Int)) (hp : l1[j].f1 + n ≤ (out.length : Int)) (R : List Int × Int)
    (hR : Ev (fun k => purflingref16_Least.l3 k l1 l2 gap (layAt out l1[j].f1.toNat g) most n (wrap64 ((j : Int) + 1))) R) : ∀ (d i : Nat), i + d = g.length → Ev (fun k => purflingref16_Least.l4 k l1 l2 gap (layAt out l1[j].f1.toNat (g.take i)) most n (j : Int) g (i : Int)) R
  | 0, i, hi => by
    refine Ev.step (f := fun k => _) (fun k => by rw [purflingref16_Least.l4]) ?_
    rw [List.take_of_length_le (by omega)]
    exact Base.Ev.neg (by omega) hR
  | d + 1, i, hi => by
    have hin : i < g.length := by omega
    have e : wrap64 ((i : Int) + 1) = ((i + 1 : Nat) : Int) := by rw [wrap_id (by omega) (by omega)]; rfl
    have ep : wrap64 (l1[j].f1 + (i : Int)) = ((l1[j].f1.toNat + i : Nat) : Int) := by rw [wrap_id (by omega) (by omega)]; omega
    have hll := layAt_length out l1[j].f1.toNat (g.take i) (by rw [List.length_take]; omega)
    have ih := least_l4 l1 l2 gap out g most n j hj hol h1 hn hp R hR d (i + 1) (by omega)
    rw [← lay_next out g l1[j].f1.toNat i hin (by omega)] at ih
    refine Ev.step (f := fun k => _) (fun k => by rw [purflingref16_Least.l4]) ?_
    rw [rdP l1 j hj, ep, e, Int.toNat_natCast]
    exact Base.Ev.pos (by omega) (Base.Ev.pos (by omega) (Base.Ev.pos (by omega) (Base.Ev.pos (by omega) (Base.Ev.pos (by omega) (Base.Ev.pos (by omega) (Base.Ev.pos (by omega) ih))))))
/-- A cell of more rows than one. -/
theorem stepH_many (gap : Int) (out : List Int) (x : HCell) (hle : out.length ≤ 8000) (ho : ∀ y ∈ out, wide y) (hx : InRows out.length x) (hg : 0 ≤ gap) (hm : x.f0.f3 ≠ 1) :
    ∃ o, OverIs (partN gap x.f0.f3 x.f1) (partH out x.f0.f1.toNat x.f0.f3.toNat) (partH out x.f0.f1.toNat x.f0.f3.toNat) o ∧ stepH gap out x = some (layAt out x.f0.f1.toNat (added o (partH out x.f0.f1.toNat x.f0.f3.toNat))) := by
  obtain ⟨h1, h2, h3, h4, h5⟩ := hx
  have hn : x.f0.f1.toNat + x.f0.f3.toNat ≤ out.length := by omega
  have hpl := partH_length out x.f0.f1.toNat x.f0.f3.toNat hn
  have hpw : ∀ y ∈ partH out x.f0.f1.toNat x.f0.f3.toNat, wide y := fun y hy => ho y (by
    unfold partH at hy
    exact List.mem_of_mem_drop (List.mem_of_mem_take hy))
  obtain ⟨o, hO, e⟩ := overT_okH (partN gap x.f0.f3 x.f1) _ _ (partN_wide gap x.f0.f3 x.f1 ⟨h4, h5⟩ hg h2).1 hpw hpw rfl (by omega) (by omega)
  have eo : overH gap out x = (added o (partH out x.f0.f1.toNat x.f0.f3.toNat), 0) := e
  refine ⟨o, hO, ?_⟩
  unfold stepH
  rw [if_neg hm, eo]
  exact if_pos rfl
/-- What stands after some cells. -/
structure Stands (gap : Int) (n : Nat) (start : List Int) (xs : List HCell) (out : List Int) : Prop where
  is : leastT gap xs start = some out
  len : out.length = n
  ok : ∀ y ∈ out, wide y
theorem Stands.step {gap : Int} {n : Nat} {start out : List Int} {xs : List HCell} (h : Stands gap n start xs out) (hn : n ≤ 8000) (hg : 0 ≤ gap) (x : HCell) (hx : InRows n x) (o : List Int) (ho : stepH gap out x = some o) : Stands gap n start (xs ++ [x]) o := by
  obtain ⟨o', e, hN, _⟩ := stepH_is gap out x (by rw [h.len]; exact hn) h.ok (by rw [h.len]; exact hx) hg
  rw [ho] at e
  obtain rfl := Option.some.inj e
  refine ⟨?_, by rw [hN.len, h.len], hN.ok⟩
  rw [leastT_append, h.is]
  show (leastT gap [x] out) = _
  unfold leastT
  rw [ho]
  rfl
theorem least_l3 (l0n : Nat) (l1 : List SPl) (l2 : List Int) (gap : Int) (start : List Int) (most n : Int) (h1 : l1.length ≤ 100) (hlen : l1.length = l2.length) (h0 : l0n ≤ 60) (hg : 0 ≤ gap ∧ gap ≤ 1073741824) (hn : 2 ≤ n ∧ n ≤ 60) (hx : ∀ x ∈ cellsL l1 l2, InRows l0n x) (pre : List HCell) (R : List Int × Int)
    (hR : ∀ out, Stands gap l0n start (pre ++ blk (cellsL l1 l2) n) out → Ev (fun k => purflingref16_Least.l2 k l1 l2 gap out most (wrap64 (n + 1))) R) :
    ∀ (d i : Nat) (out : List Int), i + d = l1.length → Stands gap l0n start (pre ++ blk ((cellsL l1 l2).take i) n) out → Ev (fun k => purflingref16_Least.l3 k l1 l2 gap out most n (i : Int)) R
  | 0, i, out, hi, hS => by
    refine Ev.step (f := fun k => _) (fun k => by rw [purflingref16_Least.l3]) ?_
    rw [List.take_of_length_le (by rw [cellsL_length l1 l2 hlen]; omega)] at hS
    exact Base.Ev.neg (by omega) (hR out hS)
  | d + 1, i, out, hi, hS => by
    have hin : i < l1.length := by omega
    have hin2 : i < l2.length := by omega
    have hcl : i < (cellsL l1 l2).length := by rw [cellsL_length l1 l2 hlen]; exact hin
    have hc := cellsL_at l1 l2 i hin hin2 hcl
    have hxi := hx _ (List.getElem_mem hcl)
    rw [hc] at hxi
    have e : wrap64 ((i : Int) + 1) = ((i + 1 : Nat) : Int) := by rw [wrap_id (by omega) (by omega)]; rfl
    have et := blk_take (cellsL l1 l2) n i hcl
    have er : rd l2 (i : Int) = l2[i] := by rw [rd_nat, List.getElem?_eq_getElem hin2]; rfl
    rw [hc] at et
    refine Ev.step (f := fun k => _) (fun k => by rw [purflingref16_Least.l3]) ?_
    rw [rdP l1 i hin]
    refine Base.Ev.pos (by omega) (Base.Ev.pos (by omega) ?_)
    by_cases c : l1[i].f3 = n
    · obtain ⟨o, hO, hst⟩ := stepH_many gap out ⟨l1[i], l2[i]⟩ (by rw [hS.len]; omega) hS.ok (by rw [hS.len]; exact hxi) hg.1 (by show l1[i].f3 ≠ 1; omega)
      have hS2 := hS.step (by omega) hg.1 ⟨l1[i], l2[i]⟩ hxi _ hst
      rw [List.append_assoc, ← if_pos (c := l1[i].f3 = n) (t := [(⟨l1[i], l2[i]⟩ : HCell)]) (e := []) c, ← et] at hS2
      have hxi' := hxi
      obtain ⟨q1, q2, q3, q4, q5⟩ := hxi'
      dsimp only at q1 q2 q3 q4 q5 hO hS2
      have hol := hS.len
      have ew : wrap64 (l1[i].f1 + n) = l1[i].f1 + n := wrap_id (by omega) (by omega)
      have hpl := partH_length out l1[i].f1.toNat l1[i].f3.toNat (by omega)
      have epart : (out.take (l1[i].f1 + n).toNat).drop l1[i].f1.toNat = partH out l1[i].f1.toNat l1[i].f3.toNat := by
        unfold partH
        rw [List.drop_take]
        congr 1
        omega
      have ih := least_l3 l0n l1 l2 gap start most n h1 hlen h0 hg hn hx pre R hR d (i + 1) _ (by omega) hS2
      rw [← e] at ih
      have hgl : (added o (partH out l1[i].f1.toNat l1[i].f3.toNat)).length = l1[i].f3.toNat := by rw [added_length, hO.fair.len, hpl]
      have h4 := least_l4 l1 l2 gap out (added o (partH out l1[i].f1.toNat l1[i].f3.toNat)) most n i hin (by omega) q1 (by omega) (by omega) R ih l1[i].f3.toNat 0 (by omega)
      have e0 : layAt out l1[i].f1.toNat ((added o (partH out l1[i].f1.toNat l1[i].f3.toNat)).take 0) = out := by
        unfold layAt
        simp
      rw [e0] at h4
      have hpart := refPartNL gap n l2[i] ⟨q4, q5⟩ hg ⟨by omega, by omega⟩
      have hover := refOverL _ _ _ _ hO (by omega) (by omega)
      rw [c] at hover
      rw [ew, epart, er]
      refine Base.Ev.pos c (Base.Ev.pos q1 (Base.Ev.pos (by omega) (Base.Ev.pos (by omega) (Ev.bind (Ev.now _) (Base.Ev.pos (by simp only [List.length_nil]; omega) (Ev.bind (Ev.now _) (Base.Ev.pos (by omega) (Ev.bind hpart ?_))))))))
      rw [List.nil_append]
      rw [c] at h4 ⊢
      exact Ev.bind hover (Base.Ev.pos rfl h4)
    · rw [if_neg c, List.append_nil] at et
      rw [← et] at hS
      rw [e]
      exact Base.Ev.neg c (least_l3 l0n l1 l2 gap start most n h1 hlen h0 hg hn hx pre R hR d (i + 1) out (by omega) hS)
theorem least_l2 (l0n : Nat) (l1 : List SPl) (l2 : List Int) (gap : Int) (start : List Int) (most : Nat) (h1 : l1.length ≤ 100) (hlen : l1.length = l2.length) (h0 : l0n ≤ 60) (hmost : most ≤ 60) (hg : 0 ≤ gap ∧ gap ≤ 1073741824) (hx : ∀ x ∈ cellsL l1 l2, InRows l0n x) (fin : List Int) (hfin : leastT gap (blks (cellsL l1 l2) most) start = some fin) :
    ∀ (d i : Nat) (out : List Int), i + d = most → Stands gap l0n start (blks (cellsL l1 l2) i) out → 1 ≤ i → Ev (fun k => purflingref16_Least.l2 k l1 l2 gap out (most : Int) ((i : Int) + 1)) (fin, 0)
  | 0, i, out, hi, hS, hi1 => by
    refine Ev.step (f := fun k => _) (fun k => by rw [purflingref16_Least.l2]) ?_
    have := hS.is
    rw [show i = most by omega, hfin] at this
    rw [Option.some.inj this]
    exact Base.Ev.neg (by omega) (Ev.now _)
  | d + 1, i, out, hi, hS, hi1 => by
    have e : wrap64 ((i : Int) + 1 + 1) = ((i + 1 : Nat) : Int) + 1 := by rw [wrap_id (by omega) (by omega)]; omega
    refine Ev.step (f := fun k => _) (fun k => by rw [purflingref16_Least.l2]) ?_
    refine Base.Ev.pos (by omega) ?_
    refine least_l3 l0n l1 l2 gap start most ((i : Int) + 1) h1 hlen h0 hg ⟨by omega, by omega⟩ hx (blks (cellsL l1 l2) i) (fin, 0) (fun out' hS' => ?_) l1.length 0 out (by omega) ?_
    · rw [e]
      refine least_l2 l0n l1 l2 gap start most h1 hlen h0 hmost hg hx fin hfin d (i + 1) out' (by omega) ?_ (by omega)
      rw [blks_succ, show 1 + (i : Int) = (i : Int) + 1 by omega]
      exact hS'
    · rw [List.take_zero]
      have : blk ([] : List HCell) ((i : Int) + 1) = [] := rfl
      rw [this, List.append_nil]
      exact hS
theorem least_l1 (l0n : Nat) (l1 : List SPl) (l2 : List Int) (gap : Int) (start : List Int) (h1 : l1.length ≤ 100) (hlen : l1.length = l2.length) (h0 : l0n ≤ 60) (hg : 0 ≤ gap ∧ gap ≤ 1073741824) (hx : ∀ x ∈ cellsL l1 l2, InRows l0n x) (R : List Int × Int)
    (hR : ∀ out, Stands gap l0n start (blk (cellsL l1 l2) 1) out → Ev (fun k => purflingref16_Least.l2 k l1 l2 gap out (mostOfH (cellsL l1 l2)) 2) R) :
    ∀ (d i : Nat) (out : List Int), i + d = l1.length → Stands gap l0n start (blk ((cellsL l1 l2).take i) 1) out → Ev (fun k => purflingref16_Least.l1 k l1 l2 gap out (mostOfH ((cellsL l1 l2).take i)) (i : Int)) R
  | 0, i, out, hi, hS => by
    refine Ev.step (f := fun k => _) (fun k => by rw [purflingref16_Least.l1]) ?_
    rw [List.take_of_length_le (by rw [cellsL_length l1 l2 hlen]; omega)] at hS ⊢
    exact Base.Ev.neg (by omega) (hR out hS)
  | d + 1, i, out, hi, hS => by
    have hin : i < l1.length := by omega
    have hin2 : i < l2.length := by omega
    have hcl : i < (cellsL l1 l2).length := by rw [cellsL_length l1 l2 hlen]; exact hin
    have hc := cellsL_at l1 l2 i hin hin2 hcl
    have hxi := hx _ (List.getElem_mem hcl)
    rw [hc] at hxi
    have e : wrap64 ((i : Int) + 1) = ((i + 1 : Nat) : Int) := by rw [wrap_id (by omega) (by omega)]; rfl
    have et := blk_take (cellsL l1 l2) 1 i hcl
    have em := mostOfH_take (cellsL l1 l2) i hcl
    have er : rd l2 (i : Int) = l2[i] := by rw [rd_nat, List.getElem?_eq_getElem hin2]; rfl
    rw [hc] at et em
    refine Ev.step (f := fun k => _) (fun k => by rw [purflingref16_Least.l1]) ?_
    rw [rdP l1 i hin, e, er]
    dsimp only at em
    rw [← em]
    refine Base.Ev.pos (by omega) (Base.Ev.pos (by omega) ?_)
    have hxi' := hxi
    obtain ⟨q1, q2, q3, q4, q5⟩ := hxi'
    dsimp only at q1 q2 q3 q4 q5
    have hol := hS.len
    by_cases c : l1[i].f3 = 1
    · have hst : stepH gap out ⟨l1[i], l2[i]⟩ = some (out.set l1[i].f1.toNat (mx (rd out l1[i].f1) l2[i])) := by
        have er2 : rd out l1[i].f1 = out[l1[i].f1.toNat]?.getD 0 := by
          rw [← rd_nat]
          congr 1
          omega
        rw [er2]
        exact if_pos c
      have hS2 := hS.step (by omega) hg.1 ⟨l1[i], l2[i]⟩ hxi _ hst
      rw [← if_pos (c := l1[i].f3 = 1) (t := [(⟨l1[i], l2[i]⟩ : HCell)]) (e := []) c, ← et] at hS2
      exact Base.Ev.pos c (Base.Ev.pos q1 (Base.Ev.pos (by omega) (Base.Ev.pos (by omega) (least_l1 l0n l1 l2 gap start h1 hlen h0 hg hx R hR d (i + 1) _ (by omega) hS2))))
    · rw [if_neg c, List.append_nil] at et
      rw [← et] at hS
      exact Base.Ev.neg c (least_l1 l0n l1 l2 gap start h1 hlen h0 hg hx R hR d (i + 1) out (by omega) hS)
theorem least_l0 (l0 : List Int) (l1 : List SPl) (l2 : List Int) (gap : Int) (h0 : l0.length ≤ 60) (R : List Int × Int) (hR : Ev (fun k => purflingref16_Least.l1 k l1 l2 gap (l0.map (fun n => mx n 0)) 1 0) R) :
    ∀ (d i : Nat), i + d = l0.length → Ev (fun k => purflingref16_Least.l0 k l0 l1 l2 gap ((l0.map (fun n => mx n 0)).take i) (i : Int)) R
  | 0, i, hi => by
    refine Ev.step (f := fun k => _) (fun k => by rw [purflingref16_Least.l0]) ?_
    rw [List.take_of_length_le (by rw [List.length_map]; omega)]
    exact Base.Ev.neg (by omega) hR
  | d + 1, i, hi => by
    have hin : i < l0.length := by omega
    have e : wrap64 ((i : Int) + 1) = ((i + 1 : Nat) : Int) := by rw [wrap_id (by omega) (by omega)]; rfl
    have him : i < (l0.map (fun n => mx n 0)).length := by rw [List.length_map]; exact hin
    have et := List.take_succ_eq_append_getElem him
    have er : (l0.map (fun n => mx n 0))[i] = mx (rd l0 (i : Int)) 0 := by
      rw [List.getElem_map, rd_nat, List.getElem?_eq_getElem hin]
      rfl
    rw [er] at et
    have ih := least_l0 l0 l1 l2 gap h0 R hR d (i + 1) (by omega)
    rw [et] at ih
    refine Ev.step (f := fun k => _) (fun k => by rw [purflingref16_Least.l0]) ?_
    rw [e]
    exact Base.Ev.pos (by omega) (Base.Ev.pos (by omega) (Base.Ev.pos (by rw [List.length_take]; omega) ih))
/-- The document's answer is the program's. -/
theorem refLeast_both (l0 : List Int) (l1 : List SPl) (l2 : List Int) (a3 : Int) (h0 : l0.length ≤ 60) (h1 : l1.length ≤ 100) : ∃ a e, a.length ≤ 8000 ∧ heights_Least.f l0 l1 l2 a3 = some (a, e) ∧ Ev (fun k => purflingref16_Least.f k l0 l1 l2 a3) (a, e) := by
  have hright := refRight l0 l1 l2 a3 h0 h1
  by_cases h : leastOk l0 l1 l2 a3 = true
  · obtain ⟨o, hf, hT, hN, _⟩ := least_answer (by omega) h
    have hr : rightH l0 l1 l2 a3 = true := by
      unfold leastOk at h
      rw [Bool.and_eq_true] at h
      exact h.1
    obtain ⟨q1, q2, q3, q4⟩ := right_cells hr
    have hol : o.length = l0.length := by rw [hN.len, List.length_map]
    refine ⟨o, 0, by omega, hf, ?_⟩
    have hge := foldl_mx_ge (cellsL l1 l2) 1
    have hfr : ∀ x ∈ cellsL l1 l2, x.f0.f3 ≤ (l0.length : Int) := fun x hx => by
      obtain ⟨p1, p2, p3, _⟩ := q4 x hx
      omega
    have hM : 1 ≤ mostOfH (cellsL l1 l2) := hge.1
    have hM2 : mostOfH (cellsL l1 l2) ≤ 60 := foldl_mx_le 60 _ (fun x hx => by have := hfr x hx; omega) 1 (by omega)
    obtain ⟨M, hMe⟩ : ∃ M : Nat, mostOfH (cellsL l1 l2) = (M : Int) := ⟨(mostOfH (cellsL l1 l2)).toNat, by omega⟩
    have hfin : leastT a3 (blks (cellsL l1 l2) M) (l0.map (fun n => mx n 0)) = some o := by
      rw [← hT]
      unfold leastR
      rw [cells_blks, blks_same (cellsL l1 l2) l0.length M hfr (fun x hx => by rw [← hMe]; exact hge.2 x hx)]
    have hend := least_l1 l0.length l1 l2 a3 (l0.map (fun n => mx n 0)) h1 q1 h0 ⟨q2, q3⟩ q4 (o, 0) (fun out hS => by
      rw [hMe]
      have := least_l2 l0.length l1 l2 a3 (l0.map (fun n => mx n 0)) M h1 q1 h0 (by omega) ⟨q2, q3⟩ q4 o hfin (M - 1) 1 out (by omega) (by
        rw [blks_succ, show blks (cellsL l1 l2) 0 = [] from rfl, List.nil_append, show (1 : Int) + ((0 : Nat) : Int) = 1 by omega]
        exact hS) (Nat.le_refl _)
      exact this) l1.length 0 (l0.map (fun n => mx n 0)) (by omega) ⟨by rw [List.take_zero]; rfl, List.length_map _, start_wide (wants_of hr)⟩
    have hmid := least_l0 l0 l1 l2 a3 h0 (o, 0) (by
      rw [List.take_zero] at hend
      exact hend) l0.length 0 (by omega)
    rw [h] at hright
    unfold purflingref16_Least.f
    refine Ev.bind hright (Base.Ev.pos rfl ?_)
    rw [decide_eq_false (by omega)]
    refine Ev.step (f := fun k => _) (fun k => by rw [purflingref16_Least.j0]) ?_
    exact Base.Ev.neg (by decide) hmid
  · refine ⟨[], 160, by simp, least_wrong (by omega) h, ?_⟩
    rw [Bool.not_eq_true] at h
    rw [h] at hright
    unfold purflingref16_Least.f
    refine Ev.bind hright (Base.Ev.neg (by decide) ?_)
    refine Ev.step (f := fun k => _) (fun k => by rw [purflingref16_Least.j0]) ?_
    exact Base.Ev.pos rfl (Ev.now _)
end Go.Proofs.Ytgghbmhmpkeccaa.Base
