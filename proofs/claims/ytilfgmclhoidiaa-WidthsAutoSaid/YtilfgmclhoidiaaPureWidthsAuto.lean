/- WidthsAuto: with enough rounds the check says true at all bands and totals: the program's automatic widths are the document's. Condition: the numbers are of 64 bits. -/
import Derived.Test.YtilfgmclhoidiaaPAx24
import Derived.Test.YtilfgmclhoidiaaPAx23
import Derived.Test.YtilfgmclhoidiaaAuto
import Derived.Test.YtilfgmclhoidiaaThree
namespace Go.Proofs.Ytilfgmclhoidiaa.Base
open Go.RowKit Go.Proofs.Ytilfgmclhoidiaa.PA Go.Proofs.YtilfgmclhoidiaaW.PrintWords Go.Proofs.YtilfgmclhoidiaaW.PrintLast Go.Proofs.YtilfgmclhoidiaaW.PrintMore Go.Proofs.Ytilfgmclhoidiaa.Pure
theorem wish_ref (t : Int) (b : S35) (hb : Okb b) (ht0 : 0 ≤ t) (ht : t ≤ 576460752303423488) : Ev (fun k => purflingref15_wish.f k b.f0 b.f1 b.f2 b.f3 t) (wishOf t b) := by
  obtain ⟨h1, h2, h3, h4, h5, h6, h7, h8⟩ := hb
  unfold purflingref15_wish.f wishOf
  by_cases c : b.f2 < 0
  · rw [if_pos c]
    exact Base.Ev.neg (by omega) (Base.Ev.val rfl)
  · rw [if_neg c]
    have hp := refPart_ev b.f2 t ⟨by omega, by omega⟩ ⟨ht0, by omega⟩
    refine Base.Ev.pos (by omega) (Ev.bind hp (Base.Ev.val ?_))
    unfold partV
    generalize mn (b.f2 * t / 10000) 9223372036854775807 = v
    unfold mx mn
    (repeat' split) <;> omega
/-! Who is free, by the document. -/
theorem member_l1 (l : List S35) (hl : l.length ≤ 100) (some few : Bool) (hs : some = l.any (condP 0)) (hf : few = l.any (condP 1)) : ∀ (d i : Nat), i + d = l.length →
    Ev (fun k => purflingref15_member.l1 k l some few ((ins l).take i) (i : Int)) (ins l)
  | 0, i, h => by
    refine Ev.step (f := fun k => _) (fun k => by rw [purflingref15_member.l1]) ?_
    rw [List.take_of_length_le (by simp [ins]; omega)]
    exact Base.Ev.neg (by omega) (Base.Ev.val rfl)
  | d + 1, i, h => by
    have hi : i < l.length := by omega
    have ih := member_l1 l hl some few hs hf d (i + 1) (by omega)
    have e1 : (ins l).take (i + 1) = (ins l).take i ++ [inB l l[i]] := take_map _ l i hi
    rw [e1] at ih
    have e2 : inB l l[i] = if some = true then condP 0 l[i] else if few = true then condP 1 l[i] else true := by
      unfold inB
      rw [hs, hf]
    have hlen : ((ins l).take i).length < 140737488355328 := by rw [List.length_take]; omega
    refine Ev.step (f := fun k => _) (fun k => by rw [purflingref15_member.l1, rdT l i hi, next (by omega)]) ?_
    refine Base.Ev.pos (by omega) (Base.Ev.pos (by omega) ?_)
    have h1 : l[i].f2 < 0 → few = true := fun h => by rw [hf]; exact List.any_eq_true.2 ⟨_, List.getElem_mem hi, decide_eq_true h⟩
    have h0 : l[i].f2 < 0 → l[i].f3 < 0 → some = true := fun h h' => by rw [hs]; exact List.any_eq_true.2 ⟨_, List.getElem_mem hi, by simp [condP, h, h']⟩
    rw [e2] at ih
    by_cases c : l[i].f2 < 0
    · have hfe := h1 c
      refine Base.Ev.pos c ?_
      by_cases c3 : l[i].f3 < 0
      · have hse := h0 c c3
        rw [hse, if_pos rfl, show condP 0 l[i] = true by simp [condP, c, c3]] at ih
        rw [hse]
        exact Base.Ev.pos c3 (Base.Ev.pos hlen ih)
      · refine Base.Ev.neg c3 ?_
        cases hse : some with
        | true =>
          rw [hse, if_pos rfl, show condP 0 l[i] = false by simp [condP, c3]] at ih
          exact Base.Ev.pos rfl (Base.Ev.pos hlen ih)
        | false =>
          rw [hse, if_neg (by simp), if_pos hfe, show condP 1 l[i] = true by simp [condP, c]] at ih
          exact Base.Ev.neg (by simp) (Base.Ev.pos hlen ih)
    · refine Base.Ev.neg c ?_
      cases hse : some with
      | true =>
        rw [hse, if_pos rfl, show condP 0 l[i] = false by simp [condP, c]] at ih
        exact Base.Ev.pos rfl (Base.Ev.pos hlen ih)
      | false =>
        rw [hse, if_neg (by simp)] at ih
        refine Base.Ev.neg (by simp) (Base.Ev.pos hlen ?_)
        cases hfe : few with
        | true =>
          rw [hfe, if_pos rfl, show condP 1 l[i] = false by simp [condP, c]] at ih
          exact ih
        | false =>
          rw [hfe, if_neg (by simp)] at ih
          exact ih
theorem member_l0 (l : List S35) (hl : l.length ≤ 100) : ∀ (d i : Nat), i + d = l.length →
    Ev (fun k => purflingref15_member.l0 k l ((l.take i).any (condP 0)) ((l.take i).any (condP 1)) (i : Int)) (ins l)
  | 0, i, h => by
    refine Ev.step (f := fun k => _) (fun k => by rw [purflingref15_member.l0]) ?_
    rw [List.take_of_length_le (by omega)]
    have h0 := member_l1 l hl _ _ rfl rfl l.length 0 (by omega)
    exact Base.Ev.neg (by omega) h0
  | d + 1, i, h => by
    have hi : i < l.length := by omega
    have ih := member_l0 l hl d (i + 1) (by omega)
    have e : ∀ p : S35 → Bool, (l.take (i + 1)).any p = ((l.take i).any p || p l[i]) := by
      intro p
      rw [List.take_succ_eq_append_getElem hi, List.any_append]
      simp
    rw [e, e] at ih
    refine Ev.step (f := fun k => _) (fun k => by rw [purflingref15_member.l0, rdT l i hi, next (by omega)]) ?_
    refine Base.Ev.pos (by omega) ?_
    generalize (l.take i).any (condP 0) = s at ih ⊢
    generalize (l.take i).any (condP 1) = f at ih ⊢
    have hz : (0 : Int) ≤ (i : Int) := by omega
    cases s with
    | true =>
      refine Base.Ev.pos rfl ?_
      cases f with
      | true => exact Base.Ev.pos rfl (by simpa using ih)
      | false => exact Base.Ev.neg (by simp) (Base.Ev.pos hz (by simpa [condP] using ih))
    | false =>
      refine Base.Ev.neg (by simp) (Base.Ev.pos hz ?_)
      by_cases c : l[i].f2 < 0
      · refine Base.Ev.pos c ?_
        cases f with
        | true => exact Base.Ev.pos rfl (by simpa [condP, c] using ih)
        | false => exact Base.Ev.neg (by simp) (by simpa [condP, c] using ih)
      · refine Base.Ev.neg c ?_
        cases f with
        | true => exact Base.Ev.pos rfl (by simpa [condP, c] using ih)
        | false => exact Base.Ev.neg (by simp) (by simpa [condP, c] using ih)
theorem member_ev (l : List S35) (hl : l.length ≤ 100) : Ev (fun k => purflingref15_member.f k l) (ins l) := by
  have h := member_l0 l hl l.length 0 (by omega)
  exact h
/-- The document's weights, one for each band. -/
def freeW (l : List S35) : List Int := if l.any (condP 0) = true then l.map (fun b => if condP 0 b = true then b.f1 else 0) else if l.any (condP 1) = true then l.map (fun b => if condP 1 b = true then b.f1 else 0) else maxs l
theorem freeW_0 {l : List S35} (h : l.any (condP 0) = true) : freeW l = l.map (fun b => if condP 0 b = true then b.f1 else 0) := if_pos h
theorem freeW_1 {l : List S35} (h : ¬ l.any (condP 0) = true) (h1 : l.any (condP 1) = true) : freeW l = l.map (fun b => if condP 1 b = true then b.f1 else 0) := (if_neg h).trans (if_pos h1)
theorem freeW_2 {l : List S35} (h : ¬ l.any (condP 0) = true) (h1 : ¬ l.any (condP 1) = true) : freeW l = maxs l := (if_neg h).trans (if_neg h1)
theorem freeW_length (l : List S35) : (freeW l).length = l.length := by
  unfold freeW maxs
  (repeat' split) <;> simp
theorem freeW_at (l : List S35) (i : Nat) (h : i < l.length) (hin : inB l l[i] = true) : (freeW l)[i]?.getD 0 = l[i].f1 := by
  unfold inB at hin
  unfold freeW maxs
  by_cases c0 : l.any (condP 0) = true
  · rw [if_pos c0] at hin ⊢
    simp [h, hin]
  · rw [if_neg c0] at hin ⊢
    by_cases c1 : l.any (condP 1) = true
    · rw [if_pos c1] at hin ⊢
      simp [h, hin]
    · rw [if_neg c1]
      simp [h]
theorem free_l (l : List S35) (hl : l.length ≤ 100) : ∀ (d i : Nat), i + d = l.length →
    Ev (fun k => purflingref15_free.l0 k l ((l.map (fun b => if condP 0 b = true then b.f1 else 0)).take i) ((l.map (fun b => if condP 1 b = true then b.f1 else 0)).take i) ((maxs l).take i) ((l.take i).any (condP 0)) ((l.take i).any (condP 1)) (i : Int)) (freeW l)
  | 0, i, h => by
    refine Ev.step (f := fun k => _) (fun k => by rw [purflingref15_free.l0]) ?_
    rw [List.take_of_length_le (l := l) (by omega), List.take_of_length_le (l := l.map _) (by simp; omega), List.take_of_length_le (l := l.map _) (by simp; omega), List.take_of_length_le (l := maxs l) (by simp [maxs]; omega)]
    refine Base.Ev.neg (by omega) ?_
    by_cases c0 : l.any (condP 0) = true
    · rw [freeW_0 c0]
      exact Base.Ev.pos c0 (Base.Ev.val rfl)
    · by_cases c1 : l.any (condP 1) = true
      · rw [freeW_1 c0 c1]
        exact Base.Ev.neg c0 (Base.Ev.pos c1 (Base.Ev.val rfl))
      · rw [freeW_2 c0 c1]
        exact Base.Ev.neg c0 (Base.Ev.neg c1 (Base.Ev.val rfl))
  | d + 1, i, h => by
    have hi : i < l.length := by omega
    have ih := free_l l hl d (i + 1) (by omega)
    have e : ∀ p : S35 → Bool, (l.take (i + 1)).any p = ((l.take i).any p || p l[i]) := by
      intro p
      rw [List.take_succ_eq_append_getElem hi, List.any_append]
      simp
    have e3 : (maxs l).take (i + 1) = (maxs l).take i ++ [l[i].f1] := take_map _ l i hi
    rw [e, e, take_map _ l i hi, take_map _ l i hi, e3] at ih
    have n1 : ∀ f : S35 → Int, ((l.map f).take i).length < 17592186044416 := fun f => by rw [List.length_take]; simp; omega
    have n2 : ((maxs l).take i).length < 17592186044416 := n1 _
    have h1 := n1 (fun b => if condP 0 b = true then b.f1 else 0)
    have h2 := n1 (fun b => if condP 1 b = true then b.f1 else 0)
    clear n1 e e3
    refine Ev.step (f := fun k => _) (fun k => by rw [purflingref15_free.l0, rdT l i hi, next (by omega)]) ?_
    refine Base.Ev.pos (by omega) (Base.Ev.pos (by omega) ?_)
    by_cases c : l[i].f2 < 0
    · refine Base.Ev.pos c ?_
      by_cases c3 : l[i].f3 < 0
      · refine Base.Ev.pos c3 (Base.Ev.pos h1 (Base.Ev.pos h2 (Base.Ev.pos n2 ?_)))
        simpa [condP, c, c3] using ih
      · refine Base.Ev.neg c3 (Base.Ev.pos h1 (Base.Ev.pos h2 (Base.Ev.pos n2 ?_)))
        simpa [condP, c, c3] using ih
    · refine Base.Ev.neg c (Base.Ev.pos h1 (Base.Ev.pos h2 (Base.Ev.pos n2 ?_)))
      simpa [condP, c] using ih
theorem free_ev (l : List S35) (hl : l.length ≤ 100) : Ev (fun k => purflingref15_free.f k l) (freeW l) := by
  have h := free_l l hl l.length 0 (by omega)
  exact h
/-! The document's loops. -/
theorem refAuto_l0 (l : List S35) (hl : l.length ≤ 100) (hk : ∀ b ∈ l, Okb b) (t least : Int) (ht0 : 0 ≤ t) (ht : t ≤ 576460752303423488) (R : List Int × Int)
    (hend : Ev (fun k => if sSum (wishes t l) 0 > t then ((purflingref01_Share.f k (wrap64 (t - least)) (mores t l)).bind fun bt393 => (purflingref15_Auto.l1 k l (wishes t l) bt393.1 0)) else ((purflingref15_member.f k l).bind fun t400 => ((purflingref15_free.f k l).bind fun t403 => (purflingref15_Auto.l2 k l t (wishes t l) (sSum (wishes t l) 0) ([] : List Int) t400 t403 0)))) R) :
    ∀ (d i : Nat), i + d = l.length → Ev (fun k => purflingref15_Auto.l0 k l t least ((wishes t l).take i) ((mores t l).take i) (sSum ((wishes t l).take i) 0) (i : Int)) R
  | 0, i, h => by
    refine Ev.step (f := fun k => _) (fun k => by rw [purflingref15_Auto.l0]) ?_
    rw [List.take_of_length_le (by unfold wishes; simp; omega), List.take_of_length_le (by unfold mores; simp; omega)]
    exact Base.Ev.neg (by omega) hend
  | d + 1, i, h => by
    have hi : i < l.length := by omega
    have ho := hk l[i] (List.getElem_mem hi)
    have hw := wish_ref t l[i] ho ht0 ht
    have hb := wish_bound t l[i] ho ht
    have h0 := ho.min0
    have ih := refAuto_l0 l hl hk t least ht0 ht R hend d (i + 1) (by omega)
    have e1 : (wishes t l).take (i + 1) = (wishes t l).take i ++ [wishOf t l[i]] := take_map _ l i hi
    have e2 : (mores t l).take (i + 1) = (mores t l).take i ++ [mn (wishOf t l[i] - l[i].f0) 1125899906842623] := take_map _ l i hi
    have e3 : wrap64 (wishOf t l[i] - l[i].f0) = wishOf t l[i] - l[i].f0 := wrap_id (by omega) (by omega)
    have e4 : sSum ((wishes t l).take i ++ [wishOf t l[i]]) 0 = sat (sSum ((wishes t l).take i) 0 + wishOf t l[i]) := by
      unfold sSum
      rw [List.foldl_append]
      rfl
    rw [e1, e2, e4] at ih
    refine Ev.step (f := fun k => _) (fun k => by rw [purflingref15_Auto.l0, rdT l i hi, next (by omega)]) ?_
    refine Base.Ev.pos (by omega) (Base.Ev.pos (by omega) (Ev.bind hw ?_))
    rw [e3]
    refine Base.Ev.pos (by rw [List.length_take]; omega) (Base.Ev.pos (by rw [List.length_take]; omega) (Ev.bind (sum_ev _ _ (sSum_i64 _ _ (by unfold i64; omega)) (by unfold i64; omega)) ih))
theorem refAuto_l1 (l : List S35) (hl : l.length ≤ 100) (hk : ∀ b ∈ l, Okb b) (ws o : List Int) (hws : ws.length = l.length) (ho : o.length = l.length) (B : Int) (hB : ∀ x ∈ o, 0 ≤ x ∧ x ≤ B) (hB2 : B ≤ 1152921504606846976) :
    ∀ (d i : Nat), i + d = l.length → Ev (fun k => purflingref15_Auto.l1 k l ((baseAdd l o).take i ++ ws.drop i) o (i : Int)) (baseAdd l o, 0)
  | 0, i, h => by
    have hbl : (baseAdd l o).length = l.length := by simp [baseAdd, mins]; omega
    refine Ev.step (f := fun k => _) (fun k => by rw [purflingref15_Auto.l1]) ?_
    rw [List.take_of_length_le (by omega), List.drop_of_length_le (by omega), List.append_nil]
    exact Base.Ev.neg (by omega) (Base.Ev.val rfl)
  | d + 1, i, h => by
    have hbl : (baseAdd l o).length = l.length := by simp [baseAdd, mins]; omega
    have hi : i < l.length := by omega
    have ih := refAuto_l1 l hl hk ws o hws ho B hB hB2 d (i + 1) (by omega)
    have hob := hk l[i] (List.getElem_mem hi)
    have hy := hB _ (getD_mem o i (by omega))
    have h0 := hob.min0
    have h1 := hob.minmax
    have h2 := hob.max
    have ev : (baseAdd l o)[i]'(by omega) = l[i].f0 + o[i] := by simp [baseAdd, mins]
    have e2 : wrap64 (l[i].f0 + rd o (i : Int)) = l[i].f0 + o[i] := by
      rw [rd_nat, List.getElem?_eq_getElem (by omega), Option.getD_some]
      rw [List.getElem?_eq_getElem (by omega), Option.getD_some] at hy
      exact wrap_id (by omega) (by omega)
    have hst : ((baseAdd l o).take i ++ ws.drop i).set i (l[i].f0 + o[i]) = (baseAdd l o).take (i + 1) ++ ws.drop (i + 1) := by
      rw [List.drop_eq_getElem_cons (show i < ws.length by omega), List.set_append_right _ _ (by rw [List.length_take]; omega), List.length_take, Nat.min_eq_left (by omega), Nat.sub_self, List.set_cons_zero, List.take_succ_eq_append_getElem (show i < (baseAdd l o).length by omega), ev, List.append_assoc]
      rfl
    rw [← hst] at ih
    refine Ev.step (f := fun k => _) (fun k => by rw [purflingref15_Auto.l1, rdT l i hi, e2, Int.toNat_natCast, next (by omega)]) ?_
    refine Base.Ev.pos (by omega) (Base.Ev.pos (by omega) (Base.Ev.pos (by omega) (Base.Ev.pos ?_ ih)))
    rw [List.length_append, List.length_take, List.length_drop]
    omega
/-- How many of the first i are free. -/
def rank (b : List Bool) (i : Nat) : Nat := ((b.take i).filter id).length
theorem pos_rank : ∀ (b : List Bool) (i : Nat), i < b.length → b[i]?.getD false = true → (pos b)[rank b i]? = some i ∧ rank b (i + 1) = rank b i + 1
  | [], i, h, _ => by simp at h
  | true :: b, 0, _, _ => by simp [pos, rank]
  | false :: b, 0, _, h => by simp at h
  | true :: b, i + 1, h, hb => by
    obtain ⟨h1, h2⟩ := pos_rank b i (by simpa using h) (by simpa using hb)
    have e : ∀ j, rank (true :: b) (j + 1) = rank b j + 1 := fun j => by simp [rank]
    rw [e, e]
    refine ⟨?_, by rw [h2]⟩
    simp [pos, h1]
  | false :: b, i + 1, h, hb => by
    obtain ⟨h1, h2⟩ := pos_rank b i (by simpa using h) (by simpa using hb)
    have e : ∀ j, rank (false :: b) (j + 1) = rank b j := fun j => by simp [rank]
    rw [e, e]
    refine ⟨?_, h2⟩
    simp [pos, h1]
theorem rank_no : ∀ (b : List Bool) (i : Nat), i < b.length → b[i]?.getD false = false → rank b (i + 1) = rank b i := by
  intro b i h hb
  unfold rank
  rw [List.take_succ_eq_append_getElem h, List.filter_append]
  rw [List.getElem?_eq_getElem h, Option.getD_some] at hb
  simp [hb]
theorem rank_all : ∀ (b : List Bool), rank b b.length = (pos b).length
  | [] => rfl
  | true :: b => by
    have := rank_all b
    simp [rank, pos] at this ⊢
    omega
  | false :: b => by
    have := rank_all b
    simp [rank, pos] at this ⊢
    omega
theorem rank_le (b : List Bool) (i : Nat) : rank b i ≤ i := by
  unfold rank
  refine Nat.le_trans (List.length_filter_le _ _) ?_
  rw [List.length_take]
  omega
theorem rdB (b : List Bool) (i : Nat) : rdOf false b (i : Int) = b[i]?.getD false := by simp [rdOf]
theorem ins_at (l : List S35) (i : Nat) (h : i < l.length) : (ins l)[i]?.getD false = inB l l[i] := by simp [ins, h]
theorem refAuto_l2 (l : List S35) (hl : l.length ≤ 100) (t S : Int) (ws : List Int) (R : List Int × Int)
    (hend : Ev (fun k => (purflingref01_Share.f k (wrap64 (t - S)) (wts l)).bind fun bt411 => (purflingref15_Auto.l3 k l ws (ins l) bt411.1 0 0)) R) :
    ∀ (d i : Nat), i + d = l.length → Ev (fun k => purflingref15_Auto.l2 k l t ws S ((wts l).take (rank (ins l) i)) (ins l) (freeW l) (i : Int)) R
  | 0, i, h => by
    have hil : (ins l).length = l.length := by simp [ins]
    have hr : rank (ins l) i = (pos (ins l)).length := by rw [← rank_all, hil, show i = l.length by omega]
    refine Ev.step (f := fun k => _) (fun k => by rw [purflingref15_Auto.l2]) ?_
    rw [hr, List.take_of_length_le (by unfold wts; simp)]
    exact Base.Ev.neg (by omega) hend
  | d + 1, i, h => by
    have hi : i < l.length := by omega
    have hil : (ins l).length = l.length := by simp [ins]
    have hfl := freeW_length l
    have ih := refAuto_l2 l hl t S ws R hend d (i + 1) (by omega)
    have hia := ins_at l i hi
    refine Ev.step (f := fun k => _) (fun k => by rw [purflingref15_Auto.l2, rdB, hia, next (by omega)]) ?_
    refine Base.Ev.pos (by omega) (Base.Ev.pos (by omega) (Base.Ev.pos (by omega) ?_))
    cases hin : inB l l[i] with
    | true =>
      obtain ⟨h1, h2⟩ := pos_rank (ins l) i (by omega) (by rw [hia]; exact hin)
      have hlt : rank (ins l) i < (pos (ins l)).length := (List.getElem?_eq_some_iff.1 h1).1
      have e1 : (wts l).take (rank (ins l) i + 1) = (wts l).take (rank (ins l) i) ++ [l[i].f1] := by
        unfold wts
        rw [take_map _ _ _ hlt, (List.getElem?_eq_some_iff.1 h1).2, List.getElem?_eq_getElem hi]
        rfl
      have er : rd (freeW l) (i : Int) = l[i].f1 := by rw [rd_nat]; exact freeW_at l i hi hin
      have hr := rank_le (ins l) i
      rw [h2, e1] at ih
      refine Base.Ev.pos rfl (Base.Ev.pos (by omega) (Base.Ev.pos (by rw [List.length_take]; omega) ?_))
      rw [er]
      exact ih
    | false =>
      have h2 := rank_no (ins l) i (by omega) (by rw [hia]; exact hin)
      rw [h2] at ih
      exact Base.Ev.neg (by simp) ih
theorem refAuto_l3 (l : List S35) (hl : l.length ≤ 100) (ws o : List Int) (hws : ws.length = l.length) (ho : o.length = (pos (ins l)).length) (A B : Int) (hA : ∀ x ∈ ws, 0 ≤ x ∧ x ≤ A) (hB : ∀ x ∈ o, 0 ≤ x ∧ x ≤ B) (hB0 : 0 ≤ B) (hAB : A + B + B ≤ 9223372036854775807) :
    ∀ (d i : Nat), i + d = l.length → Ev (fun k => purflingref15_Auto.l3 k l (giveOn (ins l) ws (o.take (rank (ins l) i))) (ins l) o ((rank (ins l) i : Nat) : Int) (i : Int)) (giveOn (ins l) ws o, 0)
  | 0, i, h => by
    have hil : (ins l).length = l.length := by simp [ins]
    have hr : rank (ins l) i = (pos (ins l)).length := by rw [← rank_all, hil, show i = l.length by omega]
    refine Ev.step (f := fun k => _) (fun k => by rw [purflingref15_Auto.l3]) ?_
    rw [hr, List.take_of_length_le (by omega)]
    exact Base.Ev.neg (by omega) (Base.Ev.val rfl)
  | d + 1, i, h => by
    have hi : i < l.length := by omega
    have hil : (ins l).length = l.length := by simp [ins]
    have ih := refAuto_l3 l hl ws o hws ho A B hA hB hB0 hAB d (i + 1) (by omega)
    have hia := ins_at l i hi
    have hgl := giveOn_length (ins l) ws (o.take (rank (ins l) i))
    have hr := rank_le (ins l) i
    refine Ev.step (f := fun k => _) (fun k => by rw [purflingref15_Auto.l3, rdB, hia, next (i := i) (by omega), next (i := rank (ins l) i) (by omega), Int.toNat_natCast]) ?_
    refine Base.Ev.pos (by omega) (Base.Ev.pos (by omega) (Base.Ev.pos (by omega) ?_))
    cases hin : inB l l[i] with
    | true =>
      obtain ⟨h1, h2⟩ := pos_rank (ins l) i (by omega) (by rw [hia]; exact hin)
      have hlt : rank (ins l) i < (pos (ins l)).length := (List.getElem?_eq_some_iff.1 h1).1
      have hst := giveOn_step (ins l) ws o (rank (ins l) i) (by omega) (by omega) (by omega)
      rw [h1, Option.getD_some] at hst
      have hgb := giveOn_bound A B (ins l) ws (o.take (rank (ins l) i)) hA (fun x hx => hB x (List.mem_of_mem_take hx)) hB0
      have hx := hgb _ (getD_mem (giveOn (ins l) ws (o.take (rank (ins l) i))) i (by omega))
      have hy := hB _ (getD_mem o (rank (ins l) i) (by omega))
      have e2 : wrap64 (rd (giveOn (ins l) ws (o.take (rank (ins l) i))) (i : Int) + rd o ((rank (ins l) i : Nat) : Int)) = (giveOn (ins l) ws (o.take (rank (ins l) i)))[i]?.getD 0 + o[rank (ins l) i]?.getD 0 := by
        rw [rd_nat, rd_nat]
        exact wrap_id (by omega) (by omega)
      rw [h2, ← hst, ← e2] at ih
      exact Base.Ev.pos rfl (Base.Ev.pos (by omega) (Base.Ev.pos (by omega) (Base.Ev.pos (by omega) ih)))
    | false =>
      have h2 := rank_no (ins l) i (by omega) (by rw [hia]; exact hin)
      rw [h2] at ih
      exact Base.Ev.neg (by simp) ih
theorem refAuto_no (l : List S35) (t S : Int) : Ev (fun k => purflingref15_Auto.j0 k l t S true) ([], 130) := by
  refine Ev.step (f := fun k => _) (fun k => by rw [purflingref15_Auto.j0]) ?_
  exact Base.Ev.pos rfl (Base.Ev.val rfl)
theorem share_ref (total : Int) (m o : List Int) (hm : m.length ≤ 10000) (h : fixed_Share.f total m = some (o, 0)) : Ev (fun k => purflingref01_Share.f k total m) (o, 0) := by
  obtain ⟨o', e, h1, _, h2⟩ := share_both total m hm
  rw [h1] at h
  obtain ⟨rfl, rfl⟩ := Prod.mk.inj (Option.some.inj h)
  exact h2
/-- The document's widths are those of the program. -/
theorem auto_ref (l : List S35) (hl : l.length ≤ 100) (hg : ∀ b ∈ l, good35 b) (t : Int) (a : List Int) (h : autoOk l t) (ha : AutoIs l t a) : Ev (fun k => purflingref15_Auto.f k l t) (a, 0) := by
  obtain ⟨hne, hok, hle, ht⟩ := h
  have hk := bandsOk_mem hok
  obtain ⟨hm1, hm2⟩ := sum_min l hl hk
  have hlen : 0 < l.length := List.length_pos_iff.2 hne
  have hle' := hle
  rw [hm1] at hle'
  have ht0 : 0 ≤ t := by omega
  have hwb := wishes_bound t l hk ht
  have hwl : (wishes t l).length = l.length := by simp [wishes]
  have hml : (mores t l).length = l.length := by simp [mores]
  have hpl := pos_length_le (ins l)
  have hil : (ins l).length = l.length := by simp [ins]
  have hwtl : (wts l).length = (pos (ins l)).length := by simp [wts]
  have hws0 := sum_of_bound (wishes t l) _ hwb
  have hS : sSum (wishes t l) 0 = mn (wishes t l).sum 9223372036854775807 := by
    obtain ⟨v, hv, hv2⟩ := add_plain (wishes t l) (fun x hx => by have := hwb x hx; omega)
    have e : ∀ (m : List Int) (s : Int), i64 s → (∀ x ∈ m, i64 x) → m.foldl addStep s = sSum m s := by
      intro m
      induction m with
      | nil => intro s _ _; rfl
      | cons x m ih =>
        intro s hs hx
        show m.foldl addStep (addStep s x) = sSum m (sat (s + x))
        rw [step_sat s x hs (hx x (by simp)), ih (sat (s + x)) (sat_i64 _) (fun y hy => hx y (by simp [hy]))]
    have e2 := e (wishes t l) 0 (by unfold i64; omega) (fun x hx => by have := hwb x hx; unfold i64; omega)
    have e3 : v = sSum (wishes t l) 0 := by
      unfold fixed_Add.f addOut at hv
      rw [e2] at hv
      exact (Option.some.inj hv).symm
    have e4 := sSum_i64 (wishes t l) 0 (by unfold i64; omega)
    unfold i64 at e4
    rw [← e3] at e4 ⊢
    unfold mn
    split <;> omega
  unfold purflingref15_Auto.f
  refine Ev.bind (right_ref l (by omega)) (Ev.bind (sums_ref l (by omega) hg) (Base.Ev.pos hok (Base.Ev.neg (by omega) (Base.Ev.neg (by omega) ?_))))
  rw [decide_eq_false (by omega : ¬ t > 576460752303423488)]
  refine Ev.step (f := fun k => _) (fun k => by rw [purflingref15_Auto.j0]) ?_
  rw [hm1]
  have hstart := refAuto_l0 l hl hk t (mins l).sum ht0 ht (a, 0)
  refine Base.Ev.neg (by simp) (hstart ?_ l.length 0 (by omega))
  cases ha with
  | some o c ho fo e =>
    have hol : o.length = (pos (ins l)).length := by rw [fo.len, hwtl]
    have ev : sSum (wishes t l) 0 = (wishes t l).sum := by rw [hS]; unfold mn; split <;> omega
    rw [ev]
    refine Base.Ev.neg (by omega) (Ev.bind (member_ev l hl) (Ev.bind (free_ev l hl) ?_))
    have h2 := refAuto_l2 l hl t (wishes t l).sum (wishes t l) (a, 0) ?_ l.length 0 (by omega)
    · exact h2
    rw [wrap_id (n := t - (wishes t l).sum) (by omega) (by omega)]
    refine Ev.bind (share_ref _ _ _ (by omega) ho) ?_
    have h3 := refAuto_l3 l hl (wishes t l) o hwl hol 576460752303423488 576460752303423488 hwb (fun x hx => by have := fo.pos x hx; omega) (by omega) (by omega) l.length 0 (by omega)
    have e0 : rank (ins l) 0 = 0 := rfl
    rw [e0, List.take_zero, giveOn_nil] at h3
    rw [e]
    exact h3
  | few o c ho fo e =>
    have hol : o.length = l.length := by rw [fo.len, hml]
    have ev : sSum (wishes t l) 0 > t := by rw [hS]; unfold mn; split <;> omega
    refine Base.Ev.pos ev ?_
    rw [wrap_id (n := t - (mins l).sum) (by omega) (by omega)]
    refine Ev.bind (share_ref _ _ _ (by omega) ho) ?_
    have h1 := refAuto_l1 l hl hk (wishes t l) o hwl hol 576460752303423488 (fun x hx => by have := fo.pos x hx; omega) (by omega) l.length 0 (by omega)
    rw [e]
    exact h1
theorem auto_ref_no (l : List S35) (hl : l.length ≤ 100) (hg : ∀ b ∈ l, good35 b) (t : Int) (c : ¬ autoOk l t) : Ev (fun k => purflingref15_Auto.f k l t) ([], 130) := by
  unfold purflingref15_Auto.f
  refine Ev.bind (right_ref l (by omega)) (Ev.bind (sums_ref l (by omega) hg) ?_)
  by_cases c1 : bandsOk l = true
  · refine Base.Ev.pos c1 ?_
    by_cases c0 : (l.length : Int) = 0
    · exact Base.Ev.pos c0 (refAuto_no _ _ _)
    refine Base.Ev.neg c0 ?_
    by_cases c2 : t < (sums3 l).1
    · exact Base.Ev.pos c2 (refAuto_no _ _ _)
    · refine Base.Ev.neg c2 ?_
      have c3 : t > 576460752303423488 := by
        have hnn : l ≠ [] := fun e => c0 (by rw [e]; rfl)
        by_cases c4 : t ≤ 576460752303423488
        · exact absurd ⟨hnn, c1, by omega, c4⟩ c
        · omega
      rw [decide_eq_true c3]
      exact refAuto_no _ _ _
  · exact Base.Ev.neg c1 (refAuto_no _ _ _)
end Go.Proofs.Ytilfgmclhoidiaa.Base
namespace Go.Proofs.Ytilfgmclhoidiaa.Pure
open Go.RowKit Go.Proofs.Ytilfgmclhoidiaa.PA Go.Proofs.YtilfgmclhoidiaaW.PrintWords Go.Proofs.YtilfgmclhoidiaaW.PrintLast Go.Proofs.YtilfgmclhoidiaaW.PrintMore Go.Proofs.Ytilfgmclhoidiaa.Base
theorem WidthsAuto (l : List S35) (hg : ∀ b ∈ l, good35 b) (_ : l.length ≤ maxLen) (t : Int) (_ : (Lit.int .i64 t).wf = true) : ∃ k, purflinglaw15_WidthsAuto.f k l t = some true := by
  suffices h : Ev (fun k => purflinglaw15_WidthsAuto.f k l t) true from h.rounds
  unfold purflinglaw15_WidthsAuto.f
  rw [cut15]
  have hg' := take_good hg 100
  have hl : (l.take 100).length ≤ 100 := by rw [List.length_take]; omega
  generalize l.take 100 = l at *
  refine Ev.bind shown15_ev (Ev.bind (Ev.now _) ?_)
  rcases auto_prog l hl hg' t with ⟨hn, he⟩ | ⟨hy, a, ha, hi, hal⟩
  · refine Ev.bind he (Ev.bind (Ev.now _) (Ev.bind (auto_ref_no l hl hg' t hn) (Base.Ev.pos rfl (Ev.bind (same_self [] (by simp)) (Base.Ev.pos rfl (Base.Ev.val rfl))))))
  · refine Ev.bind ha (Ev.bind (Ev.now _) (Ev.bind (auto_ref l hl hg' t a hy hi) (Base.Ev.pos rfl (Ev.bind (same_self a (by omega)) (Base.Ev.pos rfl (Base.Ev.val rfl))))))
end Go.Proofs.Ytilfgmclhoidiaa.Pure
