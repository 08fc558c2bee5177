/- The plain laws that all these statements share: what the examples show, that Same tells equal lists, and that both evens are one list. No condition but those of the statements themselves. -/
import Derived.Test.YtgghbmhmpkeccaaPAx17
import Derived.Test.YtgghbmhmpkeccaaPAx21
import Derived.Test.YtgghbmhmpkeccaaBase
namespace Go.Proofs.Ytgghbmhmpkeccaa.Base
open Go.RowKit Go.Proofs.Ytgghbmhmpkeccaa.PA Go.Proofs.YtgghbmhmpkeccaaW.PrintWords Go.Proofs.YtgghbmhmpkeccaaW.PrintLast Go.Proofs.YtgghbmhmpkeccaaW.PrintMore
theorem Ev.pos {α : Type} {c : Prop} [Decidable c] {f g : Nat → Option α} {r : α} (hc : c) (h : Ev f r) : Ev (fun k => if c then f k else g k) r := h.congr (fun _ => if_pos hc)
theorem Ev.neg {α : Type} {c : Prop} [Decidable c] {f g : Nat → Option α} {r : α} (hc : ¬ c) (h : Ev g r) : Ev (fun k => if c then f k else g k) r := h.congr (fun _ => if_neg hc)
theorem Ev.val {α : Type} {r s : α} (h : r = s) : Ev (fun _ => some r) s := h ▸ Ev.now r
theorem rd_nat (l : List Int) (i : Nat) : rd l (i : Int) = l[i]?.getD 0 := by simp [rd]
theorem same_l (l m : List Int) (hlm : l.length = m.length) (hl : l.length ≤ 4611686018427387904) : ∀ (d i : Nat), i + d = l.length → Ev (fun k => purflingref01_Same.l0 k l m (i : Int)) (decide (l.drop i = m.drop i))
  | 0, i, h => by
    refine Ev.step (f := fun k => _) (fun k => by rw [purflingref01_Same.l0]) ?_
    refine Ev.neg (by omega) (Ev.val ?_)
    rw [List.drop_of_length_le (by omega), List.drop_of_length_le (by omega)]
    simp
  | d + 1, i, h => by
    refine Ev.step (f := fun k => _) (fun k => by rw [purflingref01_Same.l0]) ?_
    refine Ev.pos (by omega) (Ev.pos (by omega) (Ev.pos (by omega) ?_))
    have hi : i < l.length := by omega
    have hj : i < m.length := by omega
    have e : wrap64 ((i : Int) + 1) = ((i + 1 : Nat) : Int) := by rw [wrap_id (by omega) (by omega)]; rfl
    have ed : decide (l.drop i = m.drop i) = decide (l[i] = m[i] ∧ l.drop (i + 1) = m.drop (i + 1)) := by
      rw [decide_eq_decide, List.drop_eq_getElem_cons hi, List.drop_eq_getElem_cons hj, List.cons.injEq]
    rw [rd_nat, rd_nat, List.getElem?_eq_getElem hi, List.getElem?_eq_getElem hj, e, ed, Option.getD_some, Option.getD_some]
    by_cases c : l[i] = m[i]
    · refine Ev.pos c ?_
      have := same_l l m hlm hl d (i + 1) (by omega)
      rwa [show decide (l[i] = m[i] ∧ l.drop (i + 1) = m.drop (i + 1)) = decide (l.drop (i + 1) = m.drop (i + 1)) by rw [decide_eq_decide]; exact ⟨fun h => h.2, fun h => ⟨c, h⟩⟩]
    · refine Ev.neg c (Ev.val ?_)
      symm
      rw [decide_eq_false_iff_not]
      exact fun h => c h.1
/-- Same tells whether two lists are one. -/
theorem same_ev (l m : List Int) (hl : l.length ≤ 4611686018427387904) : Ev (fun k => purflingref01_Same.f k l m) (decide (l = m)) := by
  unfold purflingref01_Same.f
  by_cases c : l.length = m.length
  · refine Ev.pos (by omega) ?_
    exact same_l l m c hl l.length 0 (by omega)
  · refine Ev.neg (by omega) (Ev.val ?_)
    have : ¬ l = m := fun h => c (by rw [h])
    simp [this]
theorem same_self (l : List Int) (hl : l.length ≤ 4611686018427387904) : Ev (fun k => purflingref01_Same.f k l l) true := by
  have := same_ev l l hl
  simpa using this

/-! The sorted places. -/
def before (r : Nat → Int) (a b : Nat) : Prop := r b < r a ∨ (r a = r b ∧ a < b)
theorem sortedP_pw (r : Nat → Int) (n : Nat) : (sortedP r n).toList.Pairwise (before r) := by
  obtain ⟨hs, hp, ho⟩ := sortedP_facts r n
  have hn : (sortedP r n).toList.Nodup := hp.nodup_iff.2 List.nodup_range
  rw [List.pairwise_iff_getElem]
  intro i j hi hj hij
  rw [Array.length_toList] at hi hj
  have h1 := ho i j (Nat.zero_le _) hij (by omega)
  have e : ¬ (sortedP r n).toList[i]'(by simpa using hi) = (sortedP r n).toList[j]'(by simpa using hj) := by
    intro e
    have := (List.getElem_inj hn).1 e
    omega
  rw [Array.getElem_toList, Array.getElem_toList] at e ⊢
  rw [getElem!_pos (sortedP r n) i hi, getElem!_pos (sortedP r n) j hj, ltP] at h1
  rw [decide_eq_false_iff_not] at h1
  unfold before
  omega
theorem before_asymm (r : Nat → Int) (a b : Nat) (h1 : before r a b) (h2 : before r b a) : a = b := by unfold before at *; omega
theorem sortedP_const (r : Nat → Int) (n : Nat) (c : Int) (h : ∀ i, i < n → r i = c) : (sortedP r n).toList = List.range n := by
  obtain ⟨hs, hp, _⟩ := sortedP_facts r n
  refine hp.eq_of_pairwise (le := before r) (fun a b _ _ => before_asymm r a b) (sortedP_pw r n) ?_
  rw [List.pairwise_iff_getElem]
  intro i j hi hj hij
  simp only [List.getElem_range]
  rw [List.length_range] at hi hj
  exact .inr ⟨by rw [h i hi, h j hj], hij⟩

/-! Even. -/
theorem sum_const (c : Int) : ∀ n : Nat, ((List.range n).map (fun _ => c)).sum = n * c
  | 0 => by simp
  | n + 1 => by
    rw [List.range_succ, List.map_append, List.sum_append, sum_const c n, Int.natCast_succ, Int.add_mul]
    simp
theorem ones (total : Int) (n : Nat) (h : mayShare total n) : Facts total (List.replicate n 1) where
  may := by rw [List.length_replicate]; exact h
  good := fun x hx => by rw [(List.mem_replicate.1 hx).2]; omega
  pos := by have := h.2.2.1; simp; omega
def evens (total : Int) (n : Nat) : List Int := (List.range n).map (fun i : Nat => total / n + if (i : Int) < total % n then 1 else 0)
theorem evenOut_eq (total : Int) (n : Nat) (h : mayShare total n) : evenOut total n = evens total n := by
  have f := ones total n h
  have hs := f.share
  have hn : (0 : Int) < n := h.2.2.1
  have hsum : (List.replicate n (1 : Int)).sum = n := by simp
  have hq : ∀ i, i < n → qOf total (List.replicate n 1) i = total / n := by
    intro i hi
    unfold qOf
    rw [hsum]
    simp [hi]
  have hr : ∀ i, i < n → rOf total (List.replicate n 1) i = total % n := by
    intro i hi
    unfold rOf
    rw [hsum]
    simp [hi]
  have hqs : qSum total (List.replicate n 1) = n * (total / n) := by
    unfold qSum
    rw [List.length_replicate, sum_congr _ (fun _ => total / n) _ (fun i hi => hq i (by simpa using hi)), sum_const]
  have hrest : total - qSum total (List.replicate n 1) = total % n := by
    rw [hqs]
    have := Int.emod_add_mul_ediv total n
    omega
  have hm0 := Int.emod_nonneg total (b := n) (by omega)
  have hm1 := Int.emod_lt_of_pos total hn
  have e : evenOut total n = shareOut total (List.replicate n 1) := by
    unfold evenOut shareOut
    rw [List.length_replicate]
  rw [e, hs, hrest, List.length_replicate, sortedP_const _ n (total % n) hr]
  unfold bump evens
  apply List.ext_getElem
  · simp
  · intro i h1 h2
    have hi : i < n := by simpa using h2
    rw [List.getElem_mapIdx, List.getElem_map, List.getElem_map, List.getElem_range, hq i hi]
    congr 1
    have : (i ∈ (List.range n).take (total % n).toNat) ↔ (i : Int) < total % n := by
      rw [List.take_range, List.mem_range]
      omega
    simp only [this]
theorem evens_length (total : Int) (n : Nat) : (evens total n).length = n := by simp [evens]
theorem shared_eq (a n : Int) : purflingref01_shared.f a n = some (decide (mayShare a n)) := by
  unfold purflingref01_shared.f
  by_cases h1 : 0 ≤ a
  · rw [if_pos h1]
    by_cases h2 : a < 1152921504606846976
    · rw [if_pos h2]
      by_cases h3 : n ≥ 1
      · rw [if_pos h3]
        congr 1
        rw [decide_eq_decide]
        unfold mayShare
        omega
      · rw [if_neg h3]
        congr 1
        symm
        rw [decide_eq_false_iff_not]
        unfold mayShare
        omega
    · rw [if_neg h2]
      congr 1
      symm
      rw [decide_eq_false_iff_not]
      unfold mayShare
      omega
  · rw [if_neg h1]
    congr 1
    symm
    rw [decide_eq_false_iff_not]
    unfold mayShare
    omega
theorem room (l : List Int) (i n : Nat) (h : i ≤ n) (hn : (n : Int) ≤ 10000) : (l.take i).length < 17592186044416 := by
  rw [List.length_take]
  omega
theorem refEven_l (total : Int) (n : Nat) (h : mayShare total n) : ∀ (d i : Nat), i + d = n → Ev (fun k => purflingref01_Even.l0 k total n ((evens total n).take i) (i : Int)) (evens total n, 0)
  | 0, i, hi => by
    refine Ev.step (f := fun k => _) (fun k => by rw [purflingref01_Even.l0]) ?_
    refine Ev.neg (by omega) (Ev.val ?_)
    rw [List.take_of_length_le (by rw [evens_length]; omega)]
  | d + 1, i, hi => by
    have hn : (0 : Int) < n := h.2.2.1
    have hn2 : (n : Int) ≤ 10000 := h.2.2.2
    have h0 := h.1
    have h1 := h.2.1
    have hle : i ≤ n := by omega
    have c1 : (i : Int) < n := by omega
    have c2 : ¬ (n : Int) = 0 := by omega
    have ed : Int.tdiv total n = total / n := Int.tdiv_eq_ediv_of_nonneg h0
    have em : Int.tmod total n = total % n := Int.tmod_eq_emod_of_nonneg h0
    have hd0 : 0 ≤ total / (n : Int) := Int.ediv_nonneg h0 (by omega)
    have hd1 : total / (n : Int) ≤ total := Int.ediv_le_self _ h0
    have hil : i < (evens total n).length := by rw [evens_length]; omega
    have hg : (evens total n)[i] = total / n + if (i : Int) < total % n then 1 else 0 := by simp [evens]
    have e : wrap64 ((i : Int) + 1) = ((i + 1 : Nat) : Int) := by rw [wrap_id (by omega) (by omega)]; rfl
    have w1 : wrap64 (total / (n : Int)) = total / n := wrap_id (by omega) (by omega)
    have w2 : wrap64 (total / (n : Int) + 1) = total / n + 1 := wrap_id (by omega) (by omega)
    have ih := refEven_l total n h d (i + 1) (by omega)
    rw [List.take_succ_eq_append_getElem hil, hg] at ih
    have hlen := room (evens total n) i n hle hn2
    refine Ev.step (f := fun k => _) (fun k => by rw [purflingref01_Even.l0]) ?_
    refine Ev.pos c1 (Ev.neg c2 ?_)
    rw [ed, em, w1, w2, e]
    by_cases c : (i : Int) < total % n
    · rw [if_pos c] at ih
      exact Ev.pos c (Ev.pos hlen ih)
    · rw [if_neg c, Int.add_zero] at ih
      exact Ev.neg c (Ev.pos hlen ih)
theorem refEven_ev (total a : Int) (h : mayShare total a) : Ev (fun k => purflingref01_Even.f k total a) (evenOut total a.toNat, 0) := by
  obtain ⟨n, rfl⟩ : ∃ n : Nat, a = n := ⟨a.toNat, by have := h.2.2.1; omega⟩
  rw [Int.toNat_natCast, evenOut_eq total n h]
  unfold purflingref01_Even.f
  simp only [shared_eq, Option.bind_some, h, decide_true, if_true]
  exact refEven_l total n h n 0 (by omega)
theorem refEven_no (total a : Int) (h : ¬ mayShare total a) : Ev (fun k => purflingref01_Even.f k total a) ([], 10) := by
  unfold purflingref01_Even.f
  simp only [shared_eq, Option.bind_some, h, decide_false]
  exact Ev.now _
/-- Both evens are one. -/
theorem even_both (total a : Int) : ∃ l e, fixed_Even.f total a = some (l, e) ∧ l.length ≤ 10000 ∧ Ev (fun k => purflingref01_Even.f k total a) (l, e) := by
  unfold fixed_Even.f
  by_cases h : mayShare total a
  · refine ⟨_, _, if_pos h, ?_, refEven_ev total a h⟩
    obtain ⟨n, rfl⟩ : ∃ n : Nat, a = n := ⟨a.toNat, by have := h.2.2.1; omega⟩
    rw [Int.toNat_natCast, evenOut_eq total n h, evens_length]
    have := h.2.2.2
    omega
  · exact ⟨_, _, if_neg h, by simp, refEven_no total a h⟩
theorem i64_of {n : Int} (h : (Lit.int .i64 n).wf = true) : -9223372036854775808 ≤ n ∧ n ≤ 9223372036854775807 := by
  simp only [Lit.wf, IntKind.min, IntKind.max, IntKind.signed, IntKind.bits, Bool.and_eq_true, decide_eq_true_eq, if_true] at h
  omega
theorem mn_id {x y : Int} (h : x ≤ y) : mn x y = x := by unfold mn; rw [if_neg (by omega)]
end Go.Proofs.Ytgghbmhmpkeccaa.Base
