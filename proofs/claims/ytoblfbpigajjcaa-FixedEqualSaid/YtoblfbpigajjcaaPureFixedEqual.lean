/- FixedEqual: with enough rounds the check says true at every length, weight and number: equal weights share out evenly. No condition. -/
import Derived.Test.YtoblfbpigajjcaaPAx11
import Derived.Test.YtoblfbpigajjcaaTwo
namespace Go.Proofs.Ytoblfbpigajjcaa.Pure
open Go.RowKit Go.Proofs.Ytoblfbpigajjcaa.PA Go.Proofs.YtoblfbpigajjcaaW.PrintWords Go.Proofs.YtoblfbpigajjcaaW.PrintLast Go.Proofs.Ytoblfbpigajjcaa.Base
/-- Equal weights above 0 share out evenly. -/
theorem share_equal (total w : Int) (n : Nat) (h : mayShare total n) (h0 : 0 < w) (h1 : w ≤ 1125899906842623) : shareOut total (List.replicate n w) = evens total n := by
  have hn : (0 : Int) < n := h.2.2.1
  have hsum : (List.replicate n w).sum = n * w := by simp
  have f : Facts total (List.replicate n w) := ⟨by rw [List.length_replicate]; exact h, fun x hx => by rw [(List.mem_replicate.1 hx).2]; omega, by rw [hsum]; exact Int.mul_pos hn h0⟩
  have hs := f.share
  have hq : ∀ i, i < n → qOf total (List.replicate n w) i = total / n := by
    intro i hi
    unfold qOf
    rw [hsum, List.getElem?_replicate, if_pos hi, Option.getD_some]
    exact Int.mul_ediv_mul_of_pos_left total n h0
  have hr : ∀ i, i < n → rOf total (List.replicate n w) i = w * (total % n) := by
    intro i hi
    unfold rOf
    rw [hsum, List.getElem?_replicate, if_pos hi, Option.getD_some]
    rw [Int.mul_comm total w, Int.mul_comm (n : Int) w]
    exact Int.mul_emod_mul_of_pos _ _ h0
  have hqs : qSum total (List.replicate n w) = n * (total / n) := by
    unfold qSum
    rw [List.length_replicate, sum_congr _ (fun _ => total / n) _ (fun i hi => hq i (by simpa using hi)), sum_const]
  have hrest : total - qSum total (List.replicate n w) = total % n := by
    rw [hqs]
    have := Int.emod_add_mul_ediv total n
    omega
  rw [hs, hrest, List.length_replicate, sortedP_const _ n (w * (total % n)) hr]
  unfold bump evens
  apply List.ext_getElem
  · simp
  · intro i h1 h2
    have hi : i < n := by simpa using h2
    have hm0 := Int.emod_nonneg total (b := n) (by omega)
    have hm1 := Int.emod_lt_of_pos total hn
    rw [List.getElem_mapIdx, List.getElem_map, List.getElem_map, List.getElem_range, hq i hi]
    congr 1
    have : (i ∈ (List.range n).take (total % n).toNat) ↔ (i : Int) < total % n := by
      rw [List.take_range, List.mem_range]
      omega
    simp only [this]
theorem both (total w : Int) (n : Nat) (h0 : 0 ≤ w) (h1 : w ≤ 1125899906842623) : fixed_Share.f total (List.replicate n w) = fixed_Even.f total n := by
  unfold fixed_Share.f fixed_Even.f
  rw [List.length_replicate]
  by_cases h : mayShare total n
  · rw [if_pos h, if_pos h]
    have hb : ¬ (List.replicate n w).any badW = true := by
      intro hb
      obtain ⟨x, hx, hb⟩ := List.any_eq_true.1 hb
      rw [(List.mem_replicate.1 hx).2] at hb
      unfold badW at hb
      rw [Bool.or_eq_true, decide_eq_true_iff, decide_eq_true_iff] at hb
      omega
    have hn : (0 : Int) < n := h.2.2.1
    have hsum : (List.replicate n w).sum = n * w := by simp
    rw [if_neg hb, hsum, Int.toNat_natCast]
    by_cases c : w = 0
    · subst c
      rw [if_pos (Int.mul_zero _)]
    · have hp : 0 < n * w := Int.mul_pos hn (by omega)
      rw [if_neg (by omega), share_equal total w n h (by omega) h1, evenOut_eq total n h]
  · rw [if_neg h, if_neg h]
theorem even_len (total a : Int) (l : List Int) (e : Int) (h : fixed_Even.f total a = some (l, e)) : l.length ≤ 10000 := by
  obtain ⟨l', e', h1, hl, _⟩ := even_both total a
  rw [h1] at h
  obtain ⟨rfl, rfl⟩ := Prod.mk.inj (Option.some.inj h)
  exact hl
theorem equal_l (a0 w : Int) (n : Nat) (hn : n ≤ 200) (h0 : 0 ≤ w) (h1 : w ≤ 1125899906842623) : ∀ (d i : Nat), i + d = n → Ev (fun k => purflinglaw01_FixedEqual.l0 k a0 w n true (List.replicate i w ++ List.replicate d 0) (i : Int)) true
  | 0, i, hi => by
    obtain rfl : i = n := by omega
    obtain ⟨l, e, he, hl, _⟩ := even_both a0 i
    refine Ev.step (f := fun k => _) (fun k => by rw [purflinglaw01_FixedEqual.l0]) ?_
    rw [List.replicate_zero, List.append_nil]
    refine Base.Ev.neg (by omega) (Ev.bind (a := (l, e)) ⟨0, fun _ _ => (both a0 w i h0 h1).trans he⟩ (Ev.bind (a := (l, e)) ⟨0, fun _ _ => he⟩ (Base.Ev.pos rfl (Base.Ev.pos rfl (Ev.bind (same_self l (by omega)) (Ev.now _))))))
  | d + 1, i, hi => by
    have e : wrap64 ((i : Int) + 1) = ((i + 1 : Nat) : Int) := by rw [wrap_id (by omega) (by omega)]; rfl
    have hs : (List.replicate i w ++ List.replicate (d + 1) 0).set i w = List.replicate (i + 1) w ++ List.replicate d 0 := by
      rw [List.set_append_right _ _ (by simp), List.length_replicate, Nat.sub_self, List.replicate_succ, List.set_cons_zero, List.replicate_succ', List.append_assoc, List.singleton_append]
    refine Ev.step (f := fun k => _) (fun k => by rw [purflinglaw01_FixedEqual.l0]) ?_
    refine Base.Ev.pos (by omega) (Base.Ev.pos (by omega) (Base.Ev.pos (by simp; omega) ?_))
    rw [e, Int.toNat_natCast, hs]
    exact equal_l a0 w n hn h0 h1 d (i + 1) (by omega)
theorem FixedEqual : purflinglaw01_FixedEqual.Pure := by
  intro a0 a1 a2 _ _ _
  suffices h : Ev (fun k => purflinglaw01_FixedEqual.f k a0 a1 a2) true from h.rounds
  unfold purflinglaw01_FixedEqual.f
  refine Ev.bind shown_ev ?_
  have hj : Ev (fun k => purflinglaw01_FixedEqual.j0 k a0 a1 a2 true true) true := by
    refine Ev.step (f := fun k => _) (fun k => by rw [purflinglaw01_FixedEqual.j0]) ?_
    exact Base.Ev.pos rfl (Ev.now _)
  by_cases c1 : a2 < 1
  · exact Base.Ev.pos c1 hj
  refine Base.Ev.neg c1 ?_
  by_cases c2 : a2 > 200
  · exact Base.Ev.pos c2 hj
  refine Base.Ev.neg c2 ?_
  by_cases c3 : a1 < 0
  · exact Base.Ev.pos c3 hj
  refine Base.Ev.neg c3 ?_
  by_cases c4 : a1 > 1125899906842623
  · rw [decide_eq_true c4]
    exact hj
  rw [decide_eq_false c4]
  obtain ⟨n, rfl⟩ : ∃ n : Nat, a2 = n := ⟨a2.toNat, by omega⟩
  refine Ev.step (f := fun k => _) (fun k => by rw [purflinglaw01_FixedEqual.j0]) ?_
  refine Base.Ev.neg (by simp) (Base.Ev.pos (by omega) (Base.Ev.pos (by omega) ?_))
  rw [Int.toNat_natCast]
  exact equal_l a0 a1 n (by omega) (by omega) (by omega) n 0 (by omega)
end Go.Proofs.Ytoblfbpigajjcaa.Pure
