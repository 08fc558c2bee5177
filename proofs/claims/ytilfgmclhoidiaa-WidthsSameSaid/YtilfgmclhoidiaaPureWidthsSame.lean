/- WidthsSame: with enough rounds the check says true at every band, number and total. Condition: the numbers are of 64 bits. -/
import Derived.Test.YtilfgmclhoidiaaPAx27
import Derived.Test.YtilfgmclhoidiaaAuto
import Derived.Test.YtilfgmclhoidiaaEqual
namespace Go.Proofs.Ytilfgmclhoidiaa.Base
open Go.RowKit Go.Proofs.Ytilfgmclhoidiaa.PA Go.Proofs.YtilfgmclhoidiaaW.PrintWords Go.Proofs.YtilfgmclhoidiaaW.PrintLast Go.Proofs.YtilfgmclhoidiaaW.PrintMore Go.Proofs.Ytilfgmclhoidiaa.Pure
theorem ins_same (b : S35) (n : Nat) : ins (List.replicate n b) = List.replicate n true := by
  unfold ins
  rw [List.map_replicate]
  cases n with
  | zero => rfl
  | succ n =>
    congr 1
    unfold inB
    have h : ∀ p : S35 → Bool, (List.replicate (n + 1) b).any p = p b := by
      intro p
      rw [List.any_replicate]
      simp
    rw [h, h]
    cases h0 : condP 0 b with
    | true => simp
    | false =>
      cases h1 : condP 1 b with
      | true => simp
      | false => simp
/-- Widths of bands that are all the same: one length, and an even share. -/
theorem same_auto (b : S35) (n : Nat) (hn : 0 < n) (hn2 : n ≤ 60) (t : Int) (h : autoOk (List.replicate n b) t) (a : List Int) (ha : AutoIs (List.replicate n b) t a) :
    ∃ w T, -1152921504606846976 ≤ w ∧ w ≤ 1152921504606846976 ∧ mayShare T n ∧ a = (List.replicate n w).zipWith (· + ·) (evens T n) := by
  have hk := bandsOk_mem h.2.1
  have hob := hk b (by simp; omega)
  have ht := h.2.2.2
  have hw := wish_bound t b hob ht
  have h0 := hob.min0
  have h1 := hob.minmax
  have h2 := hob.max
  have hws : wishes t (List.replicate n b) = List.replicate n (wishOf t b) := by unfold wishes; rw [List.map_replicate]
  have hms : mores t (List.replicate n b) = List.replicate n (mn (wishOf t b - b.f0) 1125899906842623) := by unfold mores; rw [List.map_replicate]
  have hmn : mins (List.replicate n b) = List.replicate n b.f0 := by unfold mins; rw [List.map_replicate]
  have hwt : wts (List.replicate n b) = List.replicate n b.f1 := by
    unfold wts
    rw [ins_same, pos_all]
    apply List.ext_getElem
    · simp
    · intro i h1 h2
      have hi : i < n := by simpa using h1
      simp [hi]
  cases ha with
  | some o c ho fo e =>
    rw [hwt] at ho fo
    have hm := fo.may
    rw [List.length_replicate] at hm
    rw [share_evens _ _ n hm (by omega) h2] at ho
    obtain ⟨rfl, _⟩ := Prod.mk.inj (Option.some.inj ho)
    refine ⟨wishOf t b, _, by omega, by omega, hm, ?_⟩
    rw [e, ins_same, hws]
    have := giveOn_all (List.replicate n (wishOf t b)) (evens (t - (wishes t (List.replicate n b)).sum) n) (by rw [evens_length, List.length_replicate])
    rw [List.length_replicate] at this
    rw [hws] at this
    exact this
  | few o c ho fo e =>
    rw [hms] at ho fo
    have hm := fo.may
    rw [List.length_replicate] at hm
    have hb : 0 ≤ mn (wishOf t b - b.f0) 1125899906842623 ∧ mn (wishOf t b - b.f0) 1125899906842623 ≤ 1125899906842623 := by
      unfold mn
      split <;> omega
    rw [share_evens _ _ n hm hb.1 hb.2] at ho
    obtain ⟨rfl, _⟩ := Prod.mk.inj (Option.some.inj ho)
    refine ⟨b.f0, _, by omega, by omega, hm, ?_⟩
    rw [e]
    unfold baseAdd
    rw [hmn]
theorem same_at (w T : Int) (n i : Nat) (hi : i < n) : rd ((List.replicate n w).zipWith (· + ·) (evens T n)) (i : Int) = w + (T / n + if (i : Int) < T % n then 1 else 0) := by
  rw [rd_nat]
  have hl : i < ((List.replicate n w).zipWith (· + ·) (evens T n)).length := by simp [evens_length]; exact hi
  rw [List.getElem?_eq_getElem hl, Option.getD_some]
  simp [evens]
theorem same_widths_l (n : Nat) (hn : n ≤ 60) (w T : Int) (hT : mayShare T n) (hw0 : -1152921504606846976 ≤ w) (hw : w ≤ 1152921504606846976) :
    ∀ (d i : Nat), i + d = n → 1 ≤ i → Ev (fun k => purflinglaw15_WidthsSame.l1 k (n : Int) true ((List.replicate n w).zipWith (· + ·) (evens T n)) (i : Int)) true
  | 0, i, h, _ => by
    refine Ev.step (f := fun k => _) (fun k => by rw [purflinglaw15_WidthsSame.l1]) ?_
    exact Base.Ev.neg (by omega) (Base.Ev.val rfl)
  | d + 1, i, h, h1 => by
    have ih := same_widths_l n hn w T hT hw0 hw d (i + 1) (by omega) (by omega)
    have hl : ((List.replicate n w).zipWith (· + ·) (evens T n)).length = n := by simp [evens_length]
    have e0 := same_at w T n 0 (by omega)
    have e1 := same_at w T n i (by omega)
    have e2 := same_at w T n (i - 1) (by omega)
    have ep : wrap64 ((i : Int) - 1) = ((i - 1 : Nat) : Int) := by rw [wrap_id (by omega) (by omega)]; omega
    obtain ⟨t0, t1, t2, t3⟩ := hT
    have hq0 : 0 ≤ T / (n : Int) := Int.ediv_nonneg t0 (by omega)
    have hq1 : T / (n : Int) ≤ T := Int.ediv_le_self _ t0
    refine Ev.step (f := fun k => _) (fun k => by rw [purflinglaw15_WidthsSame.l1, ep, next (by omega), e1, e2, show (0 : Int) = ((0 : Nat) : Int) from rfl, e0]) ?_
    generalize T / (n : Int) = q at *
    generalize T % (n : Int) = m at *
    have hww : ∀ x : Int, 0 ≤ x → x ≤ 1 → wrap64 (w + (q + x) - 1) = w + (q + x) - 1 := fun x hx0 hx1 => wrap_id (by omega) (by omega)
    refine Base.Ev.pos (by omega) (Base.Ev.pos (by omega) (Base.Ev.pos (by omega) (Base.Ev.pos (by omega) (Base.Ev.pos (by omega) (Base.Ev.neg ?_ (Base.Ev.pos (by omega) (Base.Ev.neg ?_ ih)))))))
    · split <;> split <;> omega
    · rw [hww _ (by split <;> omega) (by split <;> omega)]
      split <;> split <;> omega
theorem fill_l (b : S35) (n : Nat) (hn : n ≤ 60) (t : Int) (R : Bool) (hend : Ev (fun k => (widths_Auto.f k (List.replicate n b) t).bind fun bt473 => (if bt473.2 = 0 then (purflinglaw15_WidthsSame.j2 k (n : Int) true bt473.1 ((bt473.1.length : Int) != (n : Int))) else (purflinglaw15_WidthsSame.j2 k (n : Int) true bt473.1 true))) R) :
    ∀ (d i : Nat), i + d = n → Ev (fun k => purflinglaw15_WidthsSame.l0 k (n : Int) t true (List.replicate i b ++ List.replicate d z35) (i : Int) b.f0 b.f1 b.f2 b.f3) R
  | 0, i, h => by
    obtain rfl : i = n := by omega
    refine Ev.step (f := fun k => _) (fun k => by rw [purflinglaw15_WidthsSame.l0]) ?_
    rw [List.replicate_zero, List.append_nil]
    exact Base.Ev.neg (by omega) hend
  | d + 1, i, h => by
    have ih := fill_l b n hn t R hend d (i + 1) (by omega)
    have hs : (List.replicate i b ++ List.replicate (d + 1) z35).set i (⟨b.f0, b.f1, b.f2, b.f3⟩ : S35) = List.replicate (i + 1) b ++ List.replicate d z35 := by
      rw [List.set_append_right _ _ (by simp), List.length_replicate, Nat.sub_self, List.replicate_succ, List.set_cons_zero, List.replicate_succ', List.append_assoc, List.singleton_append]
    refine Ev.step (f := fun k => _) (fun k => by rw [purflinglaw15_WidthsSame.l0]) ?_
    refine Base.Ev.pos (by omega) (Base.Ev.pos (by omega) (Base.Ev.pos (by simp; omega) ?_))
    rw [next (by omega), Int.toNat_natCast, hs]
    exact ih
end Go.Proofs.Ytilfgmclhoidiaa.Base
namespace Go.Proofs.Ytilfgmclhoidiaa.Pure
open Go.RowKit Go.Proofs.Ytilfgmclhoidiaa.PA Go.Proofs.YtilfgmclhoidiaaW.PrintWords Go.Proofs.YtilfgmclhoidiaaW.PrintLast Go.Proofs.YtilfgmclhoidiaaW.PrintMore Go.Proofs.Ytilfgmclhoidiaa.Base
theorem WidthsSame (b : S35) (hg : good35 b) (n : Int) (_ : (Lit.int .i64 n).wf = true) (t : Int) (_ : (Lit.int .i64 t).wf = true) : ∃ k, purflinglaw15_WidthsSame.f k b.f0 b.f1 b.f2 b.f3 n t = some true := by
  suffices h : Ev (fun k => purflinglaw15_WidthsSame.f k b.f0 b.f1 b.f2 b.f3 n t) true from h.rounds
  unfold purflinglaw15_WidthsSame.f
  refine Ev.bind shown15_ev ?_
  have hj : Ev (fun k => purflinglaw15_WidthsSame.j0 k n t true true b.f0 b.f1 b.f2 b.f3) true := by
    refine Ev.step (f := fun k => _) (fun k => by rw [purflinglaw15_WidthsSame.j0]) ?_
    exact Base.Ev.pos rfl (Base.Ev.val rfl)
  by_cases c1 : n < 1
  · exact Base.Ev.pos c1 hj
  refine Base.Ev.neg c1 ?_
  by_cases c2 : n > 60
  · rw [decide_eq_true c2]
    exact hj
  rw [decide_eq_false c2]
  obtain ⟨m, rfl⟩ : ∃ m : Nat, n = m := ⟨n.toNat, by omega⟩
  refine Ev.step (f := fun k => _) (fun k => by rw [purflinglaw15_WidthsSame.j0]) ?_
  refine Base.Ev.neg (by simp) (Base.Ev.pos (by omega) (Base.Ev.pos (by omega) ?_))
  rw [Int.toNat_natCast]
  have hm : m ≤ 60 := by omega
  refine fill_l b m hm t true ?_ m 0 (by omega)
  have hgl : ∀ x ∈ List.replicate m b, good35 x := fun x hx => by rw [(List.mem_replicate.1 hx).2]; exact hg
  rcases auto_prog (List.replicate m b) (by simp; omega) hgl t with ⟨hn, he⟩ | ⟨hy, a, ha, hi, hal⟩
  · refine Ev.bind he (Base.Ev.neg (by simp) (Ev.step (f := fun k => _) (fun k => by rw [purflinglaw15_WidthsSame.j2]) ?_))
    exact Base.Ev.pos rfl (Base.Ev.pos rfl (Base.Ev.val rfl))
  · rw [List.length_replicate] at hal
    obtain ⟨w, T, hw0, hw1, hT, e⟩ := same_auto b m (by omega) hm t hy a hi
    refine Ev.bind ha (Base.Ev.pos rfl ?_)
    have hb : ((a.length : Int) != (m : Int)) = false := by rw [hal]; simp
    refine Ev.step (f := fun k => _) (fun k => by rw [purflinglaw15_WidthsSame.j2]) ?_
    refine Base.Ev.neg (by show ¬ (((a.length : Int) != (m : Int)) = true); rw [hb]; simp) ?_
    show Ev (fun k => purflinglaw15_WidthsSame.l1 k (m : Int) true a 1) true
    rw [e]
    exact same_widths_l m hm w T hT hw0 hw1 (m - 1) 1 (by omega) (by omega)
end Go.Proofs.Ytilfgmclhoidiaa.Pure
