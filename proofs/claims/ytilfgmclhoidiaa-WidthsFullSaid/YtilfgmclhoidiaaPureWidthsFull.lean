/- WidthsFull: with enough rounds the check says true at all bands. Condition: the numbers are of 64 bits. -/
import Derived.Test.YtilfgmclhoidiaaPAx30
import Derived.Test.YtilfgmclhoidiaaAuto
import Derived.Test.YtilfgmclhoidiaaUsed
namespace Go.Proofs.Ytilfgmclhoidiaa.Base
open Go.RowKit Go.Proofs.Ytilfgmclhoidiaa.PA Go.Proofs.YtilfgmclhoidiaaW.PrintWords Go.Proofs.YtilfgmclhoidiaaW.PrintLast Go.Proofs.YtilfgmclhoidiaaW.PrintMore Go.Proofs.Ytilfgmclhoidiaa.Pure
def bare (b : S35) : S35 := ⟨b.f0, b.f1, -1, b.f3⟩
theorem giveOn_zero : ∀ (b : List Bool) (ws o : List Int), (∀ x ∈ o, x = 0) → giveOn b ws o = ws
  | [], ws, o, _ => by cases ws <;> rfl
  | true :: b, [], o, _ => by cases o <;> rfl
  | true :: b, w :: ws, [], _ => rfl
  | true :: b, w :: ws, x :: o, h => by
    show (w + x) :: giveOn b ws o = _
    rw [giveOn_zero b ws o (fun y hy => h y (by simp [hy])), h x (by simp), Int.add_zero]
  | false :: b, [], o, _ => rfl
  | false :: b, w :: ws, o, h => by
    show w :: giveOn b ws o = _
    rw [giveOn_zero b ws o h]
theorem full_min_max : ∀ l : List S35, (∀ b ∈ l, Okb b) → (mins l).sum ≤ (maxs l).sum
  | [], _ => Int.le_refl _
  | b :: l, h => by
    have ih := full_min_max l (fun x hx => h x (by simp [hx]))
    have := (h b (by simp)).minmax
    show b.f0 + (mins l).sum ≤ b.f1 + (maxs l).sum
    omega
theorem full_l1 (m : List S35) (hm : m.length ≤ 100) (hok : bandsOk m = true) (hg : ∀ b ∈ m, good35 b) :
    ∀ (d i : Nat), i + d = m.length → Ev (fun k => purflinglaw15_WidthsFull.l1 k true m (maxs m).sum (maxs m) 0 (i : Int)) true
  | 0, i, h => by
    have hk := bandsOk_mem hok
    have hml : (maxs m).length = m.length := by simp [maxs]
    refine Ev.step (f := fun k => _) (fun k => by rw [purflinglaw15_WidthsFull.l1]) ?_
    have hu := used_prog m (by omega) hg (-1) 1125899906842623
    rw [usedOut_yes (show usedOk m (-1) 1125899906842623 from ⟨hok, by omega, by omega, by omega, by omega⟩), if_neg (by omega), (sum_min m hm hk).1, (sum_max m hm hk).1] at hu
    refine Base.Ev.neg (by omega) (Ev.bind hu (Base.Ev.pos rfl (Base.Ev.pos rfl (Base.Ev.pos (by omega) (Base.Ev.pos rfl (Base.Ev.val ?_))))))
    have := full_min_max m hk
    refine decide_eq_true ?_
    show mx (mn (maxs m).sum 1125899906842623) (mins m).sum ≤ (maxs m).sum
    unfold mx mn
    (repeat' split) <;> omega
  | d + 1, i, h => by
    have hml : (maxs m).length = m.length := by simp [maxs]
    have hi : i < m.length := by omega
    have e : rd (maxs m) (i : Int) = m[i].f1 := by rw [rd_nat]; simp [maxs, hi]
    refine Ev.step (f := fun k => _) (fun k => by rw [purflinglaw15_WidthsFull.l1, rdT m i hi, next (by omega)]) ?_
    exact Base.Ev.pos (by omega) (Base.Ev.pos (by omega) (Base.Ev.pos (by omega) (Base.Ev.pos e (full_l1 m hm hok hg d (i + 1) (by omega)))))
theorem full_auto (m : List S35) (hm : m.length ≤ 100) (hne : m ≠ []) (hok : bandsOk m = true) (hg : ∀ b ∈ m, good35 b) (hsh : ∀ b ∈ m, b.f2 = -1) : Ev (fun k => widths_Auto.f k m (sums3 m).2.1) (maxs m, 0) := by
  have hk := bandsOk_mem hok
  obtain ⟨h1, h2, h3⟩ := sum_max m hm hk
  have h4 := full_min_max m hk
  have h5 := sum_min m hm hk
  have hw : wishes (maxs m).sum m = maxs m := by
    unfold wishes maxs
    apply List.map_congr_left
    intro b hb
    unfold wishOf
    rw [if_pos (by rw [hsh b hb]; omega)]
  rw [h1]
  rcases auto_prog m hm hg (maxs m).sum with ⟨hn, _⟩ | ⟨_, a, ha, hi, _⟩
  · exact absurd ⟨hne, hok, by omega, by omega⟩ hn
  · cases hi with
    | some o c ho fo e =>
      rw [hw] at fo e
      rw [giveOn_zero (ins m) (maxs m) o (fun x hx => by have := fo.pos x hx; omega)] at e
      rw [e] at ha
      exact ha
    | few o c _ _ _ =>
      rw [hw] at c
      omega
theorem full_l0 (l : List S35) (hl : l.length ≤ 9223372036854775807) (R : Bool) (hend : Ev (fun k => purflinglaw15_WidthsFull.j1 k true ((l.take 100).map bare)) R) :
    ∀ (d i : Nat), i + d = (l.take 100).length → Ev (fun k => purflinglaw15_WidthsFull.l0 k l true (((l.take 100).map bare).take i) (i : Int)) R
  | 0, i, h => by
    refine Ev.step (f := fun k => _) (fun k => by rw [purflinglaw15_WidthsFull.l0]) ?_
    rw [List.take_of_length_le (by simp at h ⊢; omega)]
    rw [List.length_take] at h
    by_cases c : (i : Int) < (l.length : Int)
    · exact Base.Ev.pos c (Base.Ev.neg (by omega) hend)
    · exact Base.Ev.neg c hend
  | d + 1, i, h => by
    have ih := full_l0 l hl R hend d (i + 1) (by omega)
    have h' := h
    rw [List.length_take] at h'
    have hi : i < l.length := by omega
    have hit : i < (l.take 100).length := by omega
    have e1 : ((l.take 100).map bare).take (i + 1) = ((l.take 100).map bare).take i ++ [bare l[i]] := by
      rw [take_map _ _ i hit]
      simp
    rw [e1] at ih
    refine Ev.step (f := fun k => _) (fun k => by rw [purflinglaw15_WidthsFull.l0, rdT l i hi, next (by omega)]) ?_
    exact Base.Ev.pos (by omega) (Base.Ev.pos (by omega) (Base.Ev.pos (by omega) (Base.Ev.pos (by rw [List.length_take]; omega) ih)))
end Go.Proofs.Ytilfgmclhoidiaa.Base
namespace Go.Proofs.Ytilfgmclhoidiaa.Pure
open Go.RowKit Go.Proofs.Ytilfgmclhoidiaa.PA Go.Proofs.YtilfgmclhoidiaaW.PrintWords Go.Proofs.YtilfgmclhoidiaaW.PrintLast Go.Proofs.YtilfgmclhoidiaaW.PrintMore Go.Proofs.Ytilfgmclhoidiaa.Base
theorem WidthsFull (l : List S35) (hg : ∀ b ∈ l, good35 b) (hl : l.length ≤ maxLen) : ∃ k, purflinglaw15_WidthsFull.f k l = some true := by
  suffices h : Ev (fun k => purflinglaw15_WidthsFull.f k l) true from h.rounds
  unfold purflinglaw15_WidthsFull.f
  refine Ev.bind shown15_ev ?_
  refine full_l0 l (by unfold maxLen at hl; omega) true ?_ (l.take 100).length 0 (by omega)
  have hm : ((l.take 100).map bare).length ≤ 100 := by simp; omega
  have hgm : ∀ b ∈ (l.take 100).map bare, good35 b := by
    intro b hb
    obtain ⟨x, hx, rfl⟩ := List.mem_map.1 hb
    obtain ⟨h0, h1, h2, h3⟩ := hg x (List.mem_of_mem_take hx)
    exact ⟨h0, h1, (by decide : (Lit.int .i64 (-1)).wf = true), h3⟩
  have hsh : ∀ b ∈ (l.take 100).map bare, b.f2 = -1 := by
    intro b hb
    obtain ⟨x, hx, rfl⟩ := List.mem_map.1 hb
    rfl
  generalize (l.take 100).map bare = m at *
  have hj : Ev (fun k => purflinglaw15_WidthsFull.j2 k true m true) true := by
    refine Ev.step (f := fun k => _) (fun k => by rw [purflinglaw15_WidthsFull.j2]) ?_
    exact Base.Ev.pos rfl (Base.Ev.val rfl)
  refine Ev.step (f := fun k => _) (fun k => by rw [purflinglaw15_WidthsFull.j1]) ?_
  by_cases c : (m.length : Int) = 0
  · exact Base.Ev.pos c hj
  refine Base.Ev.neg c (Ev.bind ⟨0, fun _ _ => right_prog m (by omega)⟩ ?_)
  cases hok : bandsOk m with
  | false => exact hj
  | true =>
    have hne : m ≠ [] := fun e => c (by rw [e]; rfl)
    refine Ev.step (f := fun k => _) (fun k => by rw [purflinglaw15_WidthsFull.j2]) ?_
    refine Base.Ev.neg (by simp) (Ev.bind (sums_prog m (by omega) hgm) (Ev.bind (full_auto m hm hne hok hgm hsh) ?_))
    show Ev (fun k => purflinglaw15_WidthsFull.l1 k true m (sums3 m).2.1 (maxs m) 0 0) true
    rw [(sum_max m hm (bandsOk_mem hok)).1]
    have hml : (maxs m).length = m.length := by simp [maxs]
    exact full_l1 m hm hok hgm m.length 0 (by omega)
end Go.Proofs.Ytilfgmclhoidiaa.Pure
