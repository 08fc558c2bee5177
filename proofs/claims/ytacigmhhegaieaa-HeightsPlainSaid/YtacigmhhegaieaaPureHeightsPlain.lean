/- HeightsPlain: with enough rounds the check says true at all heights and numbers of rows: rows whose cells have one row each. No condition. -/
import Derived.Test.YtacigmhhegaieaaPAx51
import Derived.Laws.BitsLemmas
import Derived.Test.YtacigmhhegaieaaShown16
import Derived.Test.YtacigmhhegaieaaLeastOne
import Derived.Test.YtacigmhhegaieaaCutH
namespace Go.Proofs.Ytacigmhhegaieaa.Pure
open Go.RowKit Go.Proofs.Ytacigmhhegaieaa.PA Go.Proofs.YtacigmhhegaieaaW.PrintWords Go.Proofs.YtacigmhhegaieaaW.PrintLast Go.Proofs.YtacigmhhegaieaaW.PrintMore Go.Proofs.Ytacigmhhegaieaa.Base
theorem mask_bnd (x : Int) : 0 ≤ Go.bits .and .i64 x 1099511627775 ∧ Go.bits .and .i64 x 1099511627775 ≤ 1099511627775 := by
  have e : Go.bits .and .i64 x 1099511627775 = IntKind.i64.wrap (((BitVec.ofInt 64 x &&& BitVec.ofInt 64 1099511627775).toNat : Nat) : Int) := rfl
  have h : (BitVec.ofInt 64 x &&& BitVec.ofInt 64 1099511627775).toNat ≤ 1099511627775 := by
    rw [BitVec.toNat_and]
    exact Nat.le_trans Nat.and_le_right (by decide)
  rw [e, IntKind.wrap_i64]
  omega
theorem zeros_max (n : Nat) : (List.replicate n (0 : Int)).map (fun x => mx x 0) = List.replicate n 0 := by
  rw [List.map_replicate]
  rfl
theorem plain_l0 (l0 : List Int) (a1 : Int) (n : Nat) (hn : a1 = (n : Int)) (n0 : 0 < n) (n1 : n ≤ 20) (hl : l0.length ≤ 100) : ∀ (d i : Nat) (pl : List S33) (hs : List Int), i + d = l0.length → pl.length = i → hs.length = i →
    (∀ p ∈ pl, 0 ≤ p.f1 ∧ p.f1 < (n : Int) ∧ p.f3 = 1) → (∀ x ∈ hs, wide x) → Ev (fun k => purflinglaw16_HeightsPlain.l0 k l0 a1 true (List.replicate n 0) ((cellsL pl hs).foldl putH (List.replicate n 0)) pl hs (i : Int)) true
  | 0, i, pl, hs, hi, h1, h2, hp, hh => by
    refine Ev.step (f := fun k => _) (fun k => by rw [purflinglaw16_HeightsPlain.l0]) ?_
    refine Base.Ev.neg (by omega) ?_
    have hlen : (List.replicate n (0 : Int)).length = n := List.length_replicate
    have hL : LeastIs (List.replicate n 0) pl hs 3 := {
      most := by omega
      wants := fun x hx => by
        have := List.eq_of_mem_replicate hx
        omega
      len := by omega
      highs := hh
      gap := by omega
      places := fun p hp' => by
        obtain ⟨q1, q2, q3⟩ := hp p hp'
        rw [hlen]
        omega
      few := by omega }
    have hones : ∀ x ∈ cellsL pl hs, x.f0.f3 = 1 := fun x hx => by
      obtain ⟨k, hk, e⟩ := List.mem_iff_getElem.1 hx
      unfold cellsL at e hk
      rw [List.getElem_zipWith] at e
      subst e
      rw [List.length_zipWith] at hk
      exact (hp _ (List.getElem_mem (by omega))).2.2
    rw [least_ones (by omega) hL (by omega) hones, zeros_max]
    refine Ev.bind (Ev.now _) (Base.Ev.pos rfl (Base.Ev.pos rfl ?_))
    exact Ev.bind (same_self _ (by rw [foldH_length, hlen]; omega)) (Ev.now _)
  | d + 1, i, pl, hs, hi, h1, h2, hp, hh => by
    have hin : i < l0.length := by omega
    have e : wrap64 ((i : Int) + 1) = ((i + 1 : Nat) : Int) := by rw [wrap_id (by omega) (by omega)]; rfl
    have t0 : 0 ≤ Int.tmod (i : Int) a1 := Int.tmod_nonneg _ (by omega)
    have t1 : Int.tmod (i : Int) a1 < (n : Int) := by
      have := Int.tmod_lt_of_pos (i : Int) (b := a1) (by omega)
      omega
    have hm := mask_bnd (rd l0 i)
    have hfl : ((cellsL pl hs).foldl putH (List.replicate n 0)).length = n := by rw [foldH_length, List.length_replicate]
    have hz : cellsL (pl ++ [(⟨0, Int.tmod (i : Int) a1, 0, 1, 1⟩ : S33)]) (hs ++ [Go.bits .and .i64 (rd l0 i) 1099511627775]) = cellsL pl hs ++ [⟨⟨0, Int.tmod (i : Int) a1, 0, 1, 1⟩, Go.bits .and .i64 (rd l0 i) 1099511627775⟩] := by
      unfold cellsL
      rw [List.zipWith_append (by omega)]
      rfl
    have ih := plain_l0 l0 a1 n hn n0 n1 hl d (i + 1) (pl ++ [(⟨0, Int.tmod (i : Int) a1, 0, 1, 1⟩ : S33)]) (hs ++ [Go.bits .and .i64 (rd l0 i) 1099511627775]) (by omega) (by rw [List.length_append, List.length_singleton]; omega) (by rw [List.length_append, List.length_singleton]; omega)
      (fun p hp' => by
        rcases List.mem_append.1 hp' with hp' | hp'
        · exact hp p hp'
        · rw [List.mem_singleton.1 hp']
          exact ⟨t0, t1, rfl⟩)
      (fun x hx => by
        rcases List.mem_append.1 hx with hx | hx
        · exact hh x hx
        · rw [List.mem_singleton.1 hx]
          exact ⟨hm.1, by omega⟩)
    rw [hz, List.foldl_append] at ih
    have ep : putH ((cellsL pl hs).foldl putH (List.replicate n 0)) ⟨⟨0, Int.tmod (i : Int) a1, 0, 1, 1⟩, Go.bits .and .i64 (rd l0 i) 1099511627775⟩ = ((cellsL pl hs).foldl putH (List.replicate n 0)).set (Int.tmod (i : Int) a1).toNat (mx (rd ((cellsL pl hs).foldl putH (List.replicate n 0)) (Int.tmod (i : Int) a1)) (Go.bits .and .i64 (rd l0 i) 1099511627775)) := by
      have er : rd ((cellsL pl hs).foldl putH (List.replicate n 0)) (Int.tmod (i : Int) a1) = ((cellsL pl hs).foldl putH (List.replicate n 0))[(Int.tmod (i : Int) a1).toNat]?.getD 0 := by
        rw [← rd_nat]
        congr 1
        omega
      rw [er]
      rfl
    rw [List.foldl_cons, List.foldl_nil, ep] at ih
    refine Ev.step (f := fun k => _) (fun k => by rw [purflinglaw16_HeightsPlain.l0]) ?_
    refine Base.Ev.pos (by omega) (Base.Ev.pos (by omega) (Base.Ev.neg (by omega) (Base.Ev.pos (by omega) (Base.Ev.pos (by omega) (Base.Ev.pos t0 (Base.Ev.pos (by omega) ?_))))))
    rw [e]
    exact ih
theorem HeightsPlain : purflinglaw16_HeightsPlain.Pure := by
  intro l0 a1 _ _ _ _
  suffices h : Ev (fun k => purflinglaw16_HeightsPlain.f k l0 a1) true from h.rounds
  obtain ⟨b1, b2, b3⟩ := mn_cut l0 100 100 rfl
  unfold purflinglaw16_HeightsPlain.f
  rw [b3]
  have hl := take_len l0 100
  refine Ev.bind shown16_ev (Base.Ev.pos b1 (Base.Ev.pos b2 ?_))
  generalize l0.take 100 = l0 at *
  have bad : Ev (fun k => purflinglaw16_HeightsPlain.j0 k l0 a1 true true) true := by
    refine Ev.step (f := fun k => _) (fun k => by rw [purflinglaw16_HeightsPlain.j0]) ?_
    exact Base.Ev.pos rfl (Ev.now _)
  by_cases c1 : a1 < 1
  · exact Base.Ev.pos c1 bad
  · refine Base.Ev.neg c1 ?_
    by_cases c2 : a1 > 20
    · rw [decide_eq_true c2]
      exact bad
    · rw [decide_eq_false c2]
      refine Ev.step (f := fun k => _) (fun k => by rw [purflinglaw16_HeightsPlain.j0]) ?_
      refine Base.Ev.neg (by decide) (Base.Ev.pos (by omega) (Base.Ev.pos (by omega) ?_))
      exact plain_l0 l0 a1 a1.toNat (by omega) (by omega) (by omega) hl l0.length 0 [] [] (by omega) rfl rfl (fun p hp => by cases hp) (fun x hx => by cases hx)
end Go.Proofs.Ytacigmhhegaieaa.Pure
