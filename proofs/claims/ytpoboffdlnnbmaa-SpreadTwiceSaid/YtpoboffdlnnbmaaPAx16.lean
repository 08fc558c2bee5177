-- MADE by wip/tools/xprint.py of this repo: the kit's print.py, turned by this session, and texts by hand
import Derived.Test.YtpoboffdlnnbmaaPAx0
namespace Go.Proofs.Ytpoboffdlnnbmaa.PA
open Go.RowKit Go.Proofs.YtpoboffdlnnbmaaW.PrintWords Go.Proofs.YtpoboffdlnnbmaaW.PrintLast Go.Proofs.YtpoboffdlnnbmaaW.PrintMore
attribute [local go_sem] max2_int min2_int max_two min_two max_three min_three max_four min_four   -- for this text's walks alone
set_option linter.unusedVariables false
set_option linter.unusedSimpArgs false

-- BY HAND: cloneneed.tpl
-- MAKING api_Need_37
section
open Go.RowKit Go.Shelf Go.Proofs.YtpoboffdlnnbmaaW.PrintWords Go.Proofs.YtpoboffdlnnbmaaW.PrintLast Go.Proofs.YtpoboffdlnnbmaaW.PrintMore
theorem api_Need_37.flat_length {α : Type} (g : α → List Value) (sz : Nat) (hg : ∀ x, (g x).length = sz) : ∀ l : List α, (l.flatMap g).length = l.length * sz
 | [] => by simp
 | a :: l => by rw [List.flatMap_cons, List.length_append, hg, api_Need_37.flat_length g sz hg l, List.length_cons, Nat.succ_mul, Nat.add_comm]
theorem api_Need_37.flat_take {α : Type} (g : α → List Value) (sz : Nat) (hg : ∀ x, (g x).length = sz) : ∀ (l : List α) (j : Nat) (p : α), l[j]? = some p → ((l.flatMap g).drop (j * sz)).take sz = g p
 | [], j, p, h => by simp at h
 | a :: l, 0, p, h => by
  have e : a = p := by simpa using h
  subst e
  rw [Nat.zero_mul, List.drop_zero, List.flatMap_cons, List.take_append_of_le_length (by rw [hg]; exact Nat.le_refl _), List.take_of_length_le (by rw [hg]; exact Nat.le_refl _)]
 | a :: l, j + 1, p, h => by
  have ih := api_Need_37.flat_take g sz hg l j p (by simpa using h)
  have e : (j + 1) * sz - (g a).length = j * sz := by rw [hg, Nat.succ_mul]; omega
  rw [List.flatMap_cons, List.drop_append, List.drop_of_length_le (by rw [hg, Nat.succ_mul]; omega), List.nil_append, e]
  exact ih
theorem api_Need_37.flat_cells {α : Type} (g : α → List Value) (sz : Nat) (hs : 0 < sz) (hg : ∀ x, (g x).length = sz) (l : List α) {w : World} {ad : Addr} (h : ∀ j (hj : j < l.length) i u, (g l[j])[i]? = some u → w.cell? (ad.add (j * sz + i)) = some u) :
  ∀ t u, (l.flatMap g)[t]? = some u → w.cell? (ad.add t) = some u := by
 intro t u ht
 have hlt : t < l.length * sz := by
  have := (List.getElem?_eq_some_iff.1 ht).1
  rwa [api_Need_37.flat_length g sz hg l] at this
 have hj : t / sz < l.length := Nat.div_lt_of_lt_mul (by rwa [Nat.mul_comm] at hlt)
 have e : t / sz * sz + t % sz = t := Nat.div_add_mod' t sz
 have h1 := api_Need_37.flat_take g sz hg l (t / sz) _ (List.getElem?_eq_getElem hj)
 have hm := Nat.mod_lt t hs
 have h2 : (g l[t / sz])[t % sz]? = some u := by
  rw [← h1, List.getElem?_take_of_lt hm, List.getElem?_drop, e]
  exact ht
 have h3 := h (t / sz) hj (t % sz) u h2
 rwa [e] at h3
/-- A clone: as long as there is room for it. -/
def api_Need_37.f (l0 : List S53) : Option (List S53) := if l0.length ≤ 10000 then some l0 else none
theorem api_Need_37.cells_ (w : World) (ad : Addr) (l : List S53) (h : Kd.C k53 w (some ad) l.length l) : ∀ j u, (l.flatMap (fun x : S53 => [Value.int .i64 x.f0.f0, Value.int .i64 x.f0.f1, Value.int .i64 x.f0.f2, Value.int .i64 x.f0.f3, Value.int .i64 x.f0.f4, Value.int .i64 x.f1, Value.int .i64 x.f2, Value.int .i64 x.f3.f0, Value.int .i64 x.f3.f1]))[j]? = some u → w.cell? (ad.add j) = some u := by
 obtain ⟨_, _, h3⟩ := h
 refine api_Need_37.flat_cells (fun x : S53 => [Value.int .i64 x.f0.f0, Value.int .i64 x.f0.f1, Value.int .i64 x.f0.f2, Value.int .i64 x.f0.f3, Value.int .i64 x.f0.f4, Value.int .i64 x.f1, Value.int .i64 x.f2, Value.int .i64 x.f3.f0, Value.int .i64 x.f3.f1]) 9 (by omega) (fun _ => rfl) l ?_
 intro j hj i u hu
 obtain ⟨ad', e, hc⟩ := h3 (by omega)
 cases e
 obtain ⟨c, _, hK, hcell⟩ := hc j l[j] (List.getElem?_eq_getElem hj)
 obtain rfl := k53_open hK
 exact hcell i u hu
set_option maxRecDepth 100000 in
set_option maxHeartbeats 2000000 in
theorem api_Need_37.calls (A0 : Option Addr) (c0 : Nat) (l0 : List S53) (r : List S53) (w : World) (hr0 : Kd.C k53 w A0 l0.length l0) (hc0 : l0.length ≤ c0) (h : api_Need_37.f l0 = some r) :
  Calls Try.prog 37 #[.slice A0 l0.length c0] w fun e w' => ∃ v0_ : Value, e = .returned (v0_) ∧ Kd.R k53 53 w' w.heap.size (fun _ => True) v0_ r ∧ Below w.heap.size w w' := by
 unfold api_Need_37.f at h
 by_cases hle : l0.length ≤ 10000
 case neg => rw [if_neg hle] at h; cases h
 rw [if_pos hle] at h
 obtain rfl := Option.some.inj h
 clear h
 have q := fun (w : World) (a : Option Addr) (n c n' c' : Nat) => Lib.run_eql_slice_nil (P := Try.prog) w _ _ a n c n' c' Try.underlying23
 cases A0 with
 | none =>
  have e : l0 = [] := by
   by_cases hz : 0 < l0.length
   ·obtain ⟨_, _, h3⟩ := hr0
    obtain ⟨ad, e, _⟩ := h3 hz
    cases e
   ·exact List.length_eq_zero_iff.1 (by omega)
  subst e
  clear hr0
  go_enter Try.func37, Try.ntmps37
  go_wp2
  go_ret
  exact ⟨_, rfl, Kd.R_nil _ _ _ _ _, Below.refl _ _⟩
 | some ad =>
  have hcells := api_Need_37.cells_ w ad l0 hr0
  have hlen : (l0.flatMap (fun x : S53 => [Value.int .i64 x.f0.f0, Value.int .i64 x.f0.f1, Value.int .i64 x.f0.f2, Value.int .i64 x.f0.f3, Value.int .i64 x.f0.f4, Value.int .i64 x.f1, Value.int .i64 x.f2, Value.int .i64 x.f3.f0, Value.int .i64 x.f3.f1])).length = l0.length * 9 := api_Need_37.flat_length (fun x : S53 => [Value.int .i64 x.f0.f0, Value.int .i64 x.f0.f1, Value.int .i64 x.f0.f2, Value.int .i64 x.f0.f3, Value.int .i64 x.f0.f4, Value.int .i64 x.f1, Value.int .i64 x.f2, Value.int .i64 x.f3.f0, Value.int .i64 x.f3.f1]) 9 (fun _ => rfl) l0
  have Hc := Lib.hid hcells
  have Hl := Lib.hid hlen
  clear hcells hlen hr0
  obtain ⟨i0, hi, hz0, hz1, hz2⟩ := info_parts info53
  go_enter Try.func37, Try.ntmps37
  go_wp2_with (at_builtin; refine wpList_append_own _ rfl _ _ 23 rfl w.heap.size 53 i0 (.agg #[.int .i64 0, .int .i64 0, .int .i64 0, .int .i64 0, .int .i64 0, .int .i64 0, .int .i64 0, .int .i64 0, .int .i64 0]) 9 72 Try.underlying23 hi hz0 hz1 hz2 rfl (by decide) _ _ _ rfl (World.ownsRow_made w #[] 0 (Nat.le_refl _) (Nat.zero_le _) (by simp)) ad l0.length c0 (l0.flatMap (fun x : S53 => [Value.int .i64 x.f0.f0, Value.int .i64 x.f0.f1, Value.int .i64 x.f0.f2, Value.int .i64 x.f0.f3, Value.int .i64 x.f0.f4, Value.int .i64 x.f1, Value.int .i64 x.f2, Value.int .i64 x.f3.f0, Value.int .i64 x.f3.f1])) rfl Hl.out ?qc2 ?qc3 ?qc4 ?qc5 ?qc6 ?_)
  case qc2 => exact fun j u hj => Lib.cell?_alloc_some _ (Hc.out j u hj)
  case qc3 =>
   intro u hu
   obtain ⟨x, _, hx⟩ := List.mem_flatMap.1 hu
   simp only [List.mem_cons, List.not_mem_nil, or_false] at hx
   rcases hx with rfl | rfl | rfl | rfl | rfl | rfl | rfl | rfl | rfl <;> rfl
  case qc4 => rw [Nat.zero_add]; unfold maxLen; omega
  case qc5 => rw [Nat.zero_add]; omega
  case qc6 => simp
  intro v' w1 hown hgrow hnil
  go_wp2
  go_ret
  have hB : Below w.heap.size w w1 := ((Below.refl _ w).alloc (Nat.le_refl _) _).grown hgrow (by simp) (by intro k hk; simp [Value.ownBlock] at hk; omega)
  refine ⟨v', rfl, ⟨fun _ _ => trivial, l0.flatMap (fun x : S53 => [Value.int .i64 x.f0.f0, Value.int .i64 x.f0.f1, Value.int .i64 x.f0.f2, Value.int .i64 x.f0.f3, Value.int .i64 x.f0.f4, Value.int .i64 x.f1, Value.int .i64 x.f2, Value.int .i64 x.f3.f0, Value.int .i64 x.f3.f1]), ?_, ?_⟩, hB⟩
  ·have ho : w1.ownsRow w.heap.size 53 9 v' l0.length (l0.flatMap (fun x : S53 => [Value.int .i64 x.f0.f0, Value.int .i64 x.f0.f1, Value.int .i64 x.f0.f2, Value.int .i64 x.f0.f3, Value.int .i64 x.f0.f4, Value.int .i64 x.f1, Value.int .i64 x.f2, Value.int .i64 x.f3.f0, Value.int .i64 x.f3.f1])) := by simpa using hown
   exact ho
  ·refine ⟨Hl.out, fun j p hj => ?_⟩
   have e := api_Need_37.flat_take (fun x : S53 => [Value.int .i64 x.f0.f0, Value.int .i64 x.f0.f1, Value.int .i64 x.f0.f2, Value.int .i64 x.f0.f3, Value.int .i64 x.f0.f4, Value.int .i64 x.f1, Value.int .i64 x.f2, Value.int .i64 x.f3.f0, Value.int .i64 x.f3.f1]) 9 (fun _ => rfl) l0 j p hj
   show (k53).M _ _ _ p (((l0.flatMap (fun x : S53 => [Value.int .i64 x.f0.f0, Value.int .i64 x.f0.f1, Value.int .i64 x.f0.f2, Value.int .i64 x.f0.f3, Value.int .i64 x.f0.f4, Value.int .i64 x.f1, Value.int .i64 x.f2, Value.int .i64 x.f3.f0, Value.int .i64 x.f3.f1])).drop (j * 9)).take 9)
   rw [e]
   exact k53_mkM _ _ _ p
theorem cloned_Need (A0 : Option Addr) (c0 : Nat) (l0 : List S53) (w : World) (hr0 : Kd.C k53 w A0 l0.length l0) (hc0 : l0.length ≤ c0) (hle : l0.length ≤ 10000) :
  Calls Try.prog 37 #[.slice A0 l0.length c0] w fun e w' => ∃ v0_ : Value, e = .returned (v0_) ∧ Kd.R k53 53 w' w.heap.size (fun _ => True) v0_ l0 ∧ Below w.heap.size w w' := api_Need_37.calls A0 c0 l0 l0 w hr0 hc0 (by unfold api_Need_37.f; rw [if_pos hle])
end

end Go.Proofs.Ytpoboffdlnnbmaa.PA
