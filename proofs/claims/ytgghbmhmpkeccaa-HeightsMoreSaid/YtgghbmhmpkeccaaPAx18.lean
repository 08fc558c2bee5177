-- MADE by wip/tools/xprint.py of this repo: the kit's print.py, turned by this session, and texts by hand
import Derived.Test.YtgghbmhmpkeccaaPAx0
import Derived.Test.YtgghbmhmpkeccaaPAx4
namespace Go.Proofs.Ytgghbmhmpkeccaa.PA
open Go.RowKit Go.Proofs.YtgghbmhmpkeccaaW.PrintWords Go.Proofs.YtgghbmhmpkeccaaW.PrintLast Go.Proofs.YtgghbmhmpkeccaaW.PrintMore
attribute [local go_sem] max2_int min2_int max_two min_two max_three min_three max_four min_four   -- for this text's walks alone
set_option linter.unusedVariables false
set_option linter.unusedSimpArgs false

-- BY HAND: cloneint.tpl
-- MAKING slices_Clone_int64_int64
section
open Go.RowKit Go.Shelf Go.Proofs.YtgghbmhmpkeccaaW.PrintWords Go.Proofs.YtgghbmhmpkeccaaW.PrintLast Go.Proofs.YtgghbmhmpkeccaaW.PrintMore
/-- A clone: as long as there is room for it. -/
def slices_Clone_int64_int64.f (l0 : List Int) : Option (List Int) := if l0.length ≤ 10000 then some l0 else none
set_option maxRecDepth 100000 in
set_option maxHeartbeats 2000000 in
theorem slices_Clone_int64_int64.calls (A0 : Option Addr) (c0 : Nat) (l0 : List Int) (r : List Int) (w : World) (hr0 : Kd.C (Kd.int .i64) w A0 l0.length l0) (hc0 : l0.length ≤ c0) (h : slices_Clone_int64_int64.f l0 = some r) :
  Calls Try.prog 31 #[.slice A0 l0.length c0] w fun e w' => ∃ v0_ : Value, e = .returned (v0_) ∧ Kd.R (Kd.int .i64) 2 w' w.heap.size (fun _ => True) v0_ r ∧ Below w.heap.size w w' := by
 unfold slices_Clone_int64_int64.f at h
 by_cases hle : l0.length ≤ 10000
 case neg => rw [if_neg hle] at h; cases h
 rw [if_pos hle] at h
 obtain rfl := Option.some.inj h
 clear h
 have q := fun (w : World) (a : Option Addr) (n c n' c' : Nat) => Lib.run_eql_slice_nil (P := Try.prog) w _ _ a n c n' c' Try.underlying22
 cases A0 with
 | none =>
  have e : l0 = [] := by
   by_cases hz : 0 < l0.length
   ·obtain ⟨_, _, h3⟩ := hr0
    obtain ⟨ad, e, _⟩ := h3 hz
    cases e
   ·exact List.length_eq_zero_iff.1 (by omega)
  subst e
  clear hr0
  go_enter Try.func31, Try.ntmps31
  go_wp2
  go_ret
  exact ⟨_, rfl, Kd.R_nil _ _ _ _ _, Below.refl _ _⟩
 | some ad =>
  have hcells : ∀ j u, (l0.map (Value.int .i64))[j]? = some u → w.cell? (ad.add j) = some u := by
   intro j u hj
   have hlt : j < l0.length := by
    have := (List.getElem?_eq_some_iff.1 hj).1
    simpa using this
   obtain ⟨ad', e, _, hcell⟩ := cells_of_C hr0 (by omega)
   cases e
   rw [List.getElem?_map, List.getElem?_eq_getElem hlt] at hj
   cases hj
   exact hcell j hlt
  have hlen : (l0.map (Value.int .i64)).length = l0.length * 1 := by simp
  have Hc := Lib.hid hcells
  have Hl := Lib.hid hlen
  clear hcells hlen hr0
  obtain ⟨i0, hi, hz0, hz1, hz2⟩ := info_parts info2
  go_enter Try.func31, Try.ntmps31
  go_wp2_with (at_builtin; refine wpList_append_own _ rfl _ _ 22 rfl w.heap.size 2 i0 (.int .i64 0) 1 8 Try.underlying22 hi hz0 hz1 hz2 rfl (by decide) _ _ _ rfl (World.ownsRow_made w #[] 0 (Nat.le_refl _) (Nat.zero_le _) (by simp)) ad l0.length c0 (l0.map (Value.int .i64)) rfl Hl.out ?qc2 ?qc3 ?qc4 ?qc5 ?qc6 ?_)
  case qc2 => exact fun j u hj => Lib.cell?_alloc_some _ (Hc.out j u hj)
  case qc3 =>
   intro u hu
   obtain ⟨x, _, rfl⟩ := List.mem_map.1 hu
   rfl
  case qc4 => rw [Nat.zero_add]; unfold maxLen; omega
  case qc5 => rw [Nat.zero_add]; omega
  case qc6 => simp
  intro v' w1 hown hgrow hnil
  go_wp2
  go_ret
  have hB : Below w.heap.size w w1 := ((Below.refl _ w).alloc (Nat.le_refl _) _).grown hgrow (by simp) (by intro k hk; simp [Value.ownBlock] at hk; omega)
  have ho : w1.ownsRow w.heap.size 2 1 v' l0.length (l0.map (Value.int .i64)) := by simpa using hown
  exact ⟨v', rfl, Kd.R_of_own (h1 := fun _ => rfl) (enc := Value.int .i64) (ok := fun _ => True) ho (fun _ _ => trivial), hB⟩
theorem cloned_int (A0 : Option Addr) (c0 : Nat) (l0 : List Int) (w : World) (hr0 : Kd.C (Kd.int .i64) w A0 l0.length l0) (hc0 : l0.length ≤ c0) (hle : l0.length ≤ 10000) :
  Calls Try.prog 31 #[.slice A0 l0.length c0] w fun e w' => ∃ v0_ : Value, e = .returned (v0_) ∧ Kd.R (Kd.int .i64) 2 w' w.heap.size (fun _ => True) v0_ l0 ∧ Below w.heap.size w w' := slices_Clone_int64_int64.calls A0 c0 l0 l0 w hr0 hc0 (by unfold slices_Clone_int64_int64.f; rw [if_pos hle])
end

end Go.Proofs.Ytgghbmhmpkeccaa.PA
