-- MADE by wip/tools/xprint.py of this repo: the kit's print.py, turned by this session, and texts by hand
import Derived.Test.YtgghbmhmpkeccaaPAx0
import Derived.Test.YtgghbmhmpkeccaaPAx4
import Derived.Test.YtgghbmhmpkeccaaPAx6
import Derived.Test.YtgghbmhmpkeccaaPAx8
import Derived.Test.YtgghbmhmpkeccaaPAx10
import Derived.Test.YtgghbmhmpkeccaaPAx11
import Derived.Test.YtgghbmhmpkeccaaPAx12
import Derived.Test.YtgghbmhmpkeccaaPAx15
import Derived.Test.YtgghbmhmpkeccaaOverT
import Derived.Test.YtgghbmhmpkeccaaRound
import Derived.Test.YtgghbmhmpkeccaaTail
namespace Go.Proofs.Ytgghbmhmpkeccaa.PA
open Go.RowKit Go.Proofs.YtgghbmhmpkeccaaW.PrintWords Go.Proofs.YtgghbmhmpkeccaaW.PrintLast Go.Proofs.YtgghbmhmpkeccaaW.PrintMore
attribute [local go_sem] max2_int min2_int max_two min_two max_three min_three max_four min_four   -- for this text's walks alone
set_option linter.unusedVariables false
set_option linter.unusedSimpArgs false

-- BY HAND: hleast.tpl
-- MAKING heights_Least
section
open Go.RowKit Go.Shelf StabCell Go.Proofs.YtgghbmhmpkeccaaW.PrintWords Go.Proofs.YtgghbmhmpkeccaaW.PrintLast Go.Proofs.YtgghbmhmpkeccaaW.PrintMore
attribute [local go_sem] Oper.semAt_some
/-- Heights, laid onto others from a place on. -/
def layAt (out : List Int) (p : Nat) (ys : List Int) : List Int := out.take p ++ ys ++ out.drop (p + ys.length)
theorem layAt_length (out : List Int) (p : Nat) (ys : List Int) (h : p + ys.length ≤ out.length) : (layAt out p ys).length = out.length := by
 unfold layAt
 simp
 omega
set_option maxRecDepth 100000 in
/-- copy onto a part of a row. -/
theorem copy_part {W : World} {base G L cap : Nat} {ok : Nat → Prop} {all : List Int} (h : Kd.R (Kd.int .i64) 2 W base ok (.slice (some ⟨G, 0, none⟩) L cap) all) (p n : Nat) (hn : p + n ≤ all.length) (A : Option Addr) (c : Nat) (ys : List Int) (hy : Kd.C (Kd.int .i64) W A ys.length ys) (hl : ys.length ≤ n) (ty : TypeId) (d : Nat) :
  ∃ W', (Builtin.copy_ #[22, 22] ty #[.slice (some ⟨G, p, none⟩) n d, .slice A ys.length c]).run Try.prog W = .ok (goInt (ys.length : Int)) W' ∧ Kd.R (Kd.int .i64) 2 W' base ok (.slice (some ⟨G, 0, none⟩) L cap) (layAt all p ys) ∧ W.grownBy W' (some G) := by
 have hinfo : (Try.prog.info? 2).map (·.size) = some 1 := by kernel_rfl
 obtain ⟨hL, _, _⟩ := Kd.R_reads' h
 subst hL
 by_cases hz : ys.length = 0
 ·obtain rfl := List.length_eq_zero_iff.1 hz
  refine ⟨W, run_copy_none W _ _ ty 2 _ A n d 0 c Try.underlying22 hinfo (by simp), ?_, World.grownBy.refl W _⟩
  have e : layAt all p [] = all := by unfold layAt; simp
  rw [e]
  exact h
 ·obtain ⟨ad, rfl, _, hcell⟩ := cells_of_C hy (by omega)
  have hown := Kd.own_of_R (h1 := fun _ => rfl) (enc := Value.int .i64) h
  rcases hown.2 with ⟨_, hx0⟩ | ⟨g, cap', cur, hv, hb, hh, hnc, hcm, hcs, htake⟩
  ·exfalso; omega
  simp only [Value.slice.injEq, Option.some.injEq, Addr.mk.injEq, and_true, true_and] at hv
  obtain ⟨rfl, rfl⟩ := hv
  have hcur : all.length ≤ cur.size := by omega
  have hcl : (ys.map (Value.int .i64)).length = ys.length := List.length_map _
  have hr := run_copy_cells (P := Try.prog) W 22 22 ty 2 G p n d ad ys.length c (ys.map (Value.int .i64)) Try.underlying22 hinfo (by rw [hcl]; exact (Nat.min_eq_left hl).symm)
   (fun j u hj => by
    have hlt : j < ys.length := by
     have := (List.getElem?_eq_some_iff.1 hj).1
     simpa using this
    rw [List.getElem?_map, List.getElem?_eq_getElem hlt] at hj
    cases hj
    exact hcell j hlt)
   (fun j hj => by rw [cell_of_row W G _ cur 2 (0, 0) hh]; simp; omega) (fun j _ => blk_frozen hh _) (by
    intro u hu
    obtain ⟨q, _, rfl⟩ := List.mem_map.1 hu
    rfl)
  rw [hcl] at hr
  obtain ⟨cur', h3, h4, h5⟩ := setCells_row (ys.map (Value.int .i64)) p W cur hh (by rw [hcl]; omega)
  obtain ⟨s1, s2, s3, s4⟩ := setCells_same G (ys.map (Value.int .i64)) p W
  refine ⟨_, hr, ?_, s1, s2, s3, by rw [s4]; exact Nat.le_refl _, fun k _ hk => setCells_far _ _ k (fun he => hk (by rw [he]))⟩
  have hll : (layAt all p ys).length = all.length := layAt_length all p ys (by omega)
  rw [← hll]
  refine Kd.R_of_own (h1 := fun _ => rfl) (enc := Value.int .i64) ?_ h.1
  refine ⟨by rw [encs_length, Nat.mul_one], .inr ⟨G, cap, cur', rfl, hb, h3, by rw [hll]; exact hnc, hcm, by rw [h4, hcs], ?_⟩⟩
  have htk : cur.toList.take all.length = all.map (Value.int .i64) := by
   have := htake
   rw [Nat.mul_one] at this
   rw [this]
   rfl
  have hCl : cur.toList.length = cur.size := Array.length_toList
  have e1 : (cur.toList.take p ++ ys.map (Value.int .i64)).length = p + ys.length := by rw [List.length_append, List.length_take, hcl, hCl]; omega
  rw [h5, hcl, Nat.mul_one, hll]
  show _ = (layAt all p ys).map (Value.int .i64)
  unfold layAt
  rw [List.map_append, List.map_append, List.map_take, List.map_drop, ← htk, List.take_append, List.take_of_length_le (by rw [e1]; omega), e1, List.take_take, Nat.min_eq_left (by omega), List.drop_take]
def partH (out : List Int) (p n : Nat) : List Int := (out.drop p).take n
theorem partH_length (out : List Int) (p n : Nat) (h : p + n ≤ out.length) : (partH out p n).length = n := by
 unfold partH
 rw [List.length_take, List.length_drop]
 omega
/-- A part of an owned row is a slice that is read. -/
theorem R_partH {W : World} {base G L cap : Nat} {ok : Nat → Prop} {all : List Int} (h : Kd.R (Kd.int .i64) 2 W base ok (.slice (some ⟨G, 0, none⟩) L cap) all) (from_ n : Nat) (hn : from_ + n ≤ all.length) : Kd.C (Kd.int .i64) W (some ⟨G, from_, none⟩) (partH all from_ n).length (partH all from_ n) := by
 obtain ⟨hL, hLc, hC⟩ := Kd.R_reads' h
 have hmax := Kd.C_max hC
 have hl : (partH all from_ n).length = n := partH_length all from_ n hn
 refine ⟨rfl, by omega, fun _ => ⟨_, rfl, fun i b hb => ?_⟩⟩
 have hi : i < n := by rw [← hl]; exact (List.getElem?_eq_some_iff.1 hb).1
 obtain ⟨ad, c, e, hcl, hK, hc⟩ := Kd.C_get hC 0 ((from_ + i : Nat) : Int) (by omega) (by omega)
 cases e
 rw [List.getD_eq_getElem?_getD, Int.toNat_natCast] at hK
 have hb2 : all[from_ + i]?.getD 0 = b := by
  unfold partH at hb
  rw [List.getElem?_take_of_lt hi, List.getElem?_drop] at hb
  rw [hb]
  rfl
 rw [hb2] at hK
 refine ⟨c, hcl, hK, fun q u hu => ?_⟩
 have := hc q u hu
 rw [Int.toNat_natCast] at this
 rw [add_plain] at this
 have e2 : (⟨G, from_, none⟩ : Addr).add (i * (Kd.int .i64).sz + q) = ⟨G, (from_ + i) * (Kd.int .i64).sz + q, none⟩ := by
  have e3 : (Kd.int .i64).sz = 1 := rfl
  unfold Addr.add
  split <;> simp_all <;> omega
 rw [e2]
 exact this
open Go.Proofs.Ytgghbmhmpkeccaa.Base in
def overH (gap : Int) (out : List Int) (x : HCell) : List Int × Int := overT (partN gap x.f0.f3 x.f1) (partH out x.f0.f1.toNat x.f0.f3.toNat) (partH out x.f0.f1.toNat x.f0.f3.toNat)
/-- One cell more: no heights: an error. -/
def stepH (gap : Int) (out : List Int) (x : HCell) : Option (List Int) :=
 if x.f0.f3 = 1 then some (out.set x.f0.f1.toNat (mx (out[x.f0.f1.toNat]?.getD 0) x.f1))
 else if (overH gap out x).2 = 0 then some (layAt out x.f0.f1.toNat (overH gap out x).1) else none
def leastT (gap : Int) : List HCell → List Int → Option (List Int)
 | [], out => some out
 | x :: xs, out => (stepH gap out x).bind (leastT gap xs)
theorem leastT_append (gap : Int) : ∀ (xs ys : List HCell) (out : List Int), leastT gap (xs ++ ys) out = (leastT gap xs out).bind (leastT gap ys)
 | [], ys, out => rfl
 | x :: xs, ys, out => by
  show (stepH gap out x).bind (leastT gap (xs ++ ys)) = ((stepH gap out x).bind (leastT gap xs)).bind _
  cases stepH gap out x with
  | none => rfl
  | some o => exact leastT_append gap xs ys o
/-- A cell that lies within n rows. -/
def InRows (n : Nat) (x : HCell) : Prop := 0 ≤ x.f0.f1 ∧ 1 ≤ x.f0.f3 ∧ x.f0.f1 + x.f0.f3 ≤ (n : Int) ∧ 0 ≤ x.f1 ∧ x.f1 ≤ 1125899906842623
open Go.Proofs.Ytgghbmhmpkeccaa.Base in
theorem stepH_length (gap : Int) (out o : List Int) (x : HCell) (hx : InRows out.length x) (h : stepH gap out x = some o) : o.length = out.length := by
 obtain ⟨h1, h2, h3, _⟩ := hx
 unfold stepH at h
 split at h
 ·cases h
  rw [List.length_set]
 ·split at h
  ·cases h
   have := overT_length (partN gap x.f0.f3 x.f1) (partH out x.f0.f1.toNat x.f0.f3.toNat) (partH out x.f0.f1.toNat x.f0.f3.toNat)
   rw [partH_length _ _ _ (by omega)] at this
   exact layAt_length _ _ _ (by unfold overH; omega)
  ·cases h
theorem leastT_length (gap : Int) : ∀ (xs : List HCell) (out o : List Int), (∀ x ∈ xs, InRows out.length x) → leastT gap xs out = some o → o.length = out.length
 | [], out, o, _, h => by
  cases h
  rfl
 | x :: xs, out, o, hx, h => by
  obtain ⟨o1, h1, h2⟩ := Option.bind_eq_some_iff.1 h
  have e := stepH_length gap out o1 x (hx x (by simp)) h1
  rw [leastT_length gap xs o1 o (fun y hy => by rw [e]; exact hx y (by simp [hy])) h2, e]
/-- The cells, those of fewer rows first. -/
def cellsS (L : List HCell) (m : Nat) : List HCell := (blocksCell (rowsAt L) L.length 1 m).map (fun i => L[i]?.getD zH)
def leastOk (l0 : List Int) (l1 : List S35) (l2 : List Int) (a3 : Int) : Bool := rightH l0 l1 l2 a3 && decide (l1.length ≤ 1000)
def hRows (R : Option (List Int)) : List Int := R.getD []
def hErr (R : Option (List Int)) : Int := if R.isSome then 0 else 160
def leastR (l0 : List Int) (l1 : List S35) (l2 : List Int) (a3 : Int) : Option (List Int) := leastT a3 (cellsS (cellsL l1 l2) l0.length) (l0.map (fun n => mx n 0))
def heights_Least.f (l0 : List Int) (l1 : List S35) (l2 : List Int) (a3 : Int) : Option (List Int × Int) :=
 if l0.length ≤ 8000 then (if leastOk l0 l1 l2 a3 = true then some (hRows (leastR l0 l1 l2 a3), hErr (leastR l0 l1 l2 a3)) else some ([], 160)) else none
def LeastPost (w : World) (r1 : List Int) (r2 : Int) (e : Ending) (w' : World) : Prop := ∃ v0_ : Value, e = .returned (.tuple #[v0_, .int .i64 r2]) ∧ Kd.R (Kd.int .i64) 2 w' w.heap.size (fun _ => True) v0_ r1 ∧ Below w.heap.size w w'
/-- What an error leaves in the results' boxes. -/
theorem errH_end {w W : World} {B : Nat} {v6 v7 : Value} (hw : w.heap.size = B) (b6 : Boxed W (B + 1) 22 v6) (b7 : Boxed W (B + 1 + 1) 27 v7) (hB : Below w.heap.size w W) :
  Boxed ((W.setCell ⟨B + 1, 0, none⟩ (.slice none 0 0)).setCell ⟨B + 1 + 1, 0, none⟩ (.int .i64 160)) (B + 1) 22 (.slice none 0 0) ∧
  Boxed ((W.setCell ⟨B + 1, 0, none⟩ (.slice none 0 0)).setCell ⟨B + 1 + 1, 0, none⟩ (.int .i64 160)) (B + 1 + 1) 27 (.int .i64 160) ∧
  (W.setCell ⟨B + 1, 0, none⟩ (.slice none 0 0)).frozen? ⟨B + 1 + 1, 0, none⟩ = false ∧ (W.setCell ⟨B + 1, 0, none⟩ (.slice none 0 0)).cell? ⟨B + 1 + 1, 0, none⟩ = some v7 ∧
  Below w.heap.size w ((W.setCell ⟨B + 1, 0, none⟩ (.slice none 0 0)).setCell ⟨B + 1 + 1, 0, none⟩ (.int .i64 160)) :=
 ⟨(b6.set _).other (by omega) _, (b7.other (by omega) _).set _, (b7.other (by omega) _).frozen, (b7.other (by omega) _).cell, (hB.setCell (p := ⟨B + 1, 0, none⟩) (by show _ ≤ B + 1; omega) _).setCell (p := ⟨B + 1 + 1, 0, none⟩) (by show _ ≤ B + 1 + 1; omega) _⟩
/-- What the rounds keep. -/
structure LeastI (w : World) (B M : Nat) (a2 : Int) (v5 : Value) (out : List Int) (W : World) : Prop where
 own : Kd.R (Kd.int .i64) 2 W w.heap.size (fun k => k ≠ B) v5 out
 gap : Boxed W B 2 (.int .i64 a2)
 r6 : Boxed W (B + 1) 22 (.slice none 0 0)
 r7 : Boxed W (B + 1 + 1) 27 (.int .i64 0)
 box : Boxed W M 22 v5
 below : Below w.heap.size w W
theorem LeastI.keep {w : World} {B M : Nat} {a2 : Int} {v5 : Value} {out : List Int} {W W2 : World} {row : Option Nat} (h : LeastI w B M a2 v5 out W) (hg : W.grownBy W2 row) (hr : ∀ r, row = some r → w.heap.size ≤ r ∧ ∃ o : Obj, W.heap[r]? = some o ∧ o.isCells = false) : LeastI w B M a2 v5 out W2 := by
 have hne : ∀ (b : Nat) (cs : Array Value) (t : TypeId), W.heap[b]? = some (.cells cs t (0, 0)) → some b ≠ row := fun b cs t hb e => by
  obtain ⟨_, o, ho, hc⟩ := hr b e.symm
  rw [hb] at ho
  cases ho
  cases hc
 refine ⟨Kd.R_mono (Kd.R_step (Kd.R_bound h.own) (fun k hk hlt => ?_)) (fun _ hk => hk.1), h.gap.kept hg (hne _ _ _ h.gap), h.r6.kept hg (hne _ _ _ h.r6), h.r7.kept hg (hne _ _ _ h.r7), h.box.kept hg (hne _ _ _ h.box), h.below.grown hg h.below.size (fun k hk => (hr k hk).1)⟩
 obtain ⟨_, _, _, q, _, cells, hcell⟩ := hk
 exact hg.block k hlt (hne _ _ _ hcell)
/-- A step that leaves what there was. -/
theorem LeastI.step {w : World} {B M : Nat} {a2 : Int} {v5 : Value} {out : List Int} {W W2 : World} (h : LeastI w B M a2 v5 out W) (hb : Below W.heap.size W W2) : LeastI w B M a2 v5 out W2 :=
 h.keep (grown_of_below hb none) (fun _ e => by cases e)
/-- A step that changes the row. -/
theorem LeastI.spread {w : World} {B M : Nat} {a2 : Int} {G L c : Nat} {out out' : List Int} {W W2 : World} (h : LeastI w B M a2 (.slice (some ⟨G, 0, none⟩) L c) out W) (hR : Kd.R (Kd.int .i64) 2 W2 w.heap.size (fun k => k ≠ B) (.slice (some ⟨G, 0, none⟩) L c) out') (hg : W.grownBy W2 (some G)) :
  LeastI w B M a2 (.slice (some ⟨G, 0, none⟩) L c) out' W2 ∧ KeepsOthers W W2 ∧ KpH (fun b => (Value.slice (some ⟨G, 0, none⟩) L c).ownBlock = some b) W W2 := by
 obtain ⟨cells, hcell⟩ := Kd.R_typed h.own G rfl
 have hne : ∀ {b : Nat} {t : TypeId} {v : Value}, Boxed W b t v → t ≠ 2 → some b ≠ some G := fun hb ht e => blk_ne hb hcell ht (by cases e; rfl)
 refine ⟨⟨hR, h.gap.kept hg (fun e => h.own.1 G rfl (by cases e; rfl)), h.r6.kept hg (hne h.r6 (by decide)), h.r7.kept hg (hne h.r7 (by decide)), h.box.kept hg (hne h.box (by decide)), h.below.grown hg h.below.size (fun k hk => Kd.R_base h.own k hk)⟩, ?_, ?_⟩
 ·refine KeepsOthers.of_grownBy hg (fun j o hj ho => ?_)
  cases hj
  rw [hcell] at ho
  cases ho
  rfl
 ·exact KpH.of_grownBy hg (fun r e => e)
/-- What a good end leaves. -/
theorem LeastI.ends {w : World} {B M : Nat} {a2 : Int} {v5 : Value} {out : List Int} {W : World} (hw : w.heap.size = B) (h : LeastI w B M a2 v5 out W) {D : Nat} (hD : w.heap.size ≤ D) (hKD : W.heap[D]? = some (.deferred (some []))) :
  Boxed ((W.setCell ⟨B + 1, 0, none⟩ v5).setCell ⟨B + 1 + 1, 0, none⟩ (.int .i64 0)) (B + 1) 22 v5 ∧ Boxed ((W.setCell ⟨B + 1, 0, none⟩ v5).setCell ⟨B + 1 + 1, 0, none⟩ (.int .i64 0)) (B + 1 + 1) 27 (.int .i64 0) ∧
  (W.setCell ⟨B + 1, 0, none⟩ v5).frozen? ⟨B + 1 + 1, 0, none⟩ = false ∧ (W.setCell ⟨B + 1, 0, none⟩ v5).cell? ⟨B + 1 + 1, 0, none⟩ = some (.int .i64 0) ∧
  ((W.setCell ⟨B + 1, 0, none⟩ v5).setCell ⟨B + 1 + 1, 0, none⟩ (.int .i64 0)).heap[D]? = some (.deferred (some [])) ∧
  Kd.R (Kd.int .i64) 2 (((W.setCell ⟨B + 1, 0, none⟩ v5).setCell ⟨B + 1 + 1, 0, none⟩ (.int .i64 0)).putObj D (.deferred none)) w.heap.size (fun _ => True) v5 out ∧
  Below w.heap.size w (((W.setCell ⟨B + 1, 0, none⟩ v5).setCell ⟨B + 1 + 1, 0, none⟩ (.int .i64 0)).putObj D (.deferred none)) ∧
  (((W.setCell ⟨B + 1, 0, none⟩ v5).setCell ⟨B + 1 + 1, 0, none⟩ (.int .i64 0)).putObj D (.deferred none)).cell? ⟨B + 1, 0, none⟩ = some v5 ∧ (((W.setCell ⟨B + 1, 0, none⟩ v5).setCell ⟨B + 1 + 1, 0, none⟩ (.int .i64 0)).putObj D (.deferred none)).cell? ⟨B + 1 + 1, 0, none⟩ = some (.int .i64 0) := by
 have hD1 : D ≠ B + 1 := fun e => by
  have := h.r6
  unfold Boxed at this
  rw [← e, hKD] at this
  cases this
 have hD2 : D ≠ B + 1 + 1 := fun e => by
  have := h.r7
  unfold Boxed at this
  rw [← e, hKD] at this
  cases this
 have hX : ((W.setCell ⟨B + 1, 0, none⟩ v5).setCell ⟨B + 1 + 1, 0, none⟩ (.int .i64 0)).heap[D]? = some (.deferred (some [])) := (Below.heap_setCell _ ⟨B + 1 + 1, 0, none⟩ _ _ hD2).trans ((Below.heap_setCell _ ⟨B + 1, 0, none⟩ _ _ hD1).trans hKD)
 have hB : Below w.heap.size w ((W.setCell ⟨B + 1, 0, none⟩ v5).setCell ⟨B + 1 + 1, 0, none⟩ (.int .i64 0)) := (h.below.setCell (p := ⟨B + 1, 0, none⟩) (by show _ ≤ B + 1; omega) _).setCell (p := ⟨B + 1 + 1, 0, none⟩) (by show _ ≤ B + 1 + 1; omega) _
 refine ⟨(h.r6.set _).other (by omega) _, (h.r7.other (by omega) _).set _, (h.r7.other (by omega) _).frozen, (h.r7.other (by omega) _).cell, hX, ?_, hB.trans (belowK_b (w := w) (Nat.le_refl _) _ D _ _ hD hX rfl rfl), ((World.cell?_of_block (a := ⟨B + 1, 0, none⟩) (World.putObj_heap_other (Ne.symm hD1))).trans ((h.r6.set _).other (by omega) _).cell), ((World.cell?_of_block (a := ⟨B + 1 + 1, 0, none⟩) (World.putObj_heap_other (Ne.symm hD2))).trans ((h.r7.other (by omega) _).set _).cell)⟩
 refine Kd.R_mono (Kd.R_step (w := W) (Kd.R_tight2 rfl h.own) (fun k hk hlt => ?_)) (fun _ _ => trivial)
 obtain ⟨cells, hcell⟩ := Kd.R_typed h.own k hk.1.symm
 have k1 : k ≠ B + 1 := (blk_ne h.r6 hcell (by decide)).symm
 have k2 : k ≠ B + 1 + 1 := (blk_ne h.r7 hcell (by decide)).symm
 have k3 : D ≠ k := fun e => by
  rw [← e, hKD] at hcell
  cases hcell
 exact (World.putObj_heap_other (Ne.symm k3)).trans ((Below.heap_setCell _ ⟨B + 1 + 1, 0, none⟩ _ _ k2).trans (Below.heap_setCell _ ⟨B + 1, 0, none⟩ _ _ k1))
set_option maxRecDepth 1000000 in
set_option maxHeartbeats 4000000 in
theorem least_bad (A0 : Option Addr) (c0 : Nat) (l0 : List Int) (A1 : Option Addr) (c1 : Nat) (l1 : List S35) (A2 : Option Addr) (c2 : Nat) (l2 : List Int) (a3 : Int) (w : World) (hr0 : Kd.C (Kd.int .i64) w A0 l0.length l0) (hc0 : l0.length ≤ c0) (hr1 : Kd.C k35 w A1 l1.length l1) (hc1 : l1.length ≤ c1) (hr2 : Kd.C (Kd.int .i64) w A2 l2.length l2) (hc2 : l2.length ≤ c2) (h : leastOk l0 l1 l2 a3 = false) :
  Calls Try.prog 8 #[.slice A0 l0.length c0, .slice A1 l1.length c1, .slice A2 l2.length c2, .int .i64 a3] w (LeastPost w [] 160) := by
 have hcall := fun W (hB : Below w.heap.size w W) => heights_Right.calls A0 c0 l0 A1 c1 l1 A2 c2 l2 a3 _ W (Kd.C_below hr0 hB) hc0 (Kd.C_below hr1 hB) hc1 (Kd.C_below hr2 hB) hc2 rfl
 have hmax : l1.length ≤ 9223372036854775807 := Kd.C_max hr1
 clear hr0 hr1 hr2
 obtain ⟨B, hB⟩ : ∃ B, w.heap.size = B := ⟨_, rfl⟩
 obtain ⟨W0, hW0⟩ : ∃ W0, (((w.alloc (.cells #[.int .i64 a3] 2)).alloc (.cells #[.slice none 0 0] 22)).alloc (.cells #[.int .i64 0] 27)) = W0 := ⟨_, rfl⟩
 have b5 : Boxed W0 B 2 (.int .i64 a3) := by rw [← hW0]; exact ((boxNew hB).alloc _).alloc _
 have b6 : Boxed W0 (B + 1) 22 (.slice none 0 0) := by rw [← hW0]; exact (boxNew (by simp [hB])).alloc _
 have b7 : Boxed W0 (B + 1 + 1) 27 (.int .i64 0) := by rw [← hW0]; exact boxNew (by simp [hB])
 have HW := Lib.hid (show Below w.heap.size w W0 by rw [← hW0]; exact (((Below.refl _ w).alloc (Nat.le_refl _) _).alloc (by simp) _).alloc (by simp; omega) _)
 have HW0 := Lib.hid hW0
 have B6 := Lib.hid b6
 have B7 := Lib.hid b7
 have x5 := b5.cell
 clear hW0 b5 b6 b7
 have hend : ∀ w2, Below W0.heap.size W0 w2 → Boxed w2 (B + 1) 22 (.slice none 0 0) ∧ Boxed w2 (B + 1 + 1) 27 (.int .i64 0) ∧ Below w.heap.size w w2 := fun w2 hb2 => ⟨(hb2.block _ (blk_lt B6.out)).trans B6.out, (hb2.block _ (blk_lt B7.out)).trans B7.out, below_step HW.out hb2⟩
 have HE := Lib.hid hend
 clear hend
 have HC := Lib.hid hcall
 clear hcall
 have hp : rightH l0 l1 l2 a3 = false ∨ (rightH l0 l1 l2 a3 = true ∧ ¬ l1.length ≤ 1000) := by
  unfold leastOk at h
  rw [Bool.and_eq_false_iff, decide_eq_false_iff_not] at h
  cases hh : rightH l0 l1 l2 a3 with
  | false => exact .inl rfl
  | true => rw [hh] at h; exact .inr ⟨rfl, by simpa using h⟩
 clear h
 rcases hp with hp | ⟨hp, hlong⟩
 ·rw [hp] at HC
  go_enter Try.func8, Try.ntmps8
  go_wp2_with fail
  rw [HW0.out]
  refine wp_scope_straight ?_
  go_wp2_with fail
  go_at_call 10
  refine (HC.out _ HW.out).mono ?_
  rintro e w2 ⟨rfl, hb2⟩
  obtain ⟨b6', b7', hB2⟩ := HE.out w2 hb2
  obtain ⟨x1, x2, x3, x4, x5⟩ := errH_end hB b6' b7' hB2
  have y1 := b6'.cell
  have y2 := b6'.frozen
  have z1 := x1.cell
  have z2 := x2.cell
  have X5 := Lib.hid x5
  clear hb2 B6 B7 b6' b7' x1 x2 x5 HW0 HC HW HE hB2
  go_wp2_with fail
  (try simp only [Exit.noGoto])
  refine bodyPost_ret (v := .tuple #[.slice none 0 0, .int .i64 160]) (by simp [results, Try.results8, go_sem, z1, z2]) rfl ⟨_, rfl, Kd.R_nil _ _ _ _ _, X5.out⟩
 ·rw [hp] at HC
  have hlz : decide ((l1.length : Int) > 1000) = true := decide_eq_true (by omega)
  clear hlong
  go_enter Try.func8, Try.ntmps8
  go_wp2_with fail
  rw [HW0.out]
  refine wp_scope_straight ?_
  go_wp2_with fail
  go_at_call 10
  refine (HC.out _ HW.out).mono ?_
  rintro e w2 ⟨rfl, hb2⟩
  obtain ⟨b6', b7', hB2⟩ := HE.out w2 hb2
  obtain ⟨x1, x2, x3, x4, x5⟩ := errH_end hB b6' b7' hB2
  have y1 := b6'.cell
  have y2 := b6'.frozen
  have z1 := x1.cell
  have z2 := x2.cell
  have X5 := Lib.hid x5
  clear hb2 B6 B7 b6' b7' x1 x2 x5 HW0 HC HW HE hB2
  go_wp2_with fail
  (try simp only [Exit.noGoto])
  refine bodyPost_ret (v := .tuple #[.slice none 0 0, .int .i64 160]) (by simp [results, Try.results8, go_sem, z1, z2]) rfl ⟨_, rfl, Kd.R_nil _ _ _ _ _, X5.out⟩
/-- A height more: the row and its box. -/
theorem LeastI.push {w : World} {B M : Nat} {a3 : Int} {v v1 : Value} {out ys : List Int} {W w1 : World} (hw : w.heap.size = B) (hM : B + 1 + 1 < M) (h : LeastI w B M a3 v out W) (ho : Kd.R (Kd.int .i64) 2 w1 w.heap.size (fun k => k ≠ B) v1 ys) (hb : Below w.heap.size w w1) (hg : W.grownBy w1 v.ownBlock) :
  Boxed w1 M 22 v ∧ LeastI w B M a3 v1 ys (w1.setCell ⟨M, 0, none⟩ v1) := by
 have hne : ∀ {b : Nat} {t : TypeId} {u : Value}, Boxed W b t u → t ≠ 2 → some b ≠ v.ownBlock := fun {b t u} hbx ht e => blk_ne hbx (Kd.R_typed h.own b e.symm).choose_spec ht rfl
 have k1 : Boxed w1 B 2 (.int .i64 a3) := h.gap.kept hg (fun e => h.own.1 B e.symm rfl)
 have k2 := h.r6.kept hg (hne h.r6 (by decide))
 have k3 := h.r7.kept hg (hne h.r7 (by decide))
 have k4 := h.box.kept hg (hne h.box (by decide))
 have kR : Kd.R (Kd.int .i64) 2 (w1.setCell ⟨M, 0, none⟩ v1) w.heap.size (fun k => k ≠ B) v1 ys :=
  Kd.R_mono (Kd.R_far (p := ⟨M, 0, none⟩) (Kd.R_tight2 rfl ho) (fun k hk e => by
   subst e
   exact blk_ne k4 (Kd.R_typed ho _ hk.1.symm).choose_spec (by decide) rfl) v1) (fun _ hk => hk.2)
 exact ⟨k4, kR, k1.other (by omega) _, k2.other (by omega) _, k3.other (by omega) _, k4.set _, hb.setCell (p := ⟨M, 0, none⟩) (by show _ ≤ M; omega) _⟩
theorem cells_sorted (L : List HCell) (d : Array Nat) (m : Nat) (h1 : d.size = L.length) (h2 : SrtCell (rowsAt L) d 0 L.length) (h3 : ∀ x, x < L.length → d[x]! < L.length) (hx : ∀ x ∈ L, 1 ≤ x.f0.f3 ∧ x.f0.f3 ≤ (m : Int)) : cellsOf L (finH L.length d.toList) = cellsS L m := by
 have hk : ∀ i, i < L.length → 1 ≤ rowsAt L i ∧ rowsAt L i ≤ (m : Int) := by
  intro i hi
  unfold rowsAt
  rw [List.getElem?_eq_getElem hi]
  exact hx _ (List.getElem_mem hi)
 have hb : ∀ i ∈ d.toList, i < L.length := fun i hi => (srt_memCell h1 h2 h3 i).1 hi
 have e := sorted_blocksCell (c0 := 1) (m := m) h1 h2 h3 (fun i hi => by have := hk i hi; omega)
 have e2 : d.toList.filter (fun i => decide (1 ≤ rowsAt L i)) = d.toList := by
  rw [List.filter_eq_self]
  intro i hi
  exact decide_eq_true (hk i (hb i hi)).1
 rw [e2] at e
 unfold cellsOf cellsS
 rw [← e]
 have e3 := finH_map L.length d.toList hb
 conv => rhs; rw [← e3]
 rw [List.map_map]
 refine List.map_congr_left (fun i _ => ?_)
 show L[i.1] = L[i.1]?.getD _
 rw [List.getElem?_eq_getElem i.2]
 rfl
theorem right_cells {l0 : List Int} {l1 : List S35} {l2 : List Int} {a3 : Int} (h : rightH l0 l1 l2 a3 = true) : l1.length = l2.length ∧ 0 ≤ a3 ∧ a3 ≤ 1073741824 ∧ ∀ x ∈ cellsL l1 l2, InRows l0.length x := by
 unfold rightH at h
 simp only [Bool.and_eq_true, Bool.not_eq_true', decide_eq_true_eq] at h
 obtain ⟨⟨⟨⟨⟨h1, h2⟩, h3⟩, h4⟩, h5⟩, h6⟩ := h
 have h5' : 0 ≤ a3 ∧ a3 ≤ 1073741824 := by
  unfold lenBad at h5
  simp only [Bool.or_eq_false_iff, decide_eq_false_iff_not] at h5
  omega
 refine ⟨h3, h5'.1, h5'.2, fun x hx => ?_⟩
 unfold cellsL at hx
 obtain ⟨k, hk, e⟩ := List.mem_iff_getElem.1 hx
 have hk1 : k < l1.length := by rw [List.length_zipWith] at hk; omega
 have hk2 : k < l2.length := by omega
 rw [List.getElem_zipWith] at e
 subst e
 have b1 := List.any_eq_false.1 h6 l1[k] (List.getElem_mem hk1)
 have b2 := List.any_eq_false.1 h4 l2[k] (List.getElem_mem hk2)
 have b1' : badPlace (l0.length : Int) l1[k] = false := by simpa using b1
 have b2' : offBounds 0 1125899906842623 l2[k] = false := by simpa using b2
 unfold badPlace offRow at b1'
 unfold offBounds at b2'
 simp only [Bool.or_eq_false_iff, decide_eq_false_iff_not] at b1' b2'
 obtain ⟨⟨⟨q1, q2⟩, q3⟩, q4⟩ := b1'
 unfold InRows
 dsimp only
 omega
set_option maxRecDepth 1000000 in
set_option maxHeartbeats 8000000 in
theorem least_main (A0 : Option Addr) (c0 : Nat) (l0 : List Int) (A1 : Option Addr) (c1 : Nat) (l1 : List S35) (A2 : Option Addr) (c2 : Nat) (l2 : List Int) (a3 : Int) (w : World) (hr0 : Kd.C (Kd.int .i64) w A0 l0.length l0) (hc0 : l0.length ≤ c0) (hr1 : Kd.C k35 w A1 l1.length l1) (hc1 : l1.length ≤ c1) (hr2 : Kd.C (Kd.int .i64) w A2 l2.length l2) (hc2 : l2.length ≤ c2) (h0 : l0.length ≤ 8000) (hp : rightH l0 l1 l2 a3 = true) (hlong : l1.length ≤ 1000) (R : Option (List Int)) (hf : leastR l0 l1 l2 a3 = R) :
  Calls Try.prog 8 #[.slice A0 l0.length c0, .slice A1 l1.length c1, .slice A2 l2.length c2, .int .i64 a3] w (LeastPost w (hRows R) (hErr R)) := by
 have hcall := fun W (hB : Below w.heap.size w W) => heights_Right.calls A0 c0 l0 A1 c1 l1 A2 c2 l2 a3 _ W (Kd.C_below hr0 hB) hc0 (Kd.C_below hr1 hB) hc1 (Kd.C_below hr2 hB) hc2 rfl
 rw [hp] at hcall
 obtain ⟨hlen, g0, g1, hin⟩ := right_cells hp
 have Hin := Lib.hid hin
 have Hlen := Lib.hid hlen
 have Hr0 := Lib.hid hr0
 have Hr1 := Lib.hid hr1
 have Hr2 := Lib.hid hr2
 have Hf := Lib.hid hf
 have HC := Lib.hid hcall
 clear hr0 hr1 hr2 hf hp hcall hin hlen
 have hlz : decide ((l1.length : Int) > 1000) = false := decide_eq_false (by omega)
 obtain ⟨B, hB⟩ : ∃ B, w.heap.size = B := ⟨_, rfl⟩
 obtain ⟨W0, hW0⟩ : ∃ W0, (((w.alloc (.cells #[.int .i64 a3] 2)).alloc (.cells #[.slice none 0 0] 22)).alloc (.cells #[.int .i64 0] 27)) = W0 := ⟨_, rfl⟩
 have b5 : Boxed W0 B 2 (.int .i64 a3) := by rw [← hW0]; exact ((boxNew hB).alloc _).alloc _
 have b6 : Boxed W0 (B + 1) 22 (.slice none 0 0) := by rw [← hW0]; exact (boxNew (by simp [hB])).alloc _
 have b7 : Boxed W0 (B + 1 + 1) 27 (.int .i64 0) := by rw [← hW0]; exact boxNew (by simp [hB])
 have HW := Lib.hid (show Below w.heap.size w W0 by rw [← hW0]; exact (((Below.refl _ w).alloc (Nat.le_refl _) _).alloc (by simp) _).alloc (by simp; omega) _)
 have HW0 := Lib.hid hW0
 have B5 := Lib.hid b5
 have B6 := Lib.hid b6
 have B7 := Lib.hid b7
 have x5 := b5.cell
 clear hW0 b5 b6 b7
 refine (callsIn_wide (n := 6)).1 ?_
 refine callsIn_of_wp_marks Try.func8 rfl trivial ?_ rfl
 rw [wpIn_wide]
 simp only [Try.ntmps8, List.size_toArray, List.length_cons, List.length_nil, Nat.reduceAdd, Nat.reduceSub, Array.replicate_succ, Array.replicate_zero, List.push_toArray, List.append_toArray, List.nil_append, List.cons_append]
 go_wp2_with fail
 rw [HW0.out]
 refine wp_scope_straight ?_
 go_wp2_with fail
 go_at_call 10
 refine (HC.out _ HW.out).mono ?_
 rintro e w2 ⟨rfl, hb2⟩
 have hB2 := below_step HW.out hb2
 obtain ⟨M, hM⟩ : ∃ M, w2.heap.size = M := ⟨_, rfl⟩
 have hMB : B + 1 + 1 < M := by have := blk_lt B7.out; have := hb2.size; omega
 obtain ⟨W3, hW3⟩ : ∃ W3, w2.alloc (.cells #[.slice none 0 0] 22) = W3 := ⟨_, rfl⟩
 have hI3 : LeastI w B M a3 (.slice none 0 0) [] W3 := by
  rw [← hW3]
  exact ⟨Kd.R_nil _ _ _ _ _, Boxed.alloc ((hb2.block _ (blk_lt B5.out)).trans B5.out) _, Boxed.alloc ((hb2.block _ (blk_lt B6.out)).trans B6.out) _, Boxed.alloc ((hb2.block _ (blk_lt B7.out)).trans B7.out) _, boxNew hM, hB2.alloc hB2.size _⟩
 have HI3 := Lib.hid hI3
 have HW3 := Lib.hid hW3
 clear hb2 hB2 hI3 hW3 HC HW HW0 B5 B6 B7 x5
 go_wp2_with fail
 rw [HW3.out]
 clear HW3
 have hmap : (l0.map (fun n => mx n 0)).length = l0.length := List.length_map _
 have HM0 := Lib.hid hmap
 clear hmap
 go_loopg [12, 31] l0.length (fun kx _ s31 wr => ∃ (i : Nat) (v : Value), s31 = .int .i64 i ∧ i ≤ l0.length ∧ l0.length - i ≤ kx ∧ Hid (LeastI w B M a3 v ((l0.map (fun n => mx n 0)).take i) wr))
 case atStart => exact ⟨0, _, rfl, Nat.zero_le _, Nat.le_refl _, HI3⟩
 case round =>
  clear HI3
  obtain ⟨i, v, rfl, hi, hkx, HI⟩ := hrel
  by_cases hlt : i < l0.length
  ·have hltz : (i : Int) < (l0.length : Int) := by omega
   obtain ⟨ad, rfl, _, hcell⟩ := cells_of_C Hr0.out (by omega)
   have hx := (HI.out.below.cell (World.block_lt_of_cell? w _ (hcell i hlt))).trans (hcell i hlt)
   clear hcell
   have hcl : ((l0.map (fun n => mx n 0)).take i).length ≤ 8000 := by rw [List.length_take]; omega
   have hsn := Lib.hid (show (l0.map (fun n => mx n 0)).take (i + 1) = (l0.map (fun n => mx n 0)).take i ++ [mx l0[i] 0] by rw [List.take_succ_eq_append_getElem (by simpa using hlt)]; simp)
   generalize (l0.map (fun n => mx n 0)).take i = cur at HI hcl hsn
   generalize l0[i] = x at hx hsn
   have hbm : (x < 0 ∧ mx x 0 = 0) ∨ (¬ x < 0 ∧ mx x 0 = x) := by
    unfold mx
    by_cases c : x < 0
    ·exact .inl ⟨c, if_pos c⟩
    ·exact .inr ⟨c, if_neg c⟩
   generalize mx x 0 = y at hsn hbm
   have hxM := HI.out.box.cell
   rcases hbm with ⟨hbb, rfl⟩ | ⟨hbb, rfl⟩
   all_goals
    go_wp2_with (first | (at_builtin; refine Kd.R_append (Kd.int .i64) (w0 := w) w.heap.size rfl (.tmp 35) (.tmp 38) 22 2 (.int .i64 0) 8 rfl Try.underlying22 info2 rfl (by decide) (by omega) _ cur _ _ (fun k => k ≠ B) (fun _ => False) rfl rfl rfl (fun _ hk => hk.elim) (fun k hk e => by have := HI.out.box.lt; omega) HI.out.own HI.out.below HI.out.below.size (by omega) ?_; intro v1 w1 ho hb hg hat; obtain ⟨hk4, hI1⟩ := HI.out.push hB hMB ho hb hg; obtain ⟨A1_, c1_, rfl, _, _⟩ := Kd.R_reads ho; have HI1 := Lib.hid hI1; have hf1 := hk4.frozen; have hf2 := hk4.cell; clear ho hb hg hat hI1 hk4))
    go_roundg (l0.length - (i + 1))
    case measure => omega
    case rel => exact ⟨i + 1, _, by go_num, by omega, Nat.le_refl _, by rw [hsn.out]; have h_ := HI1; simp only [List.length_append, List.length_cons, List.length_nil, Nat.zero_add] at h_; exact h_⟩
  ·obtain rfl : i = l0.length := by omega
   rw [List.take_of_length_le (by have := HM0.out; omega)] at HI
   go_wp2_with fail
   go_step3
   rename_i hK
   refine hK _ _ ?_
   clear hK
   have hl0 : (l0.map (fun n => mx n 0)).length = l0.length := HM0.out
   obtain ⟨out0, hO⟩ : ∃ o, l0.map (fun n => mx n 0) = o := ⟨_, rfl⟩
   rw [hO] at HI hl0
   obtain ⟨A5, c5, rfl, hc5, _⟩ := Kd.R_reads HI.out.own
   rw [hl0] at HI
   have Hl0 := Lib.hid hl0
   have HO := Lib.hid hO
   have HLL := Lib.hid (cells_calls A1 c1 l1 A2 c2 l2 wr (Kd.C_below Hr1.out HI.out.below) (Kd.C_below Hr2.out HI.out.below) Hlen.out hlong)
   clear hl0 hO hc5
   go_wp2_with (first | (go_at_call 15; refine HLL.out.mono ?_; rintro e w5 ⟨Bv, g, cap, A, d, rfl, hcp⟩; have HCP := Lib.hid hcp; clear hcp))
   clear HLL hM HM0
   have hl1 : (cellsL l1 l2).length ≤ 1000 := by unfold cellsL; rw [List.length_zipWith]; omega
   have hRf : leastT a3 (cellsS (cellsL l1 l2) l0.length) out0 = R := by rw [← HO.out]; exact Hf.out
   have hcp := HCP.out
   have hin := Hin.out
   clear HCP Hin Hf
   generalize cellsL l1 l2 = L at hl1 hRf hcp hin
   have hsort := cells_sorted L d l0.length hcp.size hcp.srt hcp.lt (fun x hx => by have := hin x hx; unfold InRows at this; omega)
   have hI5 : LeastI w B M a3 (.slice A5 l0.length c5) out0 w5 := HI.out.step hcp.below
   have hw5 : w.heap.size ≤ w5.heap.size := hI5.below.size
   have hgQ : ¬ (Value.slice A5 l0.length c5).ownBlock = some g := by
    intro e
    have h1 := Kd.R_lt HI.out.own g e
    have h2 := hcp.own
    omega
   have hbv : w5.cell? ⟨Bv, 0, none⟩ = some (.slice A L.length cap) := (blk_cell hcp.box 0).trans rfl
   have Hin := Lib.hid hin
   have Hsort := Lib.hid hsort
   have HRf := Lib.hid hRf
   clear hin hsort hRf HI
   refine wpIn_wide.1 (wpIn_rangeFunc_ownH (F := Fence.wide) (n := 6) (w0 := w5) rfl (by omega) (gf := 61) (lb := #[.pointer (some ⟨Bv, 0, none⟩)]) rfl trivial (enters_of Try.func61 (by kernel_rfl) rfl)
    (values_stops (6 - 1) (by omega) Bv g cap (fun b => (Value.slice A5 l0.length c5).ownBlock = some b) A L d hcp.size hcp.lt (by omega) hcp.at_ w5 hgQ hbv hcp.glt hcp.holds)
    (fun h k => KpH.trans h k) (fun W l o o' _ h hc _ => KpH.putObj W l o o' h hc) (Below.refl _ _) (fun _ => rfl)
    (fun pre W => ∃ out, leastT a3 (cellsOf L pre) out0 = some out ∧ LeastI w B M a3 (.slice A5 l0.length c5) out W)
    (fun c pre W => c = .ret ∧ leastT a3 (cellsOf L pre) out0 = none ∧ Boxed W (B + 1) 22 (.slice none 0 0) ∧ Boxed W (B + 1 + 1) 27 (.int .i64 160) ∧ Below w.heap.size w W)
    (fun pre X Y row ⟨out, h1, h2⟩ hg hr => ⟨out, h1, h2.keep hg (fun r e => ⟨Nat.le_trans hw5 (hr r e).1, (hr r e).2⟩)⟩)
    (fun c pre X Y row ⟨h1, h2, h3, h4, h5⟩ hg hr => by
     have hne : ∀ (b : Nat) (cs : Array Value) (t : TypeId), X.heap[b]? = some (.cells cs t (0, 0)) → some b ≠ row := fun b cs t hb e => by
      obtain ⟨_, o, ho, hc⟩ := hr b e.symm
      rw [hb] at ho
      cases ho
      cases hc
     exact ⟨h1, h2, h3.kept hg (hne _ _ _ h3), h4.kept hg (hne _ _ _ h4), h5.grown hg h5.size (fun k hk => Nat.le_trans hw5 (hr k hk).1)⟩)
    ⟨out0, rfl, hI5⟩
    (fun x a' W => ∃ Bx, W.heap[Bx]? = some (.cells #[.int .i64 L[x.1].f0.f0, .int .i64 L[x.1].f0.f1, .int .i64 L[x.1].f0.f2, .int .i64 L[x.1].f0.f3, .int .i64 L[x.1].f0.f4, .int .i64 L[x.1].f1] 41 (0, 0)) ∧ a' = { tmps := #[Value.slice A0 l0.length c0, Value.slice A1 l1.length c1, Value.slice A2 l2.length c2, Value.int IntKind.i64 a3, undef, undef, undef, Value.pointer (some ⟨B, 0, none⟩), Value.pointer (some ⟨B + 1, 0, none⟩), Value.pointer (some ⟨B + 1 + 1, 0, none⟩), Value.pointer (some ⟨M, 0, none⟩), undef, u12, .pointer (some ⟨Bx, 0, none⟩), undef, undef, undef, undef, Value.slice A0 l0.length c0, Value.slice A1 l1.length c1, Value.slice A2 l2.length c2, Value.int IntKind.i64 a3, Value.bool true, Value.bool false, Value.bool false, Value.slice A1 l1.length c1, Value.int IntKind.i64 (l1.length : Int), Value.bool false, Value.bool false, Value.slice A0 l0.length c0, Value.int IntKind.i64 (l0.length : Int), Value.int IntKind.i64 (l0.length : Int), Value.bool false, u33, u34, u35, u36, u37, u38, u39, u40, Value.slice A1 l1.length c1, Value.slice A2 l2.length c2, Value.func (Fn.func 61) #[] #[Value.pointer (some ⟨Bv, 0, none⟩)], .agg #[.int .i64 L[x.1].f0.f0, .int .i64 L[x.1].f0.f1, .int .i64 L[x.1].f0.f2, .int .i64 L[x.1].f0.f3, .int .i64 L[x.1].f0.f4, .int .i64 L[x.1].f1], undef, undef, undef, undef, undef, undef, undef, undef, undef, undef, undef, undef, undef, undef, undef, undef, undef, undef, undef, undef, undef, undef, undef, undef, undef, undef, undef, undef, undef, undef, undef, undef, undef, undef, undef, undef, undef, undef, undef, undef, undef, undef, undef, undef, undef, undef, undef, undef, undef, undef, undef], defers := [] })
    ?hAx ?assign ?body ?done ?stop)
   case hAx =>
    rintro x a' s X Y row ⟨Bx, h2, h3⟩ hg hr
    refine ⟨Bx, (hg.block Bx (blk_lt h2) (fun e => ?_)).trans h2, h3⟩
    obtain ⟨_, o, ho, hc⟩ := hr Bx e.symm
    rw [h2] at ho
    cases ho
    cases hc
   case assign =>
    rintro lr pre x W K ⟨out, h1, h2⟩ hK
    gi_wp2
    have hB := (Below.refl W.heap.size W).alloc (Nat.le_refl _) (.cells #[.int .i64 L[x.1].f0.f0, .int .i64 L[x.1].f0.f1, .int .i64 L[x.1].f0.f2, .int .i64 L[x.1].f0.f3, .int .i64 L[x.1].f0.f4, .int .i64 L[x.1].f1] 41)
    refine hK _ _ ((KeepsOthers.alloc _ _).from _) (KpH.of_below hB) ⟨out, h1, h2.step hB⟩ ⟨W.heap.size, heap_alloc_new W _, rfl⟩
   case body =>
    rintro lr pre x a' W hlr ⟨rec, hrec⟩ ⟨out, hout, hI⟩ ⟨Bx, hx, rfl⟩ hlt
    have hinx := Hin.out L[x.1] (List.getElem_mem x.2)
    have hol : out.length = l0.length := (leastT_length a3 _ out0 out (fun y hy => by
     obtain ⟨i, _, rfl⟩ := List.mem_map.1 hy
     rw [Hl0.out]
     exact Hin.out _ (List.getElem_mem i.2)) hout).trans Hl0.out
    have hsnoc : leastT a3 (cellsOf L (pre ++ [x])) out0 = stepH a3 out L[x.1] := by
     unfold cellsOf at hout ⊢
     rw [List.map_append, leastT_append, hout]
     show (stepH a3 out L[x.1]).bind (leastT a3 []) = _
     cases stepH a3 out L[x.1] <;> rfl
    generalize L[x.1] = y at hinx hx hsnoc
    obtain ⟨⟨p0, p1, p2, p3, p4⟩, h6⟩ := y
    obtain ⟨n1, n2, n3, n4, n5⟩ := hinx
    dsimp only at n1 n2 n3 n4 n5 hx hsnoc ⊢
    obtain ⟨row, rfl⟩ := Int.eq_ofNat_of_zero_le n1
    obtain ⟨rows, rfl⟩ := Int.eq_ofNat_of_zero_le (show 0 ≤ p3 by omega)
    obtain ⟨G, cap', he, hbG, hGl, _⟩ := Kd.R_form hI.own (by omega)
    simp only [Value.slice.injEq] at he
    obtain ⟨rfl, he2, rfl⟩ := he
    have hxM := hI.box.cell
    have hxB := hI.gap.cell
    have hown : Kd.R (Kd.int .i64) 2 W w.heap.size (fun k => k ≠ B) (.slice (some ⟨G, 0, none⟩) out.length c5) out := by rw [hol]; exact hI.own
    have hx0 := (blk_cell hx 0).trans rfl
    have hx1 := (blk_cell hx 1).trans rfl
    have hx2 := (blk_cell hx 2).trans rfl
    have hx3 := (blk_cell hx 3).trans rfl
    have hx4 := (blk_cell hx 4).trans rfl
    have hx5 := (blk_cell hx 5).trans rfl
    have HI := Lib.hid hI
    have Hol := Lib.hid hol
    clear hx hout hI hol he2
    by_cases hc : rows = 1
    ·subst hc
     have hst : stepH a3 out ⟨⟨p0, (row : Int), p2, ((1 : Nat) : Int), p4⟩, h6⟩ = some (out.set row (mx (out[row]?.getD 0) h6)) := by
      unfold stepH
      exact if_pos (show ((1 : Nat) : Int) = 1 from rfl)
     rw [hst] at hsnoc
     have Hsn := Lib.hid hsnoc
     clear hst hsnoc
     rw [show ((1 : Nat) : Int) = 1 from rfl] at hx3
     obtain ⟨q1, q2⟩ := Kd.R_cell (h1 := fun _ => rfl) (enc := Value.int .i64) 0 hown (row : Int) (by omega) (by have := Hol.out; omega)
     have e1 : rdOf 0 out (row : Int) = out[row]?.getD 0 := by unfold rdOf; rw [Int.toNat_natCast, List.getD_eq_getElem?_getD]
     rw [e1, Int.toNat_natCast] at q1
     rw [Int.toNat_natCast] at q2
     have hput := Kd.R_put (h1 := fun _ => rfl) (enc := Value.int .i64) (Kd.R_drew hown) (row : Int) (mx (out[row]?.getD 0) h6)
     rw [Int.toNat_natCast] at hput
     have HPut := Lib.hid hput
     clear hput e1 hown
     generalize out[row]?.getD 0 = old at q1 HPut Hsn
     have hrz : (row : Int) < (l0.length : Int) := by omega
     have hbm : (old < h6 ∧ mx old h6 = h6) ∨ (¬ old < h6 ∧ mx old h6 = old) := by
      unfold mx
      by_cases c : old < h6
      ·exact .inl ⟨c, if_pos c⟩
      ·exact .inr ⟨c, if_neg c⟩
     rcases hbm with ⟨hbb, e⟩ | ⟨hbb, e⟩
     all_goals
      rw [e] at HPut Hsn
      clear e
      gi_wp2
      refine Go.Proofs.Ytgghbmhmpkeccaa.Round.region_round_quietM 14 (by kernel_rfl) (by kernel_rfl) (by rintro ⟨_, _, h⟩; exact h) (by kernel_rfl) (by kernel_rfl) ?_
      simp only [List.take_succ_cons, List.take_zero, List.drop_succ_cons, List.drop_zero]
      repeat (go_big_quiet_step (fail))
      refine wpQuiet_nil ?_
      go_wp2
      gi_wp2
      obtain ⟨hR6, hg6⟩ := HPut.out
      rw [Hol.out] at hR6
      obtain ⟨hI6, hK6, hP6⟩ := HI.out.spread hR6 (World.grownBy.trans (grown_of_below (below_drew (Below.refl _ _)) _) hg6)
      exact ⟨hK6.from _, hP6, _, Hsn.out, hI6⟩
    ·have hc1 : ¬ ((rows : Nat) : Int) = 1 := by omega
     have hcb : (((rows : Nat) : Int) == 1) = false := beq_eq_false_iff_ne.mpr hc1
     have hpl : (partH out row rows).length = rows := partH_length out row rows (by have := Hol.out; omega)
     obtain ⟨r, hr⟩ : ∃ r, overH a3 out ⟨⟨p0, (row : Int), p2, (rows : Int), p4⟩, h6⟩ = r := ⟨_, rfl⟩
     have hst : stepH a3 out ⟨⟨p0, (row : Int), p2, (rows : Int), p4⟩, h6⟩ = if r.2 = 0 then some (layAt out row r.1) else none := by
      unfold stepH
      refine (if_neg hc1).trans ?_
      rw [hr]
      rfl
     rw [hst] at hsnoc
     have hr' : Go.Proofs.Ytgghbmhmpkeccaa.Base.overT (Go.Proofs.Ytgghbmhmpkeccaa.Base.partN a3 (rows : Int) h6) (partH out row rows) (partH out row rows) = r := hr
     have hrl := Go.Proofs.Ytgghbmhmpkeccaa.Base.overT_length (Go.Proofs.Ytgghbmhmpkeccaa.Base.partN a3 (rows : Int) h6) (partH out row rows) (partH out row rows)
     rw [hr', hpl] at hrl
     obtain ⟨kp, hkp⟩ := (Go.Proofs.Ytgghbmhmpkeccaa.Base.part_ev a3 (rows : Int) h6 (by unfold Go.Proofs.Ytgghbmhmpkeccaa.Base.wide; omega) ⟨g0, g1⟩ ⟨by omega, by omega⟩).rounds
     obtain ⟨ko, hko⟩ := (Go.Proofs.Ytgghbmhmpkeccaa.Base.over_total (Go.Proofs.Ytgghbmhmpkeccaa.Base.partN a3 (rows : Int) h6) (partH out row rows) (partH out row rows) (by rw [hpl]; omega)).rounds
     rw [hr'] at hko
     obtain ⟨r1, r2⟩ := r
     have hover := fun W' (h : Below W.heap.size W W') => by
      have hp := R_partH (Kd.R_below hown h) row rows (by have := Hol.out; omega)
      have := spread_Over.calls ko (Go.Proofs.Ytgghbmhmpkeccaa.Base.partN a3 (rows : Int) h6) (some ⟨G, row, none⟩) rows (partH out row rows) (some ⟨G, row, none⟩) rows (partH out row rows) r1 r2 W' hp (by omega) hp (by omega) hko
      rw [hpl] at this
      exact this
     have HOv := Lib.hid hover
     have Hkp := Lib.hid hkp
     have Hsn := Lib.hid hsnoc
     have Hrl := Lib.hid hrl
     have Hown := Lib.hid hown
     have hcap : (row : Int) + (rows : Int) ≤ (c5 : Int) := by
      have h1 := (Kd.R_reads' hown).2.1
      have h2 := Hol.out
      omega
     have hz0 : ¬ rows = 0 := by omega
     have hrow0 : (0 : Int) ≤ (row : Int) + (rows : Int) := by omega
     have hrow1 : (row : Int) ≤ (row : Int) + (rows : Int) := by omega
     clear hst hsnoc hr hr' hrl hkp hko hover hpl hown
     gi_wp2
     refine ⟨trivial, (Go.Proofs.Ytgghbmhmpkeccaa.Round.calls_round (spread_Part.calls kp h6 a3 (rows : Int) _ W Hkp.out)).mono ?_⟩
     rintro e w6 ⟨rfl, hb6⟩
     have HB6 := Lib.hid hb6
     clear hb6 hx0 hx1 hx2 hx3 hx4 hx5 hxM hxB
     gi_wp2
     refine ⟨trivial, (Go.Proofs.Ytgghbmhmpkeccaa.Round.calls_round (HOv.out w6 HB6.out)).mono ?_⟩
     rintro e w7 ⟨v7, rfl, hv7, hb7⟩
     obtain ⟨A7, c7, rfl, hc7, hC7⟩ := Kd.R_reads hv7
     have hB7 := below_step HB6.out hb7
     have hI7 := HI.out.step hB7
     have y1 := hI7.r6.cell
     have y2 := hI7.r6.frozen
     obtain ⟨x1, x2, x3, x4, x5⟩ := errH_end hB hI7.r6 hI7.r7 hI7.below
     have X1 := Lib.hid x1
     have X2 := Lib.hid x2
     have X5 := Lib.hid x5
     have HB7 := Lib.hid hB7
     obtain ⟨W8, hcp1, hcp2, hcp3⟩ := copy_part (Kd.R_below Hown.out hB7) row rows (by have := Hol.out; omega) A7 c7 r1 hC7 Hrl.out 3 rows
     have HC2 := Lib.hid hcp2
     have HC3 := Lib.hid hcp3
     clear hv7 hb7 hc7 hC7 hI7 x1 x2 x5 hcp2 hcp3 hB7 HB6 HOv
     by_cases he : r2 = 0
     ·subst he
      gi_wp2
      have hR8 := HC2.out
      rw [Hol.out] at hR8
      obtain ⟨hI8, hK8, hP8⟩ := HI.out.spread hR8 (World.grownBy.trans (grown_of_below HB7.out (some G)) HC3.out)
      exact ⟨hK8.from _, hP8, _, Hsn.out.trans (by simp), hI8⟩
     ·have heb : (r2 != 0) = true := bne_iff_ne.mpr he
      have Hs := Lib.hid (Hsn.out.trans (if_neg he))
      clear he hcp1
      gi_wp2
      have hK7 : KeepsOthers W w7 := KeepsOthers.of_grownBy (grown_of_below HB7.out none) (fun j o hj _ => by cases hj)
      exact ⟨(hK7.trans ((KeepsOthers.setCell _ _ _).trans (KeepsOthers.setCell _ _ _))).from _, rfl, Hs.out, X1.out, X2.out, X5.out⟩
   case done =>
    rintro D ys W hD hys ⟨out, hout, hI⟩ hKD
    rw [hys, Hsort.out] at hout
    obtain ⟨x1, x2, x3, x4, x5, x6, x7, x8, x9⟩ := hI.ends hB (D := D) (by omega) hKD
    have hxM := hI.box.cell
    have y1 := hI.r6.cell
    have y2 := hI.r6.frozen
    have X5 := Lib.hid x5
    have X6 := Lib.hid x6
    have X7 := Lib.hid x7
    have hR1 : hRows R = out := by rw [← HRf.out, hout]; rfl
    have hR2 : hErr R = 0 := by rw [← HRf.out, hout]; rfl
    have HR1 := Lib.hid hR1
    have HR2 := Lib.hid hR2
    clear hKD hI hout hys x1 x2 x5 x6 x7 hR1 hR2
    go_wp2
    (try simp only [Exit.noGoto])
    refine ⟨by simp, .inl ⟨_, _, rfl, run_takeDeferred X5.out, ?_⟩⟩
    refine ⟨.tuple #[.slice A5 l0.length c5, .int .i64 0], by simp [results, Try.results8, go_sem, x8, x9], ?_⟩
    rw [HR1.out, HR2.out]
    exact ⟨_, rfl, X6.out, X7.out⟩
   case stop =>
    rintro D c pre W hD hpre ⟨rfl, hnone, b6, b7, hB7⟩ hKD
    have hfull : leastT a3 (cellsS L l0.length) out0 = none := by
     obtain ⟨tl, htl⟩ := hpre
     rw [← Hsort.out, ← htl]
     unfold cellsOf at hnone ⊢
     rw [List.map_append, leastT_append, hnone]
     rfl
    have hR1 : hRows R = [] := by rw [← HRf.out, hfull]; rfl
    have hR2 : hErr R = 160 := by rw [← HRf.out, hfull]; rfl
    have hD1 : D ≠ B + 1 := fun e => by
     unfold Boxed at b6
     rw [← e, hKD] at b6
     cases b6
    have hD2 : D ≠ B + 1 + 1 := fun e => by
     unfold Boxed at b7
     rw [← e, hKD] at b7
     cases b7
    have x8 : (W.putObj D (.deferred none)).cell? ⟨B + 1, 0, none⟩ = some (.slice none 0 0) := (World.cell?_of_block (a := ⟨B + 1, 0, none⟩) (World.putObj_heap_other (Ne.symm hD1))).trans b6.cell
    have x9 : (W.putObj D (.deferred none)).cell? ⟨B + 1 + 1, 0, none⟩ = some (.int .i64 160) := (World.cell?_of_block (a := ⟨B + 1 + 1, 0, none⟩) (World.putObj_heap_other (Ne.symm hD2))).trans b7.cell
    have X7 := Lib.hid (hB7.trans (belowK_b (w := w) (Nat.le_refl _) W D _ (.deferred none) (by omega) hKD rfl rfl))
    have HKD := Lib.hid hKD
    have HR1 := Lib.hid hR1
    have HR2 := Lib.hid hR2
    clear hKD hfull hnone hR1 hR2 b6 b7 hB7
    refine wpIn_wide.2 ?_
    go_wp2
    (try simp only [Exit.noGoto])
    refine ⟨by simp, .inl ⟨_, _, rfl, run_takeDeferred HKD.out, ?_⟩⟩
    refine ⟨.tuple #[.slice none 0 0, .int .i64 160], by simp [results, Try.results8, go_sem, x8, x9], ?_⟩
    rw [HR1.out, HR2.out]
    exact ⟨_, rfl, Kd.R_nil _ _ _ _ _, X7.out⟩
set_option maxRecDepth 1000000 in
theorem heights_Least.calls (A0 : Option Addr) (c0 : Nat) (l0 : List Int) (A1 : Option Addr) (c1 : Nat) (l1 : List S35) (A2 : Option Addr) (c2 : Nat) (l2 : List Int) (a3 : Int) (r1 : List Int) (r2 : Int) (w : World) (hr0 : Kd.C (Kd.int .i64) w A0 l0.length l0) (hc0 : l0.length ≤ c0) (hr1 : Kd.C k35 w A1 l1.length l1) (hc1 : l1.length ≤ c1) (hr2 : Kd.C (Kd.int .i64) w A2 l2.length l2) (hc2 : l2.length ≤ c2) (h : heights_Least.f l0 l1 l2 a3 = some (r1, r2)) :
  Calls Try.prog 8 #[.slice A0 l0.length c0, .slice A1 l1.length c1, .slice A2 l2.length c2, .int .i64 a3] w fun e w' => ∃ v0_ : Value, e = .returned (.tuple #[v0_, .int .i64 r2]) ∧ Kd.R (Kd.int .i64) 2 w' w.heap.size (fun _ => True) v0_ r1 ∧ Below w.heap.size w w' := by
 suffices hs : Calls Try.prog 8 #[.slice A0 l0.length c0, .slice A1 l1.length c1, .slice A2 l2.length c2, .int .i64 a3] w (LeastPost w r1 r2) from hs
 unfold heights_Least.f at h
 by_cases hl : l0.length ≤ 8000
 case neg => rw [if_neg hl] at h; cases h
 rw [if_pos hl] at h
 by_cases hok : leastOk l0 l1 l2 a3 = true
 ·rw [if_pos hok] at h
  simp only [Option.some.injEq, Prod.mk.injEq] at h
  obtain ⟨rfl, rfl⟩ := h
  unfold leastOk at hok
  rw [Bool.and_eq_true, decide_eq_true_eq] at hok
  exact least_main A0 c0 l0 A1 c1 l1 A2 c2 l2 a3 w hr0 hc0 hr1 hc1 hr2 hc2 hl hok.1 hok.2 _ rfl
 ·rw [if_neg hok] at h
  simp only [Option.some.injEq, Prod.mk.injEq] at h
  obtain ⟨rfl, rfl⟩ := h
  exact least_bad A0 c0 l0 A1 c1 l1 A2 c2 l2 a3 w hr0 hc0 hr1 hc1 hr2 hc2 (by simpa using hok)
end

end Go.Proofs.Ytgghbmhmpkeccaa.PA
