-- MADE by wip/tools/xprint.py of this repo: the kit's print.py, turned by this session, and texts by hand
import Derived.Test.YtpoboffdlnnbmaaPAx0
import Derived.Test.YtpoboffdlnnbmaaPAx5
import Derived.Test.YtpoboffdlnnbmaaPAx11
import Derived.Test.YtpoboffdlnnbmaaPAx12
import Derived.Test.YtpoboffdlnnbmaaPAx13
import Derived.Test.YtpoboffdlnnbmaaPAx18
import Derived.Test.YtpoboffdlnnbmaaPAx21
import Derived.Test.YtpoboffdlnnbmaaPAx23
import Derived.Test.YtpoboffdlnnbmaaRound
namespace Go.Proofs.Ytpoboffdlnnbmaa.PA
open Go.RowKit Go.Proofs.YtpoboffdlnnbmaaW.PrintWords Go.Proofs.YtpoboffdlnnbmaaW.PrintLast Go.Proofs.YtpoboffdlnnbmaaW.PrintMore
attribute [local go_sem] max2_int min2_int max_two min_two max_three min_three max_four min_four   -- for this text's walks alone
set_option linter.unusedVariables false
set_option linter.unusedSimpArgs false

-- BY HAND: sneeds.tpl
-- MAKING spread_Needs
section
open Go.RowKit Go.Shelf Go.Proofs.YtpoboffdlnnbmaaW.PrintWords Go.Proofs.YtpoboffdlnnbmaaW.PrintLast Go.Proofs.YtpoboffdlnnbmaaW.PrintMore
attribute [local go_sem] Oper.semAt_some
/-- Needs, spread one behind the other; none: an error. -/
def needsT (gap : Int) : List S53 → List S42 → Option (List S42)
 | [], out => some out
 | x :: xs, out => if (spreadsT out x.f0.f2.toNat x.f0.f4.toNat x.f0.f4 x.f1 x.f2 gap).1 = true then needsT gap xs (spreadsT out x.f0.f2.toNat x.f0.f4.toNat x.f0.f4 x.f1 x.f2 gap).2 else none
theorem needsT_append (gap : Int) : ∀ (xs ys : List S53) (out : List S42), needsT gap (xs ++ ys) out = (needsT gap xs out).bind (needsT gap ys)
 | [], ys, out => rfl
 | x :: xs, ys, out => by
  show (if _ then needsT gap (xs ++ ys) _ else none) = Option.bind (if _ then needsT gap xs _ else none) _
  by_cases h : (spreadsT out x.f0.f2.toNat x.f0.f4.toNat x.f0.f4 x.f1 x.f2 gap).1 = true
  ·rw [if_pos h, if_pos h, needsT_append gap xs ys]
  ·rw [if_neg h, if_neg h]
   rfl
def fewN (l0 l1 : Nat) (gap : Int) : Bool := decide (l0 ≤ 100) && decide (l1 ≤ 1000) && decide (0 ≤ gap) && decide (gap ≤ 1073741824)
def needsOk (l0 : List S42) (l1 : List S53) (a2 : Int) : Prop := fewN l0.length l1.length a2 = true ∧ columns_RightBands.f l0 = some true ∧ columns_Right.f (List.replicate l0.length z44) l1 = some true
instance (l0 : List S42) (l1 : List S53) (a2 : Int) : Decidable (needsOk l0 l1 a2) := by unfold needsOk; exact inferInstance
def rowsOf (R : Option (List S42)) : List S42 := R.getD []
def errOf (R : Option (List S42)) : Int := if R.isSome then 0 else 130
def spread_Needs.f (l0 : List S42) (l1 : List S53) (a2 : Int) : Option (List S42 × Int) :=
 if needsOk l0 l1 a2 then some (rowsOf (needsT a2 (spansOut l1 (l0.length - 1)) l0), errOf (needsT a2 (spansOut l1 (l0.length - 1)) l0)) else some ([], 130)
def NeedsPost (w : World) (r1 : List S42) (r2 : Int) (e : Ending) (w' : World) : Prop := ∃ v0_ : Value, e = .returned (.tuple #[v0_, .int .i64 r2]) ∧ Kd.R k42 42 w' w.heap.size (fun _ => True) v0_ r1 ∧ Below w.heap.size w w'
/-- What an error leaves in the results' boxes. -/
theorem err_end {w W : World} {B : Nat} {v6 v7 : Value} (hw : w.heap.size = B) (b6 : Boxed W (B + 1) 27 v6) (b7 : Boxed W (B + 1 + 1) 28 v7) (hB : Below w.heap.size w W) :
  Boxed ((W.setCell ⟨B + 1, 0, none⟩ (.slice none 0 0)).setCell ⟨B + 1 + 1, 0, none⟩ (.int .i64 130)) (B + 1) 27 (.slice none 0 0) ∧
  Boxed ((W.setCell ⟨B + 1, 0, none⟩ (.slice none 0 0)).setCell ⟨B + 1 + 1, 0, none⟩ (.int .i64 130)) (B + 1 + 1) 28 (.int .i64 130) ∧
  (W.setCell ⟨B + 1, 0, none⟩ (.slice none 0 0)).frozen? ⟨B + 1 + 1, 0, none⟩ = false ∧ (W.setCell ⟨B + 1, 0, none⟩ (.slice none 0 0)).cell? ⟨B + 1 + 1, 0, none⟩ = some v7 ∧
  Below w.heap.size w ((W.setCell ⟨B + 1, 0, none⟩ (.slice none 0 0)).setCell ⟨B + 1 + 1, 0, none⟩ (.int .i64 130)) :=
 ⟨(b6.set _).other (by omega) _, (b7.other (by omega) _).set _, (b7.other (by omega) _).frozen, (b7.other (by omega) _).cell, (hB.setCell (p := ⟨B + 1, 0, none⟩) (by show _ ≤ B + 1; omega) _).setCell (p := ⟨B + 1 + 1, 0, none⟩) (by show _ ≤ B + 1 + 1; omega) _⟩
theorem needsT_length (gap : Int) : ∀ (xs : List S53) (out r : List S42), needsT gap xs out = some r → r.length = out.length
 | [], out, r, h => by
  cases h
  rfl
 | x :: xs, out, r, h => by
  unfold needsT at h
  by_cases c : (spreadsT out x.f0.f2.toNat x.f0.f4.toNat x.f0.f4 x.f1 x.f2 gap).1 = true
  ·rw [if_pos c] at h
   rw [needsT_length gap xs _ r h, spreadsT_length]
  ·rw [if_neg c] at h
   cases h
/-- What the rounds keep. -/
structure NeedsI (w : World) (B M : Nat) (a2 : Int) (v5 : Value) (out : List S42) (W : World) : Prop where
 own : Kd.R k42 42 W w.heap.size (fun _ => True) v5 out
 gap : Boxed W B 2 (.int .i64 a2)
 r6 : Boxed W (B + 1) 27 (.slice none 0 0)
 r7 : Boxed W (B + 1 + 1) 28 (.int .i64 0)
 box : Boxed W M 27 v5
 below : Below w.heap.size w W
theorem NeedsI.keep {w : World} {B M : Nat} {a2 : Int} {v5 : Value} {out : List S42} {W W2 : World} {row : Option Nat} (h : NeedsI w B M a2 v5 out W) (hg : W.grownBy W2 row) (hr : ∀ r, row = some r → w.heap.size ≤ r ∧ ∃ o : Obj, W.heap[r]? = some o ∧ o.isCells = false) : NeedsI w B M a2 v5 out W2 := by
 have hne : ∀ (b : Nat) (cs : Array Value) (t : TypeId), W.heap[b]? = some (.cells cs t (0, 0)) → some b ≠ row := fun b cs t hb e => by
  obtain ⟨_, o, ho, hc⟩ := hr b e.symm
  rw [hb] at ho
  cases ho
  cases hc
 refine ⟨Kd.R_mono (Kd.R_step (Kd.R_bound h.own) (fun k hk hlt => ?_)) (fun _ _ => trivial), h.gap.kept hg (hne _ _ _ h.gap), h.r6.kept hg (hne _ _ _ h.r6), h.r7.kept hg (hne _ _ _ h.r7), h.box.kept hg (hne _ _ _ h.box), h.below.grown hg h.below.size (fun k hk => (hr k hk).1)⟩
 obtain ⟨_, _, _, q, _, cells, hcell⟩ := hk
 exact hg.block k hlt (hne _ _ _ hcell)
/-- A step that leaves what there was. -/
theorem NeedsI.step {w : World} {B M : Nat} {a2 : Int} {v5 : Value} {out : List S42} {W W2 : World} (h : NeedsI w B M a2 v5 out W) (hb : Below W.heap.size W W2) : NeedsI w B M a2 v5 out W2 :=
 h.keep (grown_of_below hb none) (fun _ e => by cases e)
/-- A step that changes the row. -/
theorem NeedsI.spread {w : World} {B M : Nat} {a2 : Int} {G L c : Nat} {out out' : List S42} {W W2 : World} (h : NeedsI w B M a2 (.slice (some ⟨G, 0, none⟩) L c) out W) (hR : Kd.R k42 42 W2 w.heap.size (fun _ => True) (.slice (some ⟨G, 0, none⟩) L c) out') (hg : W.grownBy W2 (some G)) :
  NeedsI w B M a2 (.slice (some ⟨G, 0, none⟩) L c) out' W2 ∧ KeepsOthers W W2 ∧ KpOut (fun b => (Value.slice (some ⟨G, 0, none⟩) L c).ownBlock = some b) W W2 := by
 obtain ⟨cells, hcell⟩ := Kd.R_typed h.own G rfl
 have hne : ∀ {b : Nat} {t : TypeId} {v : Value}, Boxed W b t v → t ≠ 42 → some b ≠ some G := fun hb ht e => blk_ne hb hcell ht (by cases e; rfl)
 refine ⟨⟨hR, h.gap.kept hg (hne h.gap (by decide)), h.r6.kept hg (hne h.r6 (by decide)), h.r7.kept hg (hne h.r7 (by decide)), h.box.kept hg (hne h.box (by decide)), h.below.grown hg h.below.size (fun k hk => Kd.R_base h.own k hk)⟩, ?_, ?_⟩
 ·refine KeepsOthers.of_grownBy hg (fun j o hj ho => ?_)
  cases hj
  rw [hcell] at ho
  cases ho
  rfl
 ·exact KpOut.of_grownBy hg (fun r e => e)
/-- What a good end leaves. -/
theorem NeedsI.ends {w : World} {B M : Nat} {a2 : Int} {v5 : Value} {out : List S42} {W : World} (hw : w.heap.size = B) (h : NeedsI w B M a2 v5 out W) {D : Nat} (hD : w.heap.size ≤ D) (hKD : W.heap[D]? = some (.deferred (some []))) :
  Boxed ((W.setCell ⟨B + 1, 0, none⟩ v5).setCell ⟨B + 1 + 1, 0, none⟩ (.int .i64 0)) (B + 1) 27 v5 ∧ Boxed ((W.setCell ⟨B + 1, 0, none⟩ v5).setCell ⟨B + 1 + 1, 0, none⟩ (.int .i64 0)) (B + 1 + 1) 28 (.int .i64 0) ∧
  (W.setCell ⟨B + 1, 0, none⟩ v5).frozen? ⟨B + 1 + 1, 0, none⟩ = false ∧ (W.setCell ⟨B + 1, 0, none⟩ v5).cell? ⟨B + 1 + 1, 0, none⟩ = some (.int .i64 0) ∧
  ((W.setCell ⟨B + 1, 0, none⟩ v5).setCell ⟨B + 1 + 1, 0, none⟩ (.int .i64 0)).heap[D]? = some (.deferred (some [])) ∧
  Kd.R k42 42 (((W.setCell ⟨B + 1, 0, none⟩ v5).setCell ⟨B + 1 + 1, 0, none⟩ (.int .i64 0)).putObj D (.deferred none)) w.heap.size (fun _ => True) v5 out ∧
  Below w.heap.size w (((W.setCell ⟨B + 1, 0, none⟩ v5).setCell ⟨B + 1 + 1, 0, none⟩ (.int .i64 0)).putObj D (.deferred none)) ∧
  (((W.setCell ⟨B + 1, 0, none⟩ v5).setCell ⟨B + 1 + 1, 0, none⟩ (.int .i64 0)).putObj D (.deferred none)).cell? ⟨B + 1, 0, none⟩ = some v5 ∧ (((W.setCell ⟨B + 1, 0, none⟩ v5).setCell ⟨B + 1 + 1, 0, none⟩ (.int .i64 0)).putObj D (.deferred none)).cell? ⟨B + 1 + 1, 0, none⟩ = some (.int .i64 0) := by
 have hD1 : D ≠ B + 1 := fun e => by
  have := h.r6
  unfold Boxed at this
  rw [← e, hKD] at this
  cases this
 have hD2 : D ≠ B + 1 + 1 := fun e => by
  have := h.r7
  unfold Boxed at this
  rw [← e, hKD] at this
  cases this
 have hX : ((W.setCell ⟨B + 1, 0, none⟩ v5).setCell ⟨B + 1 + 1, 0, none⟩ (.int .i64 0)).heap[D]? = some (.deferred (some [])) := (Below.heap_setCell _ ⟨B + 1 + 1, 0, none⟩ _ _ hD2).trans ((Below.heap_setCell _ ⟨B + 1, 0, none⟩ _ _ hD1).trans hKD)
 have hB : Below w.heap.size w ((W.setCell ⟨B + 1, 0, none⟩ v5).setCell ⟨B + 1 + 1, 0, none⟩ (.int .i64 0)) := (h.below.setCell (p := ⟨B + 1, 0, none⟩) (by show _ ≤ B + 1; omega) _).setCell (p := ⟨B + 1 + 1, 0, none⟩) (by show _ ≤ B + 1 + 1; omega) _
 refine ⟨(h.r6.set _).other (by omega) _, (h.r7.other (by omega) _).set _, (h.r7.other (by omega) _).frozen, (h.r7.other (by omega) _).cell, hX, ?_, hB.trans (belowK_b (w := w) (Nat.le_refl _) _ D _ _ hD hX rfl rfl), ((World.cell?_of_block (a := ⟨B + 1, 0, none⟩) (World.putObj_heap_other (Ne.symm hD1))).trans ((h.r6.set _).other (by omega) _).cell), ((World.cell?_of_block (a := ⟨B + 1 + 1, 0, none⟩) (World.putObj_heap_other (Ne.symm hD2))).trans ((h.r7.other (by omega) _).set _).cell)⟩
 refine Kd.R_mono (Kd.R_step (w := W) (Kd.R_tight2 rfl h.own) (fun k hk hlt => ?_)) (fun _ _ => trivial)
 obtain ⟨cells, hcell⟩ := Kd.R_typed h.own k hk.1.symm
 have k1 : k ≠ B + 1 := (blk_ne h.r6 hcell (by decide)).symm
 have k2 : k ≠ B + 1 + 1 := (blk_ne h.r7 hcell (by decide)).symm
 have k3 : D ≠ k := fun e => by
  rw [← e, hKD] at hcell
  cases hcell
 exact (World.putObj_heap_other (Ne.symm k3)).trans ((Below.heap_setCell _ ⟨B + 1 + 1, 0, none⟩ _ _ k2).trans (Below.heap_setCell _ ⟨B + 1, 0, none⟩ _ _ k1))
/-- A need that is right, where there are n bands. -/
theorem need_right {n : Nat} {l1 : List S53} (h : columns_Right.f (List.replicate n z44) l1 = some true) (x : S53) (hx : x ∈ l1) :
  0 ≤ x.f0.f2 ∧ x.f0.f2 < (n : Int) ∧ 1 ≤ x.f0.f4 ∧ x.f0.f4 ≤ (n : Int) - x.f0.f2 ∧ Go.Proofs.Ytpoboffdlnnbmaa.Base.wide x.f1 ∧ Go.Proofs.Ytpoboffdlnnbmaa.Base.wide x.f2 ∧ x.f1 ≤ x.f2 := by
 unfold columns_Right.f at h
 simp only [Option.some.injEq, Bool.and_eq_true, Bool.not_eq_true', List.length_replicate] at h
 have h2 := List.any_eq_false.1 h.2 x hx
 have h3 : badNeed (n : Int) x = false := by simpa using h2
 simp only [badNeed, badNeed9, needAt, outside, Bool.or_eq_false_iff, Bool.not_eq_false', Bool.and_eq_true, decide_eq_true_eq, decide_eq_false_iff_not] at h3
 obtain ⟨⟨⟨⟨⟨⟨a1, a2⟩, a3⟩, a4⟩, _⟩, ⟨⟨a5, a6⟩, ⟨a7, a8⟩⟩⟩, a9⟩ := h3
 unfold Go.Proofs.Ytpoboffdlnnbmaa.Base.wide
 omega
set_option maxRecDepth 1000000 in
set_option maxHeartbeats 4000000 in
theorem needs_few (A0 : Option Addr) (c0 : Nat) (n0 : Nat) (A1 : Option Addr) (c1 : Nat) (n1 : Nat) (a2 : Int) (w : World) (h0 : n0 ≤ 9223372036854775807) (h1 : n1 ≤ 9223372036854775807) (h : fewN n0 n1 a2 = false) :
  Calls Try.prog 7 #[.slice A0 n0 c0, .slice A1 n1 c1, .int .i64 a2] w (NeedsPost w [] 130) := by
 unfold fewN at h
 by_cases q1 : n0 ≤ 100
 case neg =>
  have d1 : decide (n0 ≤ 100) = false := decide_eq_false q1
  clear h
  go_enter Try.func7, Try.ntmps7
  go_wp2
  refine bodyPost_ret (v := .tuple #[.slice none 0 0, .int .i64 130]) (by simp [results, Try.results7, go_sem]) rfl ⟨_, rfl, Kd.R_nil _ _ _ _ _, ?_⟩
  exact (((Below.refl _ w).alloc (Nat.le_refl _) _).alloc (by simp) _).alloc (by simp; omega) _
 have d1 : decide (n0 ≤ 100) = true := decide_eq_true q1
 by_cases q2 : n1 ≤ 1000
 case neg =>
  have d2 : decide (n1 ≤ 1000) = false := decide_eq_false q2
  clear h
  go_enter Try.func7, Try.ntmps7
  go_wp2
  refine bodyPost_ret (v := .tuple #[.slice none 0 0, .int .i64 130]) (by simp [results, Try.results7, go_sem]) rfl ⟨_, rfl, Kd.R_nil _ _ _ _ _, ?_⟩
  exact (((Below.refl _ w).alloc (Nat.le_refl _) _).alloc (by simp) _).alloc (by simp; omega) _
 have d2 : decide (n1 ≤ 1000) = true := decide_eq_true q2
 by_cases q3 : 0 ≤ a2
 case neg =>
  have d3 : decide (a2 ≥ 0) = false := decide_eq_false q3
  clear h
  go_enter Try.func7, Try.ntmps7
  go_wp2
  refine bodyPost_ret (v := .tuple #[.slice none 0 0, .int .i64 130]) (by simp [results, Try.results7, go_sem]) rfl ⟨_, rfl, Kd.R_nil _ _ _ _ _, ?_⟩
  exact (((Below.refl _ w).alloc (Nat.le_refl _) _).alloc (by simp) _).alloc (by simp; omega) _
 have d3 : decide (a2 ≥ 0) = true := decide_eq_true q3
 by_cases q4 : a2 ≤ 1073741824
 case neg =>
  have d4 : decide (a2 ≤ 1073741824) = false := decide_eq_false q4
  clear h
  go_enter Try.func7, Try.ntmps7
  go_wp2
  refine bodyPost_ret (v := .tuple #[.slice none 0 0, .int .i64 130]) (by simp [results, Try.results7, go_sem]) rfl ⟨_, rfl, Kd.R_nil _ _ _ _ _, ?_⟩
  exact (((Below.refl _ w).alloc (Nat.le_refl _) _).alloc (by simp) _).alloc (by simp; omega) _
 simp [q1, q2, q3, q4] at h
set_option maxRecDepth 1000000 in
set_option maxHeartbeats 4000000 in
theorem needs_bands (A0 : Option Addr) (c0 : Nat) (l0 : List S42) (A1 : Option Addr) (c1 : Nat) (n1 : Nat) (a2 : Int) (w : World) (h1 : n1 ≤ 9223372036854775807) (h : fewN l0.length n1 a2 = true) (hr0 : Kd.C k42 w A0 l0.length l0) (hc0 : l0.length ≤ c0) (hb : columns_RightBands.f l0 = some false) :
  Calls Try.prog 7 #[.slice A0 l0.length c0, .slice A1 n1 c1, .int .i64 a2] w (NeedsPost w [] 130) := by
 unfold fewN at h
 simp only [Bool.and_eq_true, decide_eq_true_eq] at h
 obtain ⟨⟨⟨q1, q2⟩, q3⟩, q4⟩ := h
 have d1 : decide (l0.length ≤ 100) = true := decide_eq_true q1
 have d2 : decide (n1 ≤ 1000) = true := decide_eq_true q2
 have d3 : decide (a2 ≥ 0) = true := decide_eq_true q3
 have d4 : decide (a2 ≤ 1073741824) = true := decide_eq_true q4
 have hcall := fun W (hB : Below w.heap.size w W) => columns_RightBands.calls A0 c0 l0 false W (Kd.C_below hr0 hB) hc0 hb
 have HC := Lib.hid hcall
 clear hcall hr0 hb
 obtain ⟨B, hB⟩ : ∃ B, w.heap.size = B := ⟨_, rfl⟩
 obtain ⟨W0, hW0⟩ : ∃ W0, (((w.alloc (.cells #[.int .i64 a2] 2)).alloc (.cells #[.slice none 0 0] 27)).alloc (.cells #[.int .i64 0] 28)) = W0 := ⟨_, rfl⟩
 have b6 : Boxed W0 (B + 1) 27 (.slice none 0 0) := by rw [← hW0]; exact (boxNew (by simp [hB])).alloc _
 have b7 : Boxed W0 (B + 1 + 1) 28 (.int .i64 0) := by rw [← hW0]; exact boxNew (by simp [hB])
 have HW := Lib.hid (show Below w.heap.size w W0 by rw [← hW0]; exact (((Below.refl _ w).alloc (Nat.le_refl _) _).alloc (by simp) _).alloc (by simp; omega) _)
 have HW0 := Lib.hid hW0
 have B6 := Lib.hid b6
 have B7 := Lib.hid b7
 clear hW0 b6 b7
 go_enter Try.func7, Try.ntmps7
 go_wp2_with fail
 rw [HW0.out]
 go_at_call 17
 refine (HC.out _ HW.out).mono ?_
 rintro e w2 ⟨rfl, hb2⟩
 have b6' : Boxed w2 (B + 1) 27 (.slice none 0 0) := (hb2.block _ (blk_lt B6.out)).trans B6.out
 have b7' : Boxed w2 (B + 1 + 1) 28 (.int .i64 0) := (hb2.block _ (blk_lt B7.out)).trans B7.out
 obtain ⟨x1, x2, x3, x4, x5⟩ := err_end hB b6' b7' (below_step HW.out hb2)
 have y1 := b6'.cell
 have y2 := b6'.frozen
 have z1 := x1.cell
 have z2 := x2.cell
 have X5 := Lib.hid x5
 clear hb2 B6 B7 b6' b7' x1 x2 x5 HW0 HC HW
 go_wp2_with fail
 refine bodyPost_ret (v := .tuple #[.slice none 0 0, .int .i64 130]) (by simp [results, Try.results7, go_sem, z1, z2]) rfl ⟨_, rfl, Kd.R_nil _ _ _ _ _, X5.out⟩
set_option maxRecDepth 1000000 in
set_option maxHeartbeats 8000000 in
theorem needs_right (A0 : Option Addr) (c0 : Nat) (l0 : List S42) (A1 : Option Addr) (c1 : Nat) (l1 : List S53) (a2 : Int) (w : World) (h : fewN l0.length l1.length a2 = true) (hr0 : Kd.C k42 w A0 l0.length l0) (hc0 : l0.length ≤ c0) (hr1 : Kd.C k53 w A1 l1.length l1) (hc1 : l1.length ≤ c1) (hb : columns_RightBands.f l0 = some true) (hc : columns_Right.f (List.replicate l0.length z44) l1 = some false) :
  Calls Try.prog 7 #[.slice A0 l0.length c0, .slice A1 l1.length c1, .int .i64 a2] w (NeedsPost w [] 130) := by
 unfold fewN at h
 simp only [Bool.and_eq_true, decide_eq_true_eq] at h
 obtain ⟨⟨⟨q1, q2⟩, q3⟩, q4⟩ := h
 have d1 : decide (l0.length ≤ 100) = true := decide_eq_true q1
 have d2 : decide (l1.length ≤ 1000) = true := decide_eq_true q2
 have d3 : decide (a2 ≥ 0) = true := decide_eq_true q3
 have d4 : decide (a2 ≤ 1073741824) = true := decide_eq_true q4
 have HC := Lib.hid (fun W (hB : Below w.heap.size w W) => columns_RightBands.calls A0 c0 l0 true W (Kd.C_below hr0 hB) hc0 hb)
 have HC2 := Lib.hid (fun W A c (hB : Below w.heap.size w W) (hR : Kd.C k44 W A l0.length (List.replicate l0.length z44)) (hcc : l0.length ≤ c) => by
  have := columns_Right.calls A c (List.replicate l0.length z44) A1 c1 l1 false W (by rw [List.length_replicate]; exact hR) (by rw [List.length_replicate]; exact hcc) (Kd.C_below hr1 hB) hc1 hc
  rw [List.length_replicate] at this
  exact this)
 clear hr0 hb hr1 hc
 obtain ⟨B, hB⟩ : ∃ B, w.heap.size = B := ⟨_, rfl⟩
 obtain ⟨W0, hW0⟩ : ∃ W0, (((w.alloc (.cells #[.int .i64 a2] 2)).alloc (.cells #[.slice none 0 0] 27)).alloc (.cells #[.int .i64 0] 28)) = W0 := ⟨_, rfl⟩
 have b6 : Boxed W0 (B + 1) 27 (.slice none 0 0) := by rw [← hW0]; exact (boxNew (by simp [hB])).alloc _
 have b7 : Boxed W0 (B + 1 + 1) 28 (.int .i64 0) := by rw [← hW0]; exact boxNew (by simp [hB])
 have HW := Lib.hid (show Below w.heap.size w W0 by rw [← hW0]; exact (((Below.refl _ w).alloc (Nat.le_refl _) _).alloc (by simp) _).alloc (by simp; omega) _)
 have HW0 := Lib.hid hW0
 have B6 := Lib.hid b6
 have B7 := Lib.hid b7
 clear hW0 b6 b7
 go_enter Try.func7, Try.ntmps7
 go_wp2_with fail
 rw [HW0.out]
 go_at_call 17
 refine (HC.out _ HW.out).mono ?_
 rintro e w2 ⟨rfl, hb2⟩
 have HB2 := Lib.hid hb2
 clear hb2 HW0 HC
 go_wp2_with (first | ((with_reducible refine gate_dst (N := 39) rfl ?_); (try (refine gate_guard (by rfl) ?_; dsimp only)); refine Kd.R_make k44 (w0 := w2) w2.heap.size 44 rfl (N := 39) rfl 22 _ _ rfl (l0.length : Int) rfl rfl Try.underlying22 (.agg #[(.int .i64 0), (.int .i64 0)]) 16 info44 rfl (by decide) (by omega) z44 (ok := fun _ => True) (okp := fun _ => True) (k44_mkM _ _ _ z44) (fun _ hk => hk) trivial (by omega) (by omega) (Below.refl _ _) (Nat.le_refl _) ?_; intro v3 w3 ho3 hb3 hg_ hnew_; rw [Int.toNat_natCast] at ho3; obtain ⟨A3, c3, rfl, hc3, hC3⟩ := Kd.R_reads ho3; rw [List.length_replicate] at hc3 hC3 ⊢; have HB3 := Lib.hid (below_step (below_step HW.out HB2.out) hb3); have HC3 := Lib.hid hC3; have B6' := Lib.hid (show Boxed w3 (B + 1) 27 (.slice none 0 0) from (hb3.block _ (Nat.lt_of_lt_of_le (blk_lt B6.out) HB2.out.size)).trans ((HB2.out.block _ (blk_lt B6.out)).trans B6.out)); have B7' := Lib.hid (show Boxed w3 (B + 1 + 1) 28 (.int .i64 0) from (hb3.block _ (Nat.lt_of_lt_of_le (blk_lt B7.out) HB2.out.size)).trans ((HB2.out.block _ (blk_lt B7.out)).trans B7.out)); clear ho3 hb3 hg_ hnew_ hC3 B6 B7 HB2 HW))
 refine (HC2.out w3 A3 c3 HB3.out HC3.out hc3).mono ?_
 rintro e w4 ⟨rfl, hb4⟩
 have b6' : Boxed w4 (B + 1) 27 (.slice none 0 0) := (hb4.block _ (blk_lt B6'.out)).trans B6'.out
 have b7' : Boxed w4 (B + 1 + 1) 28 (.int .i64 0) := (hb4.block _ (blk_lt B7'.out)).trans B7'.out
 obtain ⟨x1, x2, x3, x4, x5⟩ := err_end hB b6' b7' (below_step HB3.out hb4)
 have y1 := b6'.cell
 have y2 := b6'.frozen
 have z1 := x1.cell
 have z2 := x2.cell
 have X5 := Lib.hid x5
 clear hb4 b6' b7' x1 x2 x5 HC2 HB3 HC3 B6' B7'
 go_wp2_with fail
 refine bodyPost_ret (v := .tuple #[.slice none 0 0, .int .i64 130]) (by simp [results, Try.results7, go_sem, z1, z2]) rfl ⟨_, rfl, Kd.R_nil _ _ _ _ _, X5.out⟩
set_option maxRecDepth 1000000 in
set_option maxHeartbeats 8000000 in
theorem needs_main (A0 : Option Addr) (c0 : Nat) (l0 : List S42) (A1 : Option Addr) (c1 : Nat) (l1 : List S53) (a2 : Int) (w : World) (h : fewN l0.length l1.length a2 = true) (hr0 : Kd.C k42 w A0 l0.length l0) (hc0 : l0.length ≤ c0) (hr1 : Kd.C k53 w A1 l1.length l1) (hc1 : l1.length ≤ c1) (hb : columns_RightBands.f l0 = some true) (hc : columns_Right.f (List.replicate l0.length z44) l1 = some true) (R : Option (List S42)) (hf : needsT a2 (spansOut l1 (l0.length - 1)) l0 = R) :
  Calls Try.prog 7 #[.slice A0 l0.length c0, .slice A1 l1.length c1, .int .i64 a2] w (NeedsPost w (rowsOf R) (errOf R)) := by
 unfold fewN at h
 simp only [Bool.and_eq_true, decide_eq_true_eq] at h
 obtain ⟨⟨⟨q1, q2⟩, q3⟩, q4⟩ := h
 have d1 : decide (l0.length ≤ 100) = true := decide_eq_true q1
 have d2 : decide (l1.length ≤ 1000) = true := decide_eq_true q2
 have d3 : decide (a2 ≥ 0) = true := decide_eq_true q3
 have d4 : decide (a2 ≤ 1073741824) = true := decide_eq_true q4
 have HC := Lib.hid (fun W (hB : Below w.heap.size w W) => columns_RightBands.calls A0 c0 l0 true W (Kd.C_below hr0 hB) hc0 hb)
 have HC2 := Lib.hid (fun W A c (hB : Below w.heap.size w W) (hR : Kd.C k44 W A l0.length (List.replicate l0.length z44)) (hcc : l0.length ≤ c) => by
  have := columns_Right.calls A c (List.replicate l0.length z44) A1 c1 l1 true W (by rw [List.length_replicate]; exact hR) (by rw [List.length_replicate]; exact hcc) (Kd.C_below hr1 hB) hc1 hc
  rw [List.length_replicate] at this
  exact this)
 have Hr0 := Lib.hid hr0
 have Hr1 := Lib.hid hr1
 have Hc := Lib.hid hc
 have Hf := Lib.hid hf
 clear hr0 hb hr1 hc hf
 obtain ⟨B, hB⟩ : ∃ B, w.heap.size = B := ⟨_, rfl⟩
 obtain ⟨W0, hW0⟩ : ∃ W0, (((w.alloc (.cells #[.int .i64 a2] 2)).alloc (.cells #[.slice none 0 0] 27)).alloc (.cells #[.int .i64 0] 28)) = W0 := ⟨_, rfl⟩
 have b5 : Boxed W0 B 2 (.int .i64 a2) := by rw [← hW0]; exact ((boxNew hB).alloc _).alloc _
 have b6 : Boxed W0 (B + 1) 27 (.slice none 0 0) := by rw [← hW0]; exact (boxNew (by simp [hB])).alloc _
 have b7 : Boxed W0 (B + 1 + 1) 28 (.int .i64 0) := by rw [← hW0]; exact boxNew (by simp [hB])
 have HW := Lib.hid (show Below w.heap.size w W0 by rw [← hW0]; exact (((Below.refl _ w).alloc (Nat.le_refl _) _).alloc (by simp) _).alloc (by simp; omega) _)
 have HW0 := Lib.hid hW0
 have B5 := Lib.hid b5
 have B6 := Lib.hid b6
 have B7 := Lib.hid b7
 clear hW0 b5 b6 b7
 refine (callsIn_wide (n := 6)).1 ?_
 refine callsIn_of_wp_marks Try.func7 rfl trivial ?_ rfl
 rw [wpIn_wide]
 simp only [Try.ntmps7, List.size_toArray, List.length_cons, List.length_nil, Nat.reduceAdd, Nat.reduceSub, Array.replicate_succ, Array.replicate_zero, List.push_toArray, List.append_toArray, List.nil_append, List.cons_append]
 go_wp2_with fail
 rw [HW0.out]
 go_at_call 17
 refine (HC.out _ HW.out).mono ?_
 rintro e w2 ⟨rfl, hb2⟩
 have HB2 := Lib.hid hb2
 clear hb2 HW0 HC
 go_wp2_with (first | ((with_reducible refine gate_dst (N := 39) rfl ?_); (try (refine gate_guard (by rfl) ?_; dsimp only)); refine Kd.R_make k44 (w0 := w2) w2.heap.size 44 rfl (N := 39) rfl 22 _ _ rfl (l0.length : Int) rfl rfl Try.underlying22 (.agg #[(.int .i64 0), (.int .i64 0)]) 16 info44 rfl (by decide) (by omega) z44 (ok := fun _ => True) (okp := fun _ => True) (k44_mkM _ _ _ z44) (fun _ hk => hk) trivial (by omega) (by omega) (Below.refl _ _) (Nat.le_refl _) ?_; intro v3 w3 ho3 hb3 hg_ hnew_; rw [Int.toNat_natCast] at ho3; obtain ⟨A3, c3, rfl, hc3, hC3⟩ := Kd.R_reads ho3; rw [List.length_replicate] at hc3 hC3 ⊢; have HB3 := Lib.hid (below_step (below_step HW.out HB2.out) hb3); have HC3 := Lib.hid hC3; have B5' := Lib.hid (show Boxed w3 B 2 (.int .i64 a2) from (hb3.block _ (Nat.lt_of_lt_of_le (blk_lt B5.out) HB2.out.size)).trans ((HB2.out.block _ (blk_lt B5.out)).trans B5.out)); have B6' := Lib.hid (show Boxed w3 (B + 1) 27 (.slice none 0 0) from (hb3.block _ (Nat.lt_of_lt_of_le (blk_lt B6.out) HB2.out.size)).trans ((HB2.out.block _ (blk_lt B6.out)).trans B6.out)); have B7' := Lib.hid (show Boxed w3 (B + 1 + 1) 28 (.int .i64 0) from (hb3.block _ (Nat.lt_of_lt_of_le (blk_lt B7.out) HB2.out.size)).trans ((HB2.out.block _ (blk_lt B7.out)).trans B7.out)); clear ho3 hb3 hg_ hnew_ hC3 B5 B6 B7 HB2 HW))
 refine (HC2.out w3 A3 c3 HB3.out HC3.out hc3).mono ?_
 rintro e w4 ⟨rfl, hb4⟩
 have HB4 := Lib.hid (below_step HB3.out hb4)
 have G5 := Lib.hid (show Boxed w4 B 2 (.int .i64 a2) from (hb4.block _ (blk_lt B5'.out)).trans B5'.out)
 have G6 := Lib.hid (show Boxed w4 (B + 1) 27 (.slice none 0 0) from (hb4.block _ (blk_lt B6'.out)).trans B6'.out)
 have G7 := Lib.hid (show Boxed w4 (B + 1 + 1) 28 (.int .i64 0) from (hb4.block _ (blk_lt B7'.out)).trans B7'.out)
 clear hb4 HC2 HB3 HC3 B5' B6' B7' hc3
 go_wp2_with fail
 refine (cloned_Band A0 c0 l0 w4 (Kd.C_below Hr0.out HB4.out) hc0 (by omega)).mono ?_
 rintro e w5 ⟨v5, rfl, hv5, hb5⟩
 obtain ⟨A5, c5, rfl, hc5, _⟩ := Kd.R_reads hv5
 have HB5 := Lib.hid (below_step HB4.out hb5)
 have HV5 := Lib.hid (Kd.R_lower hv5 HB4.out.size)
 have K5 := Lib.hid (show Boxed w5 B 2 (.int .i64 a2) from (hb5.block _ (blk_lt G5.out)).trans G5.out)
 have K6 := Lib.hid (show Boxed w5 (B + 1) 27 (.slice none 0 0) from (hb5.block _ (blk_lt G6.out)).trans G6.out)
 have K7 := Lib.hid (show Boxed w5 (B + 1 + 1) 28 (.int .i64 0) from (hb5.block _ (blk_lt G7.out)).trans G7.out)
 clear hv5 hb5 HB4 G5 G6 G7
 obtain ⟨M, hM⟩ : ∃ M, w5.heap.size = M := ⟨_, rfl⟩
 go_wp2_with (first | (go_at_call 19; refine (spans_calls _ _ _ _).mono ?_; rintro e w' ⟨rfl, rfl⟩))
 obtain ⟨Wb, hWb⟩ : ∃ Wb, (w5.alloc (.cells #[.slice A5 l0.length c5] 27)).alloc (.cells #[.slice A1 l1.length c1] 23) = Wb := ⟨_, rfl⟩
 have hsz : Wb.heap.size = M + 2 := by rw [← hWb]; simp [hM]
 have hMw : w.heap.size ≤ M := by rw [← hM]; exact HB5.out.size
 have hI0 : NeedsI w B M a2 (.slice A5 l0.length c5) l0 Wb := by
  rw [← hWb]
  exact ⟨Kd.R_alloc (Kd.R_alloc HV5.out _) _, (K5.out.alloc _).alloc _, (K6.out.alloc _).alloc _, (K7.out.alloc _).alloc _, (boxNew hM).alloc _, (HB5.out.alloc HB5.out.size _).alloc (by simp; omega) _⟩
 have bN : Boxed Wb (M + 1) 23 (.slice A1 l1.length c1) := by rw [← hWb]; exact boxNew (by simp [hM])
 have hrN : Kd.C k53 Wb A1 l1.length l1 := Kd.C_below Hr1.out hI0.below
 have hlt0 := blk_lt K5.out
 have hlt6 := blk_lt K6.out
 have hlt7 := blk_lt K7.out
 rw [hWb]
 have Hno := Lib.hid (fun x hx => need_right Hc.out x hx)
 have hcb : ∀ i, i < l1.length → colsAt l1 i < 2 + ((l0.length - 1 : Nat) : Int) := by
  intro i hi
  have h := Hno.out l1[i] (List.getElem_mem hi)
  have e : colsAt l1 i = l1[i].f0.f4 := by
   unfold colsAt
   rw [List.getElem?_eq_getElem hi]
   rfl
  rw [e]
  omega
 clear hWb
 refine wpIn_wide.1 (wpIn_rangeFunc_ownH (F := Fence.wide) (n := 6) (w0 := Wb) rfl (by omega) (gf := 36) (lb := #[.pointer (some ⟨M + 1, 0, none⟩)]) rfl trivial (enters_of Try.func36 (by kernel_rfl) rfl)
  (spans_stops (6 - 1) (by omega) (M + 1) c1 (fun b => (Value.slice A5 l0.length c5).ownBlock = some b) A1 l1 (l0.length - 1) (by omega) hcb hc1 Wb (fun b hb => Kd.R_lt hI0.own b hb) bN.cell hrN)
  (fun h k => KpOut.trans h k) (fun W l o o' _ h hc _ => KpOut.putObj W l o o' h hc) (Below.refl _ _) (fun _ => rfl)
  (fun pre W => ∃ out, needsT a2 (needsOf l1 pre) l0 = some out ∧ NeedsI w B M a2 (.slice A5 l0.length c5) out W)
  (fun c pre W => c = .ret ∧ needsT a2 (needsOf l1 pre) l0 = none ∧ Boxed W (B + 1) 27 (.slice none 0 0) ∧ Boxed W (B + 1 + 1) 28 (.int .i64 130) ∧ Below w.heap.size w W)
  (fun pre X Y row ⟨out, h1, h2⟩ hg hr => ⟨out, h1, h2.keep hg (fun r e => ⟨Nat.le_trans (by omega) (hr r e).1, (hr r e).2⟩)⟩)
  (fun c pre X Y row ⟨h1, h2, h3, h4, h5⟩ hg hr => by
   have hne : ∀ (b : Nat) (cs : Array Value) (t : TypeId), X.heap[b]? = some (.cells cs t (0, 0)) → some b ≠ row := fun b cs t hb e => by
    obtain ⟨_, o, ho, hc⟩ := hr b e.symm
    rw [hb] at ho
    cases ho
    cases hc
   exact ⟨h1, h2, h3.kept hg (hne _ _ _ h3), h4.kept hg (hne _ _ _ h4), h5.grown hg h5.size (fun k hk => Nat.le_trans (by omega) (hr k hk).1)⟩)
  ⟨l0, rfl, hI0⟩
  (fun x a' W => ∃ Bx, W.heap[Bx]? = some (.cells #[.int .i64 l1[x.1].f0.f0, .int .i64 l1[x.1].f0.f1, .int .i64 l1[x.1].f0.f2, .int .i64 l1[x.1].f0.f3, .int .i64 l1[x.1].f0.f4, .int .i64 l1[x.1].f1, .int .i64 l1[x.1].f2, .int .i64 l1[x.1].f3.f0, .int .i64 l1[x.1].f3.f1] 53 (0, 0)) ∧ a' = { tmps := #[Value.slice A0 l0.length c0, Value.slice A1 l1.length c1, Value.int IntKind.i64 a2, undef, undef, Value.pointer (some ⟨B, 0, none⟩), Value.pointer (some ⟨B + 1, 0, none⟩), Value.pointer (some ⟨B + 1 + 1, 0, none⟩), Value.bool true, Value.pointer (some ⟨M, 0, none⟩), .pointer (some ⟨Bx, 0, none⟩), undef, undef, Value.slice A0 l0.length c0, Value.int IntKind.i64 (l0.length : Int), Value.bool true, Value.bool true, Value.slice A1 l1.length c1, Value.int IntKind.i64 (l1.length : Int), Value.bool true, Value.bool true, Value.bool true, Value.int IntKind.i64 a2, Value.bool true, Value.bool true, Value.bool true, Value.int IntKind.i64 a2, Value.bool true, Value.bool true, Value.bool true, Value.bool false, Value.bool false, Value.slice A0 l0.length c0, Value.bool true, Value.bool false, Value.bool false, Value.bool false, Value.slice A0 l0.length c0, Value.int IntKind.i64 (l0.length : Int), Value.slice A3 l0.length c3, Value.slice A1 l1.length c1, Value.bool true, Value.bool false, Value.bool false, Value.slice A0 l0.length c0, Value.slice A5 l0.length c5, Value.slice A1 l1.length c1, Value.func (Fn.func 36) #[] #[Value.pointer (some ⟨M + 1, 0, none⟩)], .agg #[.int .i64 l1[x.1].f0.f0, .int .i64 l1[x.1].f0.f1, .int .i64 l1[x.1].f0.f2, .int .i64 l1[x.1].f0.f3, .int .i64 l1[x.1].f0.f4, .int .i64 l1[x.1].f1, .int .i64 l1[x.1].f2, .int .i64 l1[x.1].f3.f0, .int .i64 l1[x.1].f3.f1], undef, undef, undef, undef, undef, undef, undef, undef, undef, undef, undef, undef, undef, undef, undef, undef, undef, undef, undef, undef], defers := [] })
  ?hAx ?assign ?body ?done ?stop)
 case hAx =>
  rintro x a' s X Y row ⟨Bx, h2, h3⟩ hg hr
  refine ⟨Bx, (hg.block Bx (blk_lt h2) (fun e => ?_)).trans h2, h3⟩
  obtain ⟨_, o, ho, hc⟩ := hr Bx e.symm
  rw [h2] at ho
  cases ho
  cases hc
 case assign =>
  rintro lr pre x W K ⟨out, h1, h2⟩ hK
  have hszW : M < W.heap.size := h2.box.lt
  gi_wp2
  have hB := (Below.refl W.heap.size W).alloc (Nat.le_refl _) (.cells #[.int .i64 l1[x.1].f0.f0, .int .i64 l1[x.1].f0.f1, .int .i64 l1[x.1].f0.f2, .int .i64 l1[x.1].f0.f3, .int .i64 l1[x.1].f0.f4, .int .i64 l1[x.1].f1, .int .i64 l1[x.1].f2, .int .i64 l1[x.1].f3.f0, .int .i64 l1[x.1].f3.f1] 53)
  refine hK _ _ ((KeepsOthers.alloc _ _).from _) (KpOut.of_below hB) ⟨out, h1, h2.step hB⟩ ⟨W.heap.size, heap_alloc_new W _, rfl⟩
 case body =>
  rintro lr pre x a' W hlr ⟨rec, hrec⟩ ⟨out, hout, hI⟩ ⟨Bx, hx, rfl⟩ hlt
  obtain ⟨n1, n2, n3, n4, n5, n6, n7⟩ := Hno.out l1[x.1] (List.getElem_mem x.2)
  have hlen := needsT_length a2 _ _ _ hout
  have hsnoc : needsT a2 (needsOf l1 (pre ++ [x])) l0 = needsT a2 [l1[x.1]] out := by
   unfold needsOf at hout ⊢
   rw [List.map_append, needsT_append, hout]
   rfl
  generalize l1[x.1] = y at n1 n2 n3 n4 n5 n6 n7 hx hsnoc
  obtain ⟨⟨p0, p1, p2, p3, p4⟩, y5, y6, ⟨y7, y8⟩⟩ := y
  dsimp only at n1 n2 n3 n4 n5 n6 n7 hx hsnoc ⊢
  obtain ⟨col, rfl⟩ := Int.eq_ofNat_of_zero_le n1
  obtain ⟨cols, rfl⟩ := Int.eq_ofNat_of_zero_le (show 0 ≤ p4 by omega)
  obtain ⟨G, cap, he, hbG, hGl, _⟩ := Kd.R_form hI.own (by omega)
  simp only [Value.slice.injEq] at he
  obtain ⟨rfl, he2, rfl⟩ := he
  have hxM := hI.box.cell
  have hxB := hI.gap.cell
  obtain ⟨kk, hkk⟩ := spreads_total out col cols (cols : Int) y5 y6 a2 (by omega) (by omega) n5 n6 ⟨q3, q4⟩ (by omega)
  obtain ⟨⟨t, out'⟩, hr⟩ : ∃ r, spreadsT out col cols (cols : Int) y5 y6 a2 = r := ⟨_, rfl⟩
  have hone : needsT a2 [⟨⟨p0, p1, (col : Int), p3, (cols : Int)⟩, y5, y6, ⟨y7, y8⟩⟩] out = if t = true then some out' else none := by
   unfold needsT
   dsimp only
   rw [Int.toNat_natCast, Int.toNat_natCast, hr]
   rfl
  rw [hone] at hsnoc
  rw [hr] at hkk
  have hcall := fun W' (h : Below W.heap.size W W') => spreads_calls kk G l0.length c5 col cols out p0 p1 (col : Int) p3 (cols : Int) y5 y6 y7 y8 a2 t out' W' w.heap.size (fun _ => True) (Kd.R_below hI.own h) (by omega) (by omega) hkk
  have HC := Lib.hid hcall
  clear hcall hkk hone hr
  have hx2 := (blk_cell hx 2).trans rfl
  have hx4 := (blk_cell hx 4).trans rfl
  have hx0 := (blk_cell hx 0).trans rfl
  have hx1 := (blk_cell hx 1).trans rfl
  have hx3 := (blk_cell hx 3).trans rfl
  have hx5 := (blk_cell hx 5).trans rfl
  have hx6 := (blk_cell hx 6).trans rfl
  have hx7 := (blk_cell hx 7).trans rfl
  have hx8 := (blk_cell hx 8).trans rfl
  have HI := Lib.hid hI
  have Hsn := Lib.hid hsnoc
  have Hlen := Lib.hid hlen
  clear hx hout hsnoc hI hlen he2
  gi_wp2
  refine Go.Proofs.Ytpoboffdlnnbmaa.Round.region_round_quiet 11 (by kernel_rfl) (by kernel_rfl) (by rintro ⟨_, _, h⟩; exact h) (by kernel_rfl) (by kernel_rfl) ?_
  simp only [List.take_succ_cons, List.take_zero, List.drop_succ_cons, List.drop_zero]
  repeat (go_big_quiet_step (fail))
  refine wpQuiet_nil ?_
  go_wp2
  gi_wp2
  refine Go.Proofs.Ytpoboffdlnnbmaa.Round.region_round_quiet 7 (by kernel_rfl) (by kernel_rfl) (by rintro ⟨_, _, h⟩; exact h) (by kernel_rfl) (by kernel_rfl) ?_
  simp only [List.take_succ_cons, List.take_zero, List.drop_succ_cons, List.drop_zero]
  repeat (go_big_quiet_step (fail))
  refine wpQuiet_nil ?_
  go_wp2_with fail
  refine (HC.out _ (below_drew (below_drew (Below.refl _ _)))).mono ?_
  rintro e w6 ⟨rfl, hR6, hg6⟩
  obtain ⟨hI6, hK6, hP6⟩ := HI.out.spread hR6 (World.grownBy.trans (grown_of_below (below_drew (below_drew (Below.refl _ _))) _) hg6)
  have HI6 := Lib.hid hI6
  have HK6 := Lib.hid hK6
  have HP6 := Lib.hid hP6
  have y1 := hI6.r6.cell
  have y2 := hI6.r6.frozen
  obtain ⟨x1, x2, x3, x4, x5⟩ := err_end hB hI6.r6 hI6.r7 hI6.below
  have X1 := Lib.hid x1
  have X2 := Lib.hid x2
  have X5 := Lib.hid x5
  clear hI6 hK6 hP6 hR6 hg6 x1 x2 x5
  cases t with
  | true =>
   go_wp2
   gi_wp2
   exact ⟨HK6.out.from _, HP6.out, out', Hsn.out.trans (by simp), HI6.out⟩
  | false =>
   go_wp2
   gi_wp2
   exact ⟨(HK6.out.trans ((KeepsOthers.setCell _ _ _).trans (KeepsOthers.setCell _ _ _))).from _, rfl, Hsn.out.trans (by simp), X1.out, X2.out, X5.out⟩
 case done =>
  rintro D ys W hD hys ⟨out, hout, hI⟩ hKD
  rw [hys] at hout
  obtain ⟨x1, x2, x3, x4, x5, x6, x7, x8, x9⟩ := hI.ends hB (D := D) (by omega) hKD
  have hxM := hI.box.cell
  have y1 := hI.r6.cell
  have y2 := hI.r6.frozen
  have X5 := Lib.hid x5
  have X6 := Lib.hid x6
  have X7 := Lib.hid x7
  have hR1 : rowsOf R = out := by rw [← Hf.out, hout]; rfl
  have hR2 : errOf R = 0 := by rw [← Hf.out, hout]; rfl
  have HR1 := Lib.hid hR1
  have HR2 := Lib.hid hR2
  clear hKD hI hout hys x1 x2 x5 x6 x7 hR1 hR2
  go_wp2
  refine ⟨by simp, .inl ⟨_, _, rfl, run_takeDeferred X5.out, ?_⟩⟩
  refine ⟨.tuple #[.slice A5 l0.length c5, .int .i64 0], by simp [results, Try.results7, go_sem, x8, x9], ?_⟩
  rw [HR1.out, HR2.out]
  exact ⟨_, rfl, X6.out, X7.out⟩
 case stop =>
  rintro D c pre W hD hpre ⟨rfl, hnone, b6, b7, hB7⟩ hKD
  have hfull : needsT a2 (spansOut l1 (l0.length - 1)) l0 = none := by
   obtain ⟨tl, htl⟩ := hpre
   rw [← htl, needsT_append, hnone]
   rfl
  have hR1 : rowsOf R = [] := by rw [← Hf.out, hfull]; rfl
  have hR2 : errOf R = 130 := by rw [← Hf.out, hfull]; rfl
  have hD1 : D ≠ B + 1 := fun e => by
   unfold Boxed at b6
   rw [← e, hKD] at b6
   cases b6
  have hD2 : D ≠ B + 1 + 1 := fun e => by
   unfold Boxed at b7
   rw [← e, hKD] at b7
   cases b7
  have x8 : (W.putObj D (.deferred none)).cell? ⟨B + 1, 0, none⟩ = some (.slice none 0 0) := (World.cell?_of_block (a := ⟨B + 1, 0, none⟩) (World.putObj_heap_other (Ne.symm hD1))).trans b6.cell
  have x9 : (W.putObj D (.deferred none)).cell? ⟨B + 1 + 1, 0, none⟩ = some (.int .i64 130) := (World.cell?_of_block (a := ⟨B + 1 + 1, 0, none⟩) (World.putObj_heap_other (Ne.symm hD2))).trans b7.cell
  have X7 := Lib.hid (hB7.trans (belowK_b (w := w) (Nat.le_refl _) W D _ (.deferred none) (by omega) hKD rfl rfl))
  have HKD := Lib.hid hKD
  have HR1 := Lib.hid hR1
  have HR2 := Lib.hid hR2
  clear hKD hfull hnone hR1 hR2 b6 b7 hB7
  refine wpIn_wide.2 ?_
  go_wp2
  refine ⟨by simp, .inl ⟨_, _, rfl, run_takeDeferred HKD.out, ?_⟩⟩
  refine ⟨.tuple #[.slice none 0 0, .int .i64 130], by simp [results, Try.results7, go_sem, x8, x9], ?_⟩
  rw [HR1.out, HR2.out]
  exact ⟨_, rfl, Kd.R_nil _ _ _ _ _, X7.out⟩
set_option maxRecDepth 1000000 in
theorem spread_Needs.calls (A0 : Option Addr) (c0 : Nat) (l0 : List S42) (A1 : Option Addr) (c1 : Nat) (l1 : List S53) (a2 : Int) (r1 : List S42) (r2 : Int) (w : World) (hr0 : Kd.C k42 w A0 l0.length l0) (hc0 : l0.length ≤ c0) (hr1 : Kd.C k53 w A1 l1.length l1) (hc1 : l1.length ≤ c1) (h : spread_Needs.f l0 l1 a2 = some (r1, r2)) :
  Calls Try.prog 7 #[.slice A0 l0.length c0, .slice A1 l1.length c1, .int .i64 a2] w fun e w' => ∃ v0_ : Value, e = .returned (.tuple #[v0_, .int .i64 r2]) ∧ Kd.R k42 42 w' w.heap.size (fun _ => True) v0_ r1 ∧ Below w.heap.size w w' := by
 suffices hs : Calls Try.prog 7 #[.slice A0 l0.length c0, .slice A1 l1.length c1, .int .i64 a2] w (NeedsPost w r1 r2) from hs
 have hm0 := Kd.C_max hr0
 have hm1 := Kd.C_max hr1
 unfold spread_Needs.f at h
 by_cases hok : needsOk l0 l1 a2
 ·rw [if_pos hok] at h
  simp only [Option.some.injEq, Prod.mk.injEq] at h
  obtain ⟨rfl, rfl⟩ := h
  obtain ⟨h1, h2, h3⟩ := hok
  exact needs_main A0 c0 l0 A1 c1 l1 a2 w h1 hr0 hc0 hr1 hc1 h2 h3 _ rfl
 ·rw [if_neg hok] at h
  simp only [Option.some.injEq, Prod.mk.injEq] at h
  obtain ⟨rfl, rfl⟩ := h
  cases h1 : fewN l0.length l1.length a2 with
  | false => exact needs_few A0 c0 _ A1 c1 _ a2 w hm0 hm1 h1
  | true =>
   obtain ⟨t1, ht1⟩ : ∃ t, columns_RightBands.f l0 = some t := ⟨_, rfl⟩
   obtain ⟨t2, ht2⟩ : ∃ t, columns_Right.f (List.replicate l0.length z44) l1 = some t := ⟨_, rfl⟩
   cases t1 with
   | false => exact needs_bands A0 c0 l0 A1 c1 _ a2 w hm1 h1 hr0 hc0 ht1
   | true =>
    cases t2 with
    | false => exact needs_right A0 c0 l0 A1 c1 l1 a2 w h1 hr0 hc0 hr1 hc1 ht1 ht2
    | true => exact absurd ⟨h1, ht1, ht2⟩ hok
end

end Go.Proofs.Ytpoboffdlnnbmaa.PA
