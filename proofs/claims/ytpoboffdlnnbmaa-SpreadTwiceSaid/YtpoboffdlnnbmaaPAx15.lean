-- MADE by wip/tools/xprint.py of this repo: the kit's print.py, turned by this session, and texts by hand
import Derived.Test.YtpoboffdlnnbmaaPAx0
import Derived.Test.YtpoboffdlnnbmaaTail
namespace Go.Proofs.Ytpoboffdlnnbmaa.PA
open Go.RowKit Go.Proofs.YtpoboffdlnnbmaaW.PrintWords Go.Proofs.YtpoboffdlnnbmaaW.PrintLast Go.Proofs.YtpoboffdlnnbmaaW.PrintMore
attribute [local go_sem] max2_int min2_int max_two min_two max_three min_three max_four min_four   -- for this text's walks alone
set_option linter.unusedVariables false
set_option linter.unusedSimpArgs false

-- BY HAND: bands0.tpl
section
open Go.RowKit Go.Shelf Go.Proofs.YtpoboffdlnnbmaaW.PrintWords Go.Proofs.YtpoboffdlnnbmaaW.PrintLast Go.Proofs.YtpoboffdlnnbmaaW.PrintMore
attribute [local go_sem] max2_int min2_int max_two min_two max_three min_three max_four min_four
attribute [local go_sem] Oper.semAt_some
/-- A field of a band's cells. -/
theorem R_cellB {W : World} {base G L cap : Nat} {ok : Nat → Prop} {all : List S42} (h : Kd.R k42 42 W base ok (.slice (some ⟨G, 0, none⟩) L cap) all) (p : Nat) (hp : p < all.length) (j : Nat) (x : Int) (b' : S42)
  (hb : [Value.int .i64 (all[p]?.getD z42).f0, .int .i64 (all[p]?.getD z42).f1, .int .i64 (all[p]?.getD z42).f2, .int .i64 (all[p]?.getD z42).f3].take j ++ [.int .i64 x] ++ [Value.int .i64 (all[p]?.getD z42).f0, .int .i64 (all[p]?.getD z42).f1, .int .i64 (all[p]?.getD z42).f2, .int .i64 (all[p]?.getD z42).f3].drop (j + 1) = [.int .i64 b'.f0, .int .i64 b'.f1, .int .i64 b'.f2, .int .i64 b'.f3]) (hj : j < 4) :
  W.frozen? ⟨G, p * 4 + j, none⟩ = false ∧ Kd.R k42 42 (W.setCell ⟨G, p * 4 + j, none⟩ (.int .i64 x)) base ok (.slice (some ⟨G, 0, none⟩) L cap) (all.set p b') ∧ W.grownBy (W.setCell ⟨G, p * 4 + j, none⟩ (.int .i64 x)) (some G) := by
 obtain ⟨hL, hLc, hC⟩ := Kd.R_reads' h
 obtain ⟨ad, c, e, hcl, hK, hc⟩ := Kd.C_get hC z42 (p : Int) (by omega) (by omega)
 cases e
 have hkc := k42_open hK
 rw [List.getD_eq_getElem?_getD, Int.toNat_natCast] at hkc
 rw [Int.toNat_natCast] at hc
 subst hkc
 have hc' : ∀ i u, ([Value.int .i64 (all[p]?.getD z42).f0, .int .i64 (all[p]?.getD z42).f1, .int .i64 (all[p]?.getD z42).f2, .int .i64 (all[p]?.getD z42).f3])[i]? = some u → W.cell? ⟨G, p * 4 + i, none⟩ = some u := by
  intro i u hu
  have := hc i u hu
  rwa [add_plain] at this
 obtain ⟨cs, hbk⟩ := Kd.R_typed h G rfl
 obtain ⟨h1, h2⟩ := Kd.R_seg h (p : Int) (by omega) (by omega) (c := [.int .i64 (all[p]?.getD z42).f0, .int .i64 (all[p]?.getD z42).f1, .int .i64 (all[p]?.getD z42).f2, .int .i64 (all[p]?.getD z42).f3]) (seg := [.int .i64 x]) (j := j) rfl
  (by intro i u hu; rw [Int.toNat_natCast]; exact hc' i u hu) (by show j + 1 ≤ 4; omega) (x' := b') (okp := fun _ => False) (by rw [show j + [Value.int .i64 x].length = j + 1 from rfl, hb]; exact k42_mkM _ _ _ _) (fun _ hk => hk.elim)
 rw [Int.toNat_natCast] at h1 h2
 exact ⟨blk_frozen hbk _, h1, h2⟩
/-- The cells of one band of an owned row. -/
theorem R_cellsB {W : World} {base G L cap : Nat} {ok : Nat → Prop} {all : List S42} (h : Kd.R k42 42 W base ok (.slice (some ⟨G, 0, none⟩) L cap) all) (p : Nat) (hp : p < all.length) :
  W.cell? ⟨G, p * 4, none⟩ = some (.int .i64 (all[p]?.getD z42).f0) ∧ W.cell? ⟨G, p * 4 + 1, none⟩ = some (.int .i64 (all[p]?.getD z42).f1) ∧ W.cell? ⟨G, p * 4 + 2, none⟩ = some (.int .i64 (all[p]?.getD z42).f2) ∧ W.cell? ⟨G, p * 4 + 3, none⟩ = some (.int .i64 (all[p]?.getD z42).f3) := by
 obtain ⟨hL, hLc, hC⟩ := Kd.R_reads' h
 obtain ⟨ad, c, e, hcl, hK, hc⟩ := Kd.C_get hC z42 (p : Int) (by omega) (by omega)
 cases e
 have hkc := k42_open hK
 rw [List.getD_eq_getElem?_getD, Int.toNat_natCast] at hkc
 rw [Int.toNat_natCast] at hc
 subst hkc
 have hc' : ∀ i u, ([Value.int .i64 (all[p]?.getD z42).f0, .int .i64 (all[p]?.getD z42).f1, .int .i64 (all[p]?.getD z42).f2, .int .i64 (all[p]?.getD z42).f3])[i]? = some u → W.cell? ⟨G, p * 4 + i, none⟩ = some u := by
  intro i u hu
  have := hc i u hu
  rwa [add_plain] at this
 exact ⟨hc' 0 _ rfl, hc' 1 _ rfl, hc' 2 _ rfl, hc' 3 _ rfl⟩
/-- As region_tail, with maxima and checks for nil. -/
def nilOp (o : Oper) : Bool := match o.op with
 | .nilCheck _ => true
 | _ => false
def plainOpN (o : Oper) : Bool := Go.Proofs.Ytpoboffdlnnbmaa.Round.plainOpM o || nilOp o
theorem map_runN {P : Program} {α : Type} (s : Sem α) (g : α → Value) (w : World) (f : FuncId) (args : Array Value) (w' : World) : ((fun a => Next.value (g a)) <$> s).run P w ≠ .ok (.enter f args) w' := by
 rw [← bind_pure_comp]
 simp only [Sem.run_bind]
 cases s.run P w with
 | ok v w1 => simp [Result.andThen, Sem.run_pure]
 | halt x w1 => simp [Result.andThen]
theorem bind_runN {P : Program} {α : Type} (s : Sem α) (g : α → Sem Next) (w : World) (f : FuncId) (args : Array Value) (w' : World) (h : ∀ v w1, (g v).run P w1 ≠ .ok (.enter f args) w') : (s >>= g).run P w ≠ .ok (.enter f args) w' := by
 simp only [Sem.run_bind]
 cases s.run P w with
 | ok v w1 => exact h v w1
 | halt x w1 => simp [Result.andThen]
theorem nil_run {P : Program} {o : Oper} (h : nilOp o = true) (ρ : Operand → Value) (w : World) (f : FuncId) (args : Array Value) (w' : World) : (execOp ρ o).run P w ≠ .ok (.enter f args) w' := by
 unfold nilOp at h
 split at h
 case h_2 => cases h
 rename_i e
 unfold execOp
 rw [e]
 dsimp only
 simp
 repeat' split
 all_goals first
  | (simp [Sem.run_pure, go_sem]; done)
  | (refine bind_runN _ _ _ _ _ _ (fun v w1 => bind_runN _ _ _ _ _ _ (fun v2 w2 => ?_)); split <;> first | exact map_runN _ (fun _ => _) _ _ _ _ | (simp [Sem.run_pure]; done))
theorem plain_runN {P : Program} {o : Oper} (h : plainOpN o = true) (ρ : Operand → Value) (w : World) (f : FuncId) (args : Array Value) (w' : World) : (execOp ρ o).run P w ≠ .ok (.enter f args) w' := by
 unfold plainOpN at h
 rw [Bool.or_eq_true] at h
 rcases h with h | h
 ·exact Go.Proofs.Ytpoboffdlnnbmaa.Round.plain_runM h ρ w f args w'
 ·exact nil_run h ρ w f args w'
theorem still_of_quietN {P : Program} {ops : Array Oper} {C : World → Prop} {w : World} {L : Act → Prop} (hC : C w) : ∀ (l : List Oper) (a : Act), l.all plainOpN = true → wpQuiet P ops C L l a → wpStill P ops w L l a
 | [], _, _, h => h
 | o :: rest, a, hp, h => by
  rw [List.all_cons, Bool.and_eq_true] at hp
  unfold wpQuiet at h
  unfold wpStill
  by_cases hw : Region.wanted o (yielded ops a.tmps) = true
  ·rw [if_pos hw] at h ⊢
   obtain ⟨v, h1, h2⟩ := h
   have h3 := h1 w hC
   have hne := plain_runN (P := P) hp.1 a.eval w
   unfold Oper.quietAt at h3
   unfold Oper.still
   generalize (execOp a.eval o).run P w = r at h3 hne ⊢
   match r, h3, hne with
   | .ok (.value u) w', h3, _ => exact ⟨h3.1, h3.2 ▸ still_of_quietN hC rest _ hp.2 h2⟩
   | .ok .skip w', h3, _ => exact ⟨h3.1, by rw [h3.2] at h2; exact still_of_quietN hC rest _ hp.2 h2⟩
   | .ok (.enter f args) w', _, hne => exact absurd rfl (hne f args w')
  ·rw [if_neg hw] at h ⊢
   exact still_of_quietN hC rest _ hp.2 h
theorem region_tailN {P : Program} {Q : Exit → Act → World → Prop} {id : Nat} {a : Act} {w : World} {l : List Oper} (m : Nat) (hm : P.follows .mixedOrders = true) (hp : (l.take m).all plainOpN = true) (hB : Region.lexTailB .any l.toArray m = true)
  (h : wpQuiet P l.toArray (fun w' => ∃ n, w' = w.drewN n) (fun a' => wpList P l.toArray Q (l.drop m) a' w.drew) (l.take m) a) : (Code.region id l.toArray true).wp P Q a w := by
 have h := still_of_quietN (w := w.drew) ⟨1, rfl⟩ (l.take m) a hp h
 simp only [Region.lexTailB, Bool.and_eq_true, decide_eq_true_eq] at hB
 obtain ⟨⟨⟨⟨hsel, hn⟩, hs⟩, hc⟩, hlex⟩ := hB
 have htl : (l.take m).length = m := by simp at hn ⊢; omega
 have hdl : (l.drop m).length = l.toArray.size - m := by simp
 have inv0 : HeadInv .any l.toArray m (Array.replicate l.toArray.size false) :=
  ⟨by simp, fun j oj _ hl => (by rw [getD_replicate_false] at hl; cases hl), fun t _ ht => getD_in (by simpa using ht) (getD_replicate_false _ _)⟩
 have H := wpAnyL_lex (md := .any) (g := l.toArray.size - m) hsel hs hc hn (l.take m) 0 _ a (fun j hj => by
  rw [htl] at hj
  simp [hj]) (by simpa using htl) inv0 (by rw [htl]; exact hlex) h
 have hall := wpAny_of_head (Q' := Q) (g := l.toArray.size - m) (fun listed a' hL => by
  have := wpAny_of_seq (md := .any) (Q' := Q) (l.drop m) m listed a' w.drew (fun j => by simp [List.getElem?_drop]) (by rw [hdl]; exact hL.1) hL.2
  rwa [hdl] at this) _ _ _ H
 rw [htl, show m + (l.toArray.size - m) = l.toArray.size by omega] at hall
 exact wp_region_any hm hall
/-- A band that is let want a size. -/
def wantB (b : S42) (s : S44) : S42 := if s.f0 = 2 then ⟨b.f0, b.f1, mx b.f2 s.f1, b.f3⟩ else if s.f0 = 1 then ⟨b.f0, b.f1, b.f2, mx b.f3 s.f1⟩ else b
theorem set_self {α : Type} (l : List α) (p : Nat) (z : α) : l.set p (l[p]?.getD z) = l := by
 by_cases h : p < l.length
 ·rw [List.getElem?_eq_getElem h, Option.getD_some]
  exact List.set_getElem_self h
 ·exact List.set_eq_of_length_le (by omega)
set_option maxRecDepth 1000000 in
set_option maxHeartbeats 4000000 in
theorem wants_calls (G L cap p : Nat) (all : List S42) (s : S44) (w : World) (base : Nat) (ok : Nat → Prop) (hr : Kd.R k42 42 w base ok (.slice (some ⟨G, 0, none⟩) L cap) all) (hp : p < all.length) :
  Calls Try.prog 14 #[.pointer (some ⟨G, p * 4, none⟩), .agg #[.int .i64 s.f0, .int .i64 s.f1]] w fun e w' => e = .returned (.tuple #[]) ∧ Kd.R k42 42 w' base ok (.slice (some ⟨G, 0, none⟩) L cap) (all.set p (wantB (all[p]?.getD z42) s)) ∧ w.grownBy w' (some G) := by
 obtain ⟨s0, s1⟩ := s
 dsimp only
 have hu35 := Try.underlying44
 have hu39 := Try.underlying42
 have hRW : Kd.R k42 42 (w.alloc (.cells #[.int .i64 s0, .int .i64 s1] 44)) base ok (.slice (some ⟨G, 0, none⟩) L cap) all := Kd.R_alloc hr _
 have hgW : w.grownBy (w.alloc (.cells #[.int .i64 s0, .int .i64 s1] 44)).drew (some G) := grown_of_below (below_drew ((Below.refl _ w).alloc (Nat.le_refl _) _)) _
 have hgW0 : w.grownBy (w.alloc (.cells #[.int .i64 s0, .int .i64 s1] 44)) (some G) := grown_of_below ((Below.refl _ w).alloc (Nat.le_refl _) _) _
 obtain ⟨x0, x1, x2, x3⟩ := R_cellsB hRW p hp
 have HR := Lib.hid hRW
 have HG0 := Lib.hid hgW0
 clear hr hRW hgW hgW0
 generalize hb : all[p]?.getD z42 = b at x0 x1 x2 x3 ⊢
 by_cases h2 : s0 = 2
 ·subst h2
  obtain ⟨f1, hR2, hG2⟩ := R_cellB (HR.out) p hp 2 (mx b.f2 s1) (wantB b ⟨2, s1⟩) (by rw [hb]; rfl) (by omega)
  have HR2 := Lib.hid (Kd.R_drew hR2)
  have HG2 := Lib.hid (World.grownBy.trans HG0.out (World.grownBy.trans hG2 (grown_of_below (below_drew (Below.refl _ _)) _)))
  clear hR2 hG2
  go_enter Try.func14, Try.ntmps14
  go_wp2
  refine region_tailN 10 (by kernel_rfl) (by kernel_rfl) (by kernel_rfl) ?_
  simp only [List.take_succ_cons, List.take_zero, List.drop_succ_cons, List.drop_zero]
  repeat (go_big_quiet_step (fail))
  refine wpQuiet_nil ?_
  go_wp2
  all_goals
   have e_ := HR2.out
   have g_ := HG2.out
   first | rw [show mx b.f2 s1 = b.f2 by unfold mx; rw [if_neg (by omega)]] at e_ g_ | rw [show mx b.f2 s1 = s1 by unfold mx; split <;> omega] at e_ g_
   go_end0
   exact ⟨rfl, e_, g_⟩
 ·have e2 : (s0 == 2) = false := by simpa using h2
  by_cases h3 : s0 = 1
  ·subst h3
   obtain ⟨f1, hR2, hG2⟩ := R_cellB (HR.out) p hp 3 (mx b.f3 s1) (wantB b ⟨1, s1⟩) (by rw [hb]; rfl) (by omega)
   have HR2 := Lib.hid (Kd.R_drew hR2)
   have HG2 := Lib.hid (World.grownBy.trans HG0.out (World.grownBy.trans hG2 (grown_of_below (below_drew (Below.refl _ _)) _)))
   clear hR2 hG2 h2
   go_enter Try.func14, Try.ntmps14
   go_wp2
   refine region_tailN 10 (by kernel_rfl) (by kernel_rfl) (by kernel_rfl) ?_
   simp only [List.take_succ_cons, List.take_zero, List.drop_succ_cons, List.drop_zero]
   repeat (go_big_quiet_step (fail))
   refine wpQuiet_nil ?_
   go_wp2
   all_goals
    have e_ := HR2.out
    have g_ := HG2.out
    first | rw [show mx b.f3 s1 = b.f3 by unfold mx; rw [if_neg (by omega)]] at e_ g_ | rw [show mx b.f3 s1 = s1 by unfold mx; split <;> omega] at e_ g_
    go_end0
    exact ⟨rfl, e_, g_⟩
  ·have e3 : (s0 == 1) = false := by simpa using h3
   have ew : wantB b ⟨s0, s1⟩ = b := by unfold wantB; rw [if_neg h2, if_neg h3]
   have HR2 := Lib.hid HR.out
   rw [ew, ← hb, set_self]
   clear h2 h3 ew
   go_enter Try.func14, Try.ntmps14
   go_wp2
   go_end0
   exact ⟨rfl, HR2.out, HG0.out⟩
/-- What a band wants, settled. -/
def settleB (b : S42) : S42 := if 0 ≤ b.f2 then ⟨b.f0, mx b.f1 b.f0, b.f2, -1⟩ else if b.f3 < 0 then ⟨b.f0, mx b.f1 b.f0, b.f2, b.f3⟩ else ⟨b.f0, mx b.f3 b.f0, b.f2, b.f3⟩
set_option maxRecDepth 1000000 in
set_option maxHeartbeats 8000000 in
theorem settles_calls (G L cap p : Nat) (all : List S42) (w : World) (base : Nat) (ok : Nat → Prop) (hr : Kd.R k42 42 w base ok (.slice (some ⟨G, 0, none⟩) L cap) all) (hp : p < all.length) :
  Calls Try.prog 16 #[.pointer (some ⟨G, p * 4, none⟩)] w fun e w' => e = .returned (.tuple #[]) ∧ Kd.R k42 42 w' base ok (.slice (some ⟨G, 0, none⟩) L cap) (all.set p (settleB (all[p]?.getD z42))) ∧ w.grownBy w' (some G) := by
 have hu39 := Try.underlying42
 obtain ⟨x0, x1, x2, x3⟩ := R_cellsB hr p hp
 have HR := Lib.hid hr
 have hlen : p < all.length := hp
 generalize hb : all[p]?.getD z42 = b at x0 x1 x2 x3 ⊢
 by_cases h2 : 0 ≤ b.f2
 ·have e2 : decide (b.f2 ≥ 0) = true := decide_eq_true h2
  obtain ⟨f3, hR3, hG3⟩ := R_cellB (HR.out) p hp 3 (-1) (⟨b.f0, b.f1, b.f2, -1⟩ : S42) (by rw [hb]; rfl) (by omega)
  obtain ⟨y0, y1, y2, y3⟩ := R_cellsB hR3 p (by rw [List.length_set]; exact hp)
  rw [List.getElem?_set_self hp, Option.getD_some] at y0 y1 y2 y3
  dsimp only at y0 y1 y2 y3
  obtain ⟨f1, hR2, hG2⟩ := R_cellB hR3 p (by rw [List.length_set]; exact hp) 1 (mx b.f1 b.f0) (settleB b) (by rw [List.getElem?_set_self hp, Option.getD_some]; unfold settleB; rw [if_pos h2]; rfl) (by omega)
  rw [List.set_set] at hR2
  have HR2 := Lib.hid (Kd.R_drew hR2)
  have HG2 := Lib.hid (World.grownBy.trans hG3 (World.grownBy.trans hG2 (grown_of_below (below_drew (Below.refl _ _)) _)))
  clear hR2 hG2 hR3 hG3 hr h2
  go_enter Try.func16, Try.ntmps16
  go_wp2
  refine region_tailN 12 (by kernel_rfl) (by kernel_rfl) (by kernel_rfl) ?_
  simp only [List.take_succ_cons, List.take_zero, List.drop_succ_cons, List.drop_zero]
  repeat (go_big_quiet_step (fail))
  refine wpQuiet_nil ?_
  go_wp2
  all_goals
   have e_ := HR2.out
   have g_ := HG2.out
   first | rw [show mx b.f1 b.f0 = b.f1 by unfold mx; rw [if_neg (by omega)]] at e_ g_ | rw [show mx b.f1 b.f0 = b.f0 by unfold mx; split <;> omega] at e_ g_
   go_end0
   exact ⟨rfl, e_, g_⟩
 ·have e2 : decide (b.f2 ≥ 0) = false := decide_eq_false h2
  by_cases h3 : b.f3 < 0
  ·have e3 : decide (b.f3 < 0) = true := decide_eq_true h3
   obtain ⟨f1, hR2, hG2⟩ := R_cellB HR.out p hp 1 (mx b.f1 b.f0) (settleB b) (by rw [hb]; unfold settleB; rw [if_neg h2, if_pos h3]; rfl) (by omega)
   have HR2 := Lib.hid (Kd.R_drew hR2)
   have HG2 := Lib.hid (World.grownBy.trans hG2 (grown_of_below (below_drew (Below.refl _ _)) _))
   clear hR2 hG2 hr h2 h3
   go_enter Try.func16, Try.ntmps16
   go_wp2
   refine region_tailN 12 (by kernel_rfl) (by kernel_rfl) (by kernel_rfl) ?_
   simp only [List.take_succ_cons, List.take_zero, List.drop_succ_cons, List.drop_zero]
   repeat (go_big_quiet_step (fail))
   refine wpQuiet_nil ?_
   go_wp2
   all_goals
    have e_ := HR2.out
    have g_ := HG2.out
    first | rw [show mx b.f1 b.f0 = b.f1 by unfold mx; rw [if_neg (by omega)]] at e_ g_ | rw [show mx b.f1 b.f0 = b.f0 by unfold mx; split <;> omega] at e_ g_
    go_end0
    exact ⟨rfl, e_, g_⟩
  ·have e3 : decide (b.f3 < 0) = false := decide_eq_false h3
   obtain ⟨f1, hR2, hG2⟩ := R_cellB HR.out p hp 1 (mx b.f3 b.f0) (settleB b) (by rw [hb]; unfold settleB; rw [if_neg h2, if_neg h3]; rfl) (by omega)
   have HR2 := Lib.hid (Kd.R_drew hR2)
   have HG2 := Lib.hid (World.grownBy.trans hG2 (grown_of_below (below_drew (Below.refl _ _)) _))
   clear hR2 hG2 hr h2 h3
   go_enter Try.func16, Try.ntmps16
   go_wp2
   refine region_tailN 12 (by kernel_rfl) (by kernel_rfl) (by kernel_rfl) ?_
   simp only [List.take_succ_cons, List.take_zero, List.drop_succ_cons, List.drop_zero]
   repeat (go_big_quiet_step (fail))
   refine wpQuiet_nil ?_
   go_wp2
   all_goals
    have e_ := HR2.out
    have g_ := HG2.out
    first | rw [show mx b.f3 b.f0 = b.f3 by unfold mx; rw [if_neg (by omega)]] at e_ g_ | rw [show mx b.f3 b.f0 = b.f0 by unfold mx; split <;> omega] at e_ g_
    go_end0
    exact ⟨rfl, e_, g_⟩
end

end Go.Proofs.Ytpoboffdlnnbmaa.PA
