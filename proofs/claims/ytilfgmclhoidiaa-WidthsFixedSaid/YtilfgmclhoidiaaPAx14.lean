-- MADE by wip/tools/xprint.py of this repo: the kit's print.py, turned by this session, and texts by hand
import Derived.Test.YtilfgmclhoidiaaPAx0
import Derived.Test.YtilfgmclhoidiaaPAx6
import Derived.Test.YtilfgmclhoidiaaPAx8
import Derived.Test.YtilfgmclhoidiaaPAx12
import Derived.Test.YtilfgmclhoidiaaPAx13
namespace Go.Proofs.Ytilfgmclhoidiaa.PA
open Go.RowKit Go.Proofs.YtilfgmclhoidiaaW.PrintWords Go.Proofs.YtilfgmclhoidiaaW.PrintLast Go.Proofs.YtilfgmclhoidiaaW.PrintMore
attribute [local go_sem] max2_int min2_int max_two min_two max_three min_three max_four min_four   -- for this text's walks alone
set_option linter.unusedVariables false
set_option linter.unusedSimpArgs false

-- BY HAND: free.tpl
-- MAKING widths_free
section
open Go.RowKit Go.Shelf Go.Proofs.YtilfgmclhoidiaaW.PrintWords Go.Proofs.YtilfgmclhoidiaaW.PrintLast Go.Proofs.YtilfgmclhoidiaaW.PrintMore
attribute [local go_sem] Oper.semAt_some
/-- The places of those bands of which p holds, among the first k. -/
def hitsTo (p : S35 → Bool) (l : List S35) (k : Nat) : List (Fin l.length) := ((List.finRange l.length).take k).filter (fun i => p l[i.1])
theorem hitsTo_yes (p : S35 → Bool) (l : List S35) (k : Nat) (h : k < l.length) (hp : p l[k] = true) : hitsTo p l (k + 1) = hitsTo p l k ++ [⟨k, h⟩] := by
 unfold hitsTo
 rw [finTake_succ k h, List.filter_append]
 simp [hp]
theorem hitsTo_no (p : S35 → Bool) (l : List S35) (k : Nat) (h : k < l.length) (hp : p l[k] = false) : hitsTo p l (k + 1) = hitsTo p l k := by
 unfold hitsTo
 rw [finTake_succ k h, List.filter_append]
 simp [hp]
theorem hitsTo_length (p : S35 → Bool) (l : List S35) (k : Nat) : (hitsTo p l k).length ≤ k := by
 unfold hitsTo
 refine Nat.le_trans (List.length_filter_le _ _) ?_
 simp
 omega
abbrev placeEnc (i : Nat) : Array Value := #[.int .i64 i]
set_option maxRecDepth 100000 in
set_option maxHeartbeats 4000000 in
theorem places_in (n : Nat) (hn : 1 ≤ n) (lr Bw Bf c g : Nat) (P : Nat → Prop) (A : Option Addr) (l : List S35) (p : S35 → Bool) (eg : ∀ args w, (callFunc g args).run Try.prog w = .ok (.enter g args) w)
  (hp : ∀ (x : S35) (W : World), Calls Try.prog g #[.agg #[.int .i64 x.f0, .int .i64 x.f1, .int .i64 x.f2, .int .i64 x.f3]] W fun e w' => e = .returned (.bool (p x)) ∧ Below W.heap.size W w')
  (hb : ∀ ad, 0 < l.length → A = some ad → P ad.block) (J Jx : List (Fin l.length) → World → Prop)
  (hY : ∀ pre x W, J pre W → pre.length < l.length → YieldAt Fence.wide (n - 1) Try.prog lr (placeEnc x.1) W fun e W' =>
   (e = .returned (.bool true) ∧ J (pre ++ [x]) W' ∧ KpOn P W W') ∨ (e = .returned (.bool false) ∧ Jx (pre ++ [x]) W'))
  (hJ : ∀ pre W W', J pre W → Below W.heap.size W W' → J pre W') (hP : ∀ (W W' : World), KpOn P W W' → True)
  (W : World) (hPw : ∀ b, P b → b < W.heap.size) (hBw : W.cell? ⟨Bw, 0, none⟩ = some (.slice A l.length c)) (hBf : W.cell? ⟨Bf, 0, none⟩ = some (.func (.func g) #[] #[])) (hw1 : P Bw) (hw2 : P Bf)
  (hr : Kd.C k35 W A l.length l) (h0 : J [] W) :
  CallsIn Fence.wide n Try.prog 121 #[.func (.yield lr) #[] #[], .pointer (some ⟨Bw, 0, none⟩), .pointer (some ⟨Bf, 0, none⟩)] W fun e W' => (∃ v, e = .returned v) ∧
   ((J (hitsTo p l l.length) W') ∨ (∃ pre, Jx pre W')) := by
 have hmax : l.length ≤ 9223372036854775807 := Kd.C_max hr
 have hu35 := Try.underlying35
 have Hr := Lib.hid hr
 have Hp := Lib.hid hp
 clear hr hp
 refine callsIn_of_wp Try.func121 rfl trivial ?_ rfl
 simp only [Try.ntmps121, List.size_toArray, List.length_cons, List.length_nil, Nat.reduceAdd, Nat.reduceSub, Array.replicate_succ, Array.replicate_zero, List.push_toArray, List.append_toArray, List.nil_append, List.cons_append]
 refine wpIn_wide.2 (wp_scope_straight ((wpIn_wide (n := n)).1 ?_))
 gi_wp2
 refine wpIn_label ?_
 simp only [Exit.then]
 rename_i hK
 refine hK _ _ ?_
 clear hK
 gi_wp2
 gi_loopw [8] (fun i wr => ∃ k : Nat, k ≤ l.length ∧ i = .int .i64 k ∧ J (hitsTo p l k) wr ∧ KpOn P W wr) (fun i _ => l.length - (intOf i).toNat)
 case atStart => exact ⟨0, Nat.zero_le _, rfl, by simpa [hitsTo] using h0, KpOn.refl _ _⟩
 case round =>
  obtain ⟨k, hk, rfl, hJs, hnx⟩ := hrel
  by_cases hlt : k < l.length
  ·have hltz : (k : Int) < (l.length : Int) := by omega
   obtain ⟨ad, rfl, hx0, hx1, hx2, hx3⟩ := at_T35 Hr.out (k : Int) (by omega) hltz
   rw [rd_band_nat l k hlt, Int.toNat_natCast] at hx0 hx1 hx2 hx3
   have hbk : P (ad.add (k * 4)).block := by rw [add_block]; exact hb _ (by omega) rfl
   replace hx0 := hnx.cell hbk hx0
   replace hx1 := hnx.cell (a := ⟨(ad.add (k * 4)).block, (ad.add (k * 4)).off + 1, none⟩) hbk hx1
   replace hx2 := hnx.cell (a := ⟨(ad.add (k * 4)).block, (ad.add (k * 4)).off + 2, none⟩) hbk hx2
   replace hx3 := hnx.cell (a := ⟨(ad.add (k * 4)).block, (ad.add (k * 4)).off + 3, none⟩) hbk hx3
   have hBfx := hnx.cell (a := ⟨Bf, 0, none⟩) hw2 hBf
   have hsz : ∀ b, P b → b < wr.heap.size := fun b h => Nat.lt_of_lt_of_le (hPw b h) hnx.1
   have hcall := fun W => Hp.out l[k] W
   have hFg : Fence.wide.fn g := trivial
   have hbf : Bf < wr.heap.size := hsz _ hw2
   cases hq : p l[k] with
   | false =>
    rw [hq] at hcall
    gi_wp2_with (gi_at_fn g; refine (callsIn_wide.2 (hcall _)).mono ?_; rintro e w' ⟨rfl, hb'⟩; have HB := Aside0.mk (below_step ((Below.refl _ wr).alloc (Nat.le_refl _) _) hb'); clear hb')
    go_roundw
    case rel => exact ⟨k + 1, by omega, by go_num, by rw [hitsTo_no p l k hlt hq]; exact hJ _ _ _ hJs HB.out, hnx.trans (KpOn.of_below HB.out hsz)⟩
    case measure => simp [intOf]; omega
   | true =>
    rw [hq] at hcall
    gi_wp2_with (gi_at_fn g; refine (callsIn_wide.2 (hcall _)).mono ?_; rintro e w' ⟨rfl, hb'⟩; have HB := Aside0.mk (below_step ((Below.refl _ wr).alloc (Nat.le_refl _) _) hb'); clear hb')
    have hJd := hJ _ _ _ hJs HB.out
    obtain ⟨fn, tmps, assign, body, hy, hR⟩ := hY _ ⟨k, hlt⟩ _ hJd (Nat.lt_of_le_of_lt (hitsTo_length p l k) hlt)
    dsimp only [placeEnc] at hy
    rw [hy]
    gi_wp2
    refine hR.mono ?_
    rintro e W3 (⟨rfl, hJ3, hk3⟩ | ⟨rfl, hJx3⟩)
    ·gi_wp2
     go_roundw
     case rel => exact ⟨k + 1, by omega, by go_num, by rw [hitsTo_yes p l k hlt hq]; exact hJ3, (hnx.trans (KpOn.of_below HB.out hsz)).trans hk3⟩
     case measure => simp [intOf]; omega
    ·gi_wp2
     simp only [Exit.noGoto]
     refine bodyPost_ret (results_none rfl _ _ _) rfl ?_
     exact ⟨⟨_, rfl⟩, .inr ⟨_, hJx3⟩⟩
  ·obtain rfl : k = l.length := by omega
   gi_wp2
   simp only [Exit.noGoto]
   go_end0
   exact ⟨⟨_, rfl⟩, .inl hJs⟩
theorem places_stops (n : Nat) (hn : 1 ≤ n) (Bw Bf c g : Nat) (P : Nat → Prop) (A : Option Addr) (l : List S35) (p : S35 → Bool) (eg : ∀ args w, (callFunc g args).run Try.prog w = .ok (.enter g args) w)
  (hp : ∀ (x : S35) (W : World), Calls Try.prog g #[.agg #[.int .i64 x.f0, .int .i64 x.f1, .int .i64 x.f2, .int .i64 x.f3]] W fun e w' => e = .returned (.bool (p x)) ∧ Below W.heap.size W w')
  (hb : ∀ ad, 0 < l.length → A = some ad → P ad.block) (w : World) (hPw : ∀ b, P b → b < w.heap.size) (hBw : w.cell? ⟨Bw, 0, none⟩ = some (.slice A l.length c)) (hBf : w.cell? ⟨Bf, 0, none⟩ = some (.func (.func g) #[] #[])) (hw1 : P Bw) (hw2 : P Bf)
  (hr : Kd.C k35 w A l.length l) :
  SeqStopsK Fence.wide n Try.prog 121 #[.pointer (some ⟨Bw, 0, none⟩), .pointer (some ⟨Bf, 0, none⟩)] (fun x : Fin l.length => placeEnc x.1) (KpOn P) (fun xs => xs = hitsTo p l l.length) (fun _ => True) l.length w := fun lr J Jx W hW hJ _ hY h0 => by
 have hW' : KpOn P w W := KpOn.of_below hW hPw
 refine (places_in n hn lr Bw Bf c g P A l p eg hp hb J Jx hY (fun pre W1 W2 hj hB => hJ pre W1 W2 none hj (grown_of_below hB none) (fun _ e => by cases e)) (fun _ _ _ => trivial) W (fun b h => Nat.lt_of_lt_of_le (hPw b h) hW'.1)
  (hW'.cell (a := ⟨Bw, 0, none⟩) hw1 hBw) (hW'.cell (a := ⟨Bf, 0, none⟩) hw2 hBf) hw1 hw2 (Kd.C_below hr hW) h0).mono ?_
 rintro e W' ⟨he, h | ⟨pre, h⟩⟩
 ·exact ⟨he, .inl ⟨_, rfl, h⟩⟩
 ·exact ⟨he, .inr ⟨pre, trivial, h⟩⟩
theorem places_calls (A : Option Addr) (n c g : Nat) (w : World) : Calls Try.prog 107 #[.slice A n c, .func (.func g) #[] #[]] w fun e w' => e = .returned (.func (.func 121) #[] #[.pointer (some ⟨w.heap.size, 0, none⟩), .pointer (some ⟨w.heap.size + 1, 0, none⟩)]) ∧
  w' = (w.alloc (.cells #[.slice A n c] 22)).alloc (.cells #[.func (.func g) #[] #[]] 75) := by
 go_enter Try.func107, Try.ntmps107
 go_wp2
 go_ret
 exact ⟨rfl, rfl⟩
/-- Marks of loops that are over: their blocks hold nothing. -/
def Marks (n₀ : Nat) : List Deferred → Nat → World → Prop
 | [], _, _ => True
 | d :: ds, hi, W => ∃ D, d = { target := .collected D, args := #[] } ∧ n₀ ≤ D ∧ D < hi ∧ W.heap[D]? = some (.deferred (some [])) ∧ Marks n₀ ds D W
theorem Marks.keep {n₀ : Nat} {W W' : World} : ∀ {ds : List Deferred} {hi : Nat}, Marks n₀ ds hi W → (∀ D, D < hi → W.heap[D]? = some (.deferred (some [])) → W'.heap[D]? = some (.deferred (some []))) → Marks n₀ ds hi W'
 | [], _, _, _ => trivial
 | _ :: _, _, ⟨D, h1, h2, h3, h4, h5⟩, k => ⟨D, h1, h2, h3, k D h3 h4, h5.keep (fun E hE h => k E (Nat.lt_trans hE h3) h)⟩
theorem Marks.mono {n₀ : Nat} {W : World} : ∀ {ds : List Deferred} {hi hi' : Nat}, Marks n₀ ds hi W → hi ≤ hi' → Marks n₀ ds hi' W
 | [], _, _, _, _ => trivial
 | _ :: _, _, _, ⟨D, h1, h2, h3, h4, h5⟩, k => ⟨D, h1, h2, Nat.lt_of_lt_of_le h3 k, h4, h5⟩
theorem marks_own {β : Type} (n₀ B hi : Nat) (ds : List Deferred) (h : hi ≤ B) : OwnFrom B (fun (_ : β) W => Marks n₀ ds hi W) := fun _ X Y row hs hg hr => hs.keep (fun D hD hx => (hg.block D (Array.getElem?_eq_some_iff.1 hx).1 (fun e => by have := (hr D e.symm).1; omega)).trans hx)
theorem Marks.others {n₀ hi : Nat} {ds : List Deferred} {W W' : World} (h : Marks n₀ ds hi W) (k : KeepsOthers W W') : Marks n₀ ds hi W' := h.keep (fun D _ hx => k.same D _ hx rfl)
/-- Out of a function that has run loops over functions: the marks go, what is handed back stays. -/
theorem leaves_marks {n : Nat} {w : World} {fn : Func} {tmps : Array Value} {R : Ending → World → Prop} {v : Value} {k : Nat} {xs : List Value} {t : TypeId} (hres : ∀ W, (results fn tmps).run Try.prog W = .ok v W)
  (hR : ∀ W, W.ownsRow w.heap.size t 1 v k xs → Below w.heap.size w W → R (.returned v) W) : ∀ (ds : List Deferred) (hi : Nat) (W : World), Marks w.heap.size ds hi W → W.ownsRow w.heap.size t 1 v k xs → Below w.heap.size w W → LeavesInM Fence.wide n Try.prog fn tmps R ds .returning W
 | [], _, W, _, ho, hb => ⟨v, hres W, hR W ho hb⟩
 | _ :: ds, hi, W, ⟨D, h1, h2, h3, h4, h5⟩, ho, hb => by
  subst h1
  refine ⟨by simp, .inl ⟨D, _, rfl, run_takeDeferred h4, ?_⟩⟩
  refine leaves_marks hres hR ds D _ (h5.keep (fun E hE hx => (World.putObj_heap_other (by omega)).trans hx)) (ownsRow_putObj ho (.deferred none) h4 rfl) (hb.trans (belowK_b (w := w) (Nat.le_refl _) W D _ _ h2 h4 rfl rfl))
/-- The conditions, in their order. -/
def condP : Nat → S35 → Bool
 | 0 => fun b => decide (b.f2 < 0) && decide (b.f3 < 0)
 | 1 => fun b => decide (b.f2 < 0)
 | _ => fun _ => true
def condF : Nat → Nat
 | 0 => 67
 | 1 => 68
 | _ => 69
theorem cond_enter (i : Nat) : ∀ args w, (callFunc (condF i) args).run Try.prog w = .ok (.enter (condF i) args) w := by
 match i with
 | 0 => exact enters_of Try.func67 (by kernel_rfl) rfl
 | 1 => exact enters_of Try.func68 (by kernel_rfl) rfl
 | _ + 2 => exact enters_of Try.func69 (by kernel_rfl) rfl
theorem cond_calls (i : Nat) (x : S35) (W : World) : Calls Try.prog (condF i) #[.agg #[.int .i64 x.f0, .int .i64 x.f1, .int .i64 x.f2, .int .i64 x.f3]] W fun e w' => e = .returned (.bool (condP i x)) ∧ Below W.heap.size W w' := by
 match i with
 | 0 => exact widths_free_1.calls x.f0 x.f1 x.f2 x.f3 _ W (by unfold widths_free_1.f condP; by_cases h : x.f2 < 0 <;> simp [h])
 | 1 => exact widths_free_2.calls x.f0 x.f1 x.f2 x.f3 _ W rfl
 | _ + 2 => exact widths_free_3.calls x.f0 x.f1 x.f2 x.f3 _ W rfl
/-- The places of those bands of which the i-th condition holds. -/
def hits (i : Nat) (l : List S35) : List (Fin l.length) := hitsTo (condP i) l l.length
def hitNums {n : Nat} (l : List (Fin n)) : List Int := l.map (fun x => (x.1 : Int))
def freeOut (l : List S35) : List Int := if hits 0 l ≠ [] then hitNums (hits 0 l) else if hits 1 l ≠ [] then hitNums (hits 1 l) else hitNums (hits 2 l)
theorem freeOut_at (l : List S35) (i : Nat) (hi : i < 3) (hz : ∀ j, j < i → hits j l = []) (h : hits i l ≠ [] ∨ i = 2) : freeOut l = hitNums (hits i l) := by
 unfold freeOut
 match i, hi with
 | 0, _ => rw [if_pos (by simpa using h)]
 | 1, _ => rw [if_neg (by simpa using hz 0 (by omega)), if_pos (by simpa using h)]
 | 2, _ => rw [if_neg (by simpa using hz 0 (by omega)), if_neg (by simpa using hz 1 (by omega))]
def FirstJ (A : Option Addr) (c : Nat) (l : List S35) (C N : Nat) (w : World) (a' : Act) (w' : World) : Prop :=
 ∃ (i : Nat) (ds : List Deferred) (u2 u3 u7 u8 u9 u10 u11 u12 u13 u14 u15 u16 u17 u18 u19 u20 u21 u22 u23 u24 u25 u26 u27 u28 u29 u30 : Value), a' = { tmps := #[.slice A l.length c, .slice (some ⟨C, 0, none⟩) 3 3, u2, u3, .slice none 0 0, .pointer (some ⟨N, 0, none⟩), .int .i64 i, u7, u8, u9, u10, u11, u12, u13, u14, u15, u16, u17, u18, u19, u20, u21, u22, u23, u24, u25, u26, u27, u28, u29, u30], defers := ds } ∧ i < 3 ∧
  Marks w.heap.size ds w'.heap.size w' ∧ Boxed w' N 66 (.slice none 0 0) ∧ Below w.heap.size w w' ∧ ∀ j, j < i → hits j l = []
set_option maxRecDepth 1000000 in
set_option maxHeartbeats 8000000 in
theorem first_calls (A : Option Addr) (c : Nat) (l : List S35) (C : Nat) (w : World) (hle : l.length ≤ 10000) (hr : Kd.C k35 w A l.length l) (hc : ∀ j, j < 3 → w.cell? ⟨C, j, none⟩ = some (.func (.func (condF j)) #[] #[])) :
  Calls Try.prog 70 #[.slice A l.length c, .slice (some ⟨C, 0, none⟩) 3 3] w fun e w' => ∃ v, e = .returned v ∧ Kd.R (Kd.int .i64) 3 w' w.heap.size (fun _ => True) v (freeOut l) ∧ Below w.heap.size w w' := by
 have hmax : l.length ≤ 9223372036854775807 := Kd.C_max hr
 have Hr := Lib.hid hr
 have Hc := Lib.hid hc
 clear hr hc
 obtain ⟨N, hN⟩ : ∃ N, w.heap.size = N := ⟨_, rfl⟩
 refine (callsIn_wide (n := 6)).1 ?_
 refine callsIn_of_wp_marks Try.func70 rfl trivial ?_ rfl
 rw [wpIn_wide]
 simp only [Try.ntmps70, List.size_toArray, List.length_cons, List.length_nil, Nat.reduceAdd, Nat.reduceSub, Array.replicate_succ, Array.replicate_zero, List.push_toArray, List.append_toArray, List.nil_append, List.cons_append]
 go_wp2
 refine wp_scope_jumps2 0 (FirstJ A c l C N w) (fun a' _ => 3 - (intOf (a'.tmps.getD 6 undef)).toNat) rfl ?pass ?first
 case first =>
  intro pass
  go_wp2
  go_step3
  rename_i hK
  refine hK _ _ (pass _ _ ?_)
  have hx : (w.alloc (.cells #[.slice none 0 0] 66)).heap.size = w.heap.size + 1 := by simp
  exact ⟨0, [], _, _, _, _, _, _, _, _, _, _, _, _, _, _, _, _, _, _, _, _, _, _, _, _, _, _, rfl, by omega, trivial, boxNew hN, (Below.refl _ w).alloc (Nat.le_refl _) _, fun j hj => absurd hj (Nat.not_lt_zero _)⟩
 case pass =>
  rintro a' w1 ⟨i, ds, u2, u3, u7, u8, u9, u10, u11, u12, u13, u14, u15, u16, u17, u18, u19, u20, u21, u22, u23, u24, u25, u26, u27, u28, u29, u30, rfl, hi, hM, hbx, hB, hz⟩
  have hiz : (i : Int) < 3 := by omega
  have hcell := (hB.cell (World.block_lt_of_cell? w _ (Hc.out i hi))).trans (Hc.out i hi)
  go_wp2_with (first | (go_at_call 107; refine (places_calls _ _ _ _ _).mono ?_; rintro e w' ⟨rfl, rfl⟩))
  obtain ⟨M, hM0⟩ : ∃ M, w1.heap.size = M := ⟨_, rfl⟩
  rw [hM0] at hM ⊢
  obtain ⟨W0, hW0⟩ : ∃ W0, (w1.alloc (.cells #[.slice A l.length c] 22)).alloc (.cells #[.func (.func (condF i)) #[] #[]] 75) = W0 := ⟨_, rfl⟩
  have hNM : N < M := by have := hbx.lt; omega
  have hsz : W0.heap.size = M + 2 := by rw [← hW0]; simp [hM0]
  have bO : Boxed W0 N 66 (.slice none 0 0) := by rw [← hW0]; exact (hbx.alloc _).alloc _
  have b1 : Boxed W0 M 22 (.slice A l.length c) := by rw [← hW0]; exact (boxNew hM0).alloc _
  have b2 : Boxed W0 (M + 1) 75 (.func (.func (condF i)) #[] #[]) := by rw [← hW0]; exact boxNew (by simp [hM0])
  have hB0 : Below w.heap.size w W0 := by rw [← hW0]; exact (hB.alloc (by omega) _).alloc (by simp; omega) _
  have hM2 : Marks w.heap.size ds M W0 := by rw [← hW0]; exact hM.others ((KeepsOthers.alloc _ _).trans (KeepsOthers.alloc _ _))
  rw [hW0]
  clear hW0 hbx hB hM
  have HZ := Lib.hid hz
  clear hz
  refine wpIn_wide.1 (wpIn_rangeFunc_ownH (F := Fence.wide) (n := 6) (w0 := W0) rfl (by omega) (gf := 121) (lb := #[.pointer (some ⟨M, 0, none⟩), .pointer (some ⟨M + 1, 0, none⟩)]) rfl trivial (enters_of Try.func121 (by kernel_rfl) rfl)
   (places_stops (6 - 1) (by omega) M (M + 1) c (condF i) (fun b => b < w.heap.size ∨ b = M ∨ b = M + 1) A l (condP i) (cond_enter i) (cond_calls i) (fun ad hp e => by
    subst e
    obtain ⟨ad', e', hx0, _⟩ := at_T35 Hr.out 0 (by omega) (by omega)
    cases e'
    have := World.block_lt_of_cell? w _ hx0
    rw [add_block] at this
    exact .inl this) W0 (by omega) b1.cell b2.cell (by simp) (by simp) (Kd.C_below Hr.out hB0))
   (fun h k => KpOn.trans h k) (KpOn.putObj (by omega)) (Below.refl _ _) (fun _ => rfl)
   (fun pre W => (((∃ v, Boxed W N 66 v ∧ W.ownsRow w.heap.size 3 1 v pre.length (nums .i64 (hitNums pre)) ∧ (pre = [] → v = .slice none 0 0)) ∧ (Boxed W M 22 (.slice A l.length c) ∧ Boxed W (M + 1) 75 (.func (.func (condF i)) #[] #[]))) ∧ Marks w.heap.size ds M W) ∧ Below w.heap.size w W)
   (fun _ _ _ => False)
   (OwnFrom.and (OwnFrom.and (OwnFrom.and (Own.from (holdsRow_own w.heap.size N 66 3 1 (fun pre => pre.length) (fun pre => nums .i64 (hitNums pre)) (fun pre v => pre = [] → v = .slice none 0 0)) _) (OwnFrom.and (Own.from (boxed_own (β := List (Fin l.length)) _ _ (fun _ => .slice A l.length c)) _) (Own.from (boxed_own (β := List (Fin l.length)) _ _ (fun _ => .func (.func (condF i)) #[] #[])) _))) (marks_own w.heap.size _ M ds (by omega))) (ownFrom_below (Nat.le_refl _) (by omega)))
   (fun _ _ _ _ _ hs _ _ => hs)
   ⟨⟨⟨⟨_, bO, World.ownsRow_nil _ _ _ _, fun _ => rfl⟩, ⟨b1, b2⟩⟩, hM2⟩, hB0⟩
   (fun x a' W => a' = { tmps := #[.slice A l.length c, .slice (some ⟨C, 0, none⟩) 3 3, u2, u3, .slice none 0 0, .pointer (some ⟨N, 0, none⟩), .int .i64 i, .int .i64 x.1, .slice A l.length c, .slice (some ⟨C, 0, none⟩) 3 3, .int .i64 i, .pointer (some ⟨C, i, none⟩), .func (.func (condF i)) #[] #[], .func (.func 121) #[] #[.pointer (some ⟨M, 0, none⟩), .pointer (some ⟨M + 1, 0, none⟩)], .int .i64 x.1, u15, u16, u17, u18, u19, u20, u21, u22, u23, u24, u25, u26, u27, u28, u29, u30], defers := [] })
   ?hAx ?assign ?body ?done ?stop)
  case hAx => exact fun x a' _ _ _ _ hs _ _ => hs
  case assign =>
   rintro lr pre x W K hI hK
   gi_wp2
   exact hK _ _ (KeepsFrom.refl _ _) (KpOn.refl _ _) hI rfl
  case body =>
   rintro lr pre x a' W hlr ⟨rec, hrec⟩ ⟨⟨⟨⟨vL, bL, rL, _⟩, ⟨b1, b2⟩⟩, hMk⟩, hB⟩ rfl hlt
   have hcL := bL.cell
   obtain ⟨i0, hi, hz0, hz1, hz2⟩ := info_parts info3
   gi_wp2_with (gi_at_builtin; refine wpListIn_append_own _ rfl _ _ 66 rfl w.heap.size 3 i0 (.int .i64 0) 1 8 Try.underlying66 hi hz0 hz1 hz2 rfl (by decide) _ _ _ rfl (rL.alloc _) ⟨W.heap.size, 0, none⟩ 1 1 [.int .i64 x.1] rfl rfl (cells_new _ _ _) (by simp [Value.oneCell']) (by unfold maxLen; omega) (by omega) (by have := hB.size; simp; omega) ?_; intro v' w2 hown' hgrow _; obtain ⟨g', cap', rfl⟩ := ownsRow_succ hown'; obtain ⟨hv1, hv2, hr2, hk2, hb2⟩ := bL.appended (by decide) rL hB.size (by omega) hown' hgrow; have hc1 := hv1.cell; have hf1 := hv1.frozen)
   refine ⟨hk2.from _, ?_, ⟨⟨⟨⟨_, hv2, ?_, fun e => by simp at e⟩, ⟨?_, ?_⟩⟩, hMk.others hk2⟩, hB.trans hb2⟩⟩
   ·refine ((KpOn.of_grownBy (World.grownBy_alloc W _ none) (fun r e => by cases e)).trans (KpOn.of_grownBy hgrow ?_)).trans (KpOn.of_grownBy (grownBy_setCell' w2 N _) ?_)
    ·intro b hb hp
     rcases hp with hp | rfl | rfl
     ·have := (rL.lt b hb).1; omega
     ·exact b1.not_row (by decide) rL hb.symm
     ·exact b2.not_row (by decide) rL hb.symm
    ·intro b hb hp
     cases hb
     rcases hp with hp | hp | hp <;> omega
   ·rw [List.length_append]
    simpa [hitNums, nums] using hr2
   ·exact ((b1.alloc _).kept hgrow (b1.not_row (by decide) rL)).other (by omega) _
   ·exact ((b2.alloc _).kept hgrow (b2.not_row (by decide) rL)).other (by omega) _
  case done =>
   rintro D ys W hD rfl ⟨⟨⟨⟨vL, bL, rL, hnil⟩, _⟩, hMk⟩, hB⟩ hKD
   have hMs : Marks w.heap.size ({ target := .collected D, args := #[] } :: ds) (D + 1) W := ⟨D, rfl, by omega, by omega, hKD, hMk.mono (by omega)⟩
   have hcL := bL.cell
   have hlen : (hits i l).length ≤ l.length := hitsTo_length (condP i) l l.length
   change (hits i l = [] → vL = .slice none 0 0) at hnil
   change W.ownsRow w.heap.size 3 1 vL (hits i l).length (nums .i64 (hitNums (hits i l))) at rL
   have hR : ∀ (v : Value) (k : Nat), freeOut l = hitNums (hits i l) → ∀ W', W'.ownsRow w.heap.size 3 1 v k (nums .i64 (hitNums (hits i l))) → Below w.heap.size w W' → ∃ v', Ending.returned v = .returned v' ∧ Kd.R (Kd.int .i64) 3 W' w.heap.size (fun _ => True) v' (freeOut l) ∧ Below w.heap.size w W' := by
    intro v k e W' ho hb
    refine ⟨v, rfl, ?_, hb⟩
    have hk : k = (hitNums (hits i l)).length := by have := ho.1; simpa [nums] using this.symm
    rw [e]
    refine Kd.R_of_own (h1 := fun _ => rfl) (enc := Value.int .i64) ?_ (fun _ _ => trivial)
    rw [← hk]
    exact ho
   have HR := Lib.hid hR
   have HM := Lib.hid hMs
   have HB := Lib.hid hB
   have HO := Lib.hid rL
   clear hR hMs hB hMk
   by_cases hh : hits i l = []
   ·obtain rfl := hnil hh
    by_cases h3 : i + 1 < 3
    ·have h3z : (i : Int) + 1 < 3 := by omega
     go_wp2
     go_step3
     refine ⟨rfl, ⟨i + 1, _, _, _, _, _, _, _, _, _, _, _, _, _, _, _, _, _, _, _, _, _, _, _, _, _, _, _, rfl, h3, HM.out.mono (by have := (Array.getElem?_eq_some_iff.1 hKD).1; omega), bL, HB.out, fun j hj => ?_⟩, ?_⟩
     ·by_cases hji : j < i
      ·exact HZ.out j hji
      ·obtain rfl : j = i := by omega
       exact hh
     ·simp [intOf]
      omega
    ·obtain rfl : i = 2 := by omega
     have he := freeOut_at l 2 (by omega) HZ.out (.inr rfl)
     go_wp2
     simp only [Exit.jump]
     exact leaves_marks (t := 3) (fun W => results_tmp (fn := Try.f70) rfl _ _ _) (HR.out _ _ he) _ _ W HM.out HO.out HB.out
   ·obtain ⟨g, cap, rfl, hgb, hgl⟩ := rL.form (List.length_pos_iff.2 hh)
    have hne : (((hits i l).length : Int) == 0) = false := beq_eq_false_iff_ne.mpr (by have := List.length_pos_iff.2 hh; omega)
    have he := freeOut_at l i hi HZ.out (.inl hh)
    clear rL
    go_wp2
    simp only [Exit.jump]
    exact leaves_marks (t := 3) (fun W => results_tmp (fn := Try.f70) rfl _ _ _) (HR.out _ _ he) _ _ W HM.out HO.out HB.out
  case stop =>
   rintro D c pre W _ _ h _
   exact h.elim
def widths_free.f (l0 : List S35) : Option (List Int) := if l0.length ≤ 10000 then some (freeOut l0) else none
set_option maxRecDepth 100000 in
set_option maxHeartbeats 2000000 in
theorem widths_free.calls (A0 : Option Addr) (c0 : Nat) (l0 : List S35) (r : List Int) (w : World) (hr0 : Kd.C k35 w A0 l0.length l0) (hc0 : l0.length ≤ c0) (h : widths_free.f l0 = some r) :
  Calls Try.prog 38 #[.slice A0 l0.length c0] w fun e w' => ∃ v0_ : Value, e = .returned (v0_) ∧ Kd.R (Kd.int .i64) 3 w' w.heap.size (fun _ => True) v0_ r ∧ Below w.heap.size w w' := by
 unfold widths_free.f at h
 by_cases hle : l0.length ≤ 10000
 case neg => rw [if_neg hle] at h; cases h
 rw [if_pos hle] at h
 obtain rfl := Option.some.inj h
 clear h
 have hx : ∀ j, j < 3 → (w.alloc (.cells #[.func (.func 67) #[] #[], .func (.func 68) #[] #[], .func (.func 69) #[] #[]] 75)).cell? ⟨w.heap.size, j, none⟩ = some (.func (.func (condF j)) #[] #[]) := by
  intro j hj
  match j, hj with
  | 0, _ => exact (blk_cell (heap_alloc_new w _) 0).trans rfl
  | 1, _ => exact (blk_cell (heap_alloc_new w _) 1).trans rfl
  | 2, _ => exact (blk_cell (heap_alloc_new w _) 2).trans rfl
 have hcall := first_calls A0 c0 l0 w.heap.size _ hle (Kd.C_alloc hr0 _) hx
 have hB : Below w.heap.size w (w.alloc (.cells #[.func (.func 67) #[] #[], .func (.func 68) #[] #[], .func (.func 69) #[] #[]] 75)) := (Below.refl _ w).alloc (Nat.le_refl _) _
 have HB := Aside0.mk hB
 clear hx hB hr0
 go_enter Try.func38, Try.ntmps38
 go_wp2_with (go_at_call 70; refine hcall.mono ?_; rintro e w' ⟨v, rfl, hv, hb⟩; have HV := Lib.hid hv; have HBb := Aside0.mk hb; clear hv hb)
 go_ret
 exact ⟨_, rfl, Kd.R_lower HV.out (by simp), below_then HB.out HB.out.size HBb.out⟩
end

end Go.Proofs.Ytilfgmclhoidiaa.PA
