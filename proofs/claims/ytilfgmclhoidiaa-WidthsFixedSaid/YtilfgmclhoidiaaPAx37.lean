-- MADE by wip/tools/xprint.py of this repo: the kit's print.py, turned by this session, and texts by hand
import Derived.Test.YtilfgmclhoidiaaPAx0
import Derived.Test.YtilfgmclhoidiaaPAx2
import Derived.Test.YtilfgmclhoidiaaPAx4
import Derived.Test.YtilfgmclhoidiaaPAx6
import Derived.Test.YtilfgmclhoidiaaPAx11
import Derived.Test.YtilfgmclhoidiaaPAx17
import Derived.Test.YtilfgmclhoidiaaPAx35
import Derived.Test.YtilfgmclhoidiaaPAx36
namespace Go.Proofs.Ytilfgmclhoidiaa.PA
open Go.RowKit Go.Proofs.YtilfgmclhoidiaaW.PrintWords Go.Proofs.YtilfgmclhoidiaaW.PrintLast Go.Proofs.YtilfgmclhoidiaaW.PrintMore
attribute [local go_sem] max2_int min2_int max_two min_two max_three min_three max_four min_four   -- for this text's walks alone
set_option linter.unusedVariables false
set_option linter.unusedSimpArgs false

-- BY HAND: first.tpl
-- MAKING widths_First
section
open Go.RowKit Go.Shelf Go.Proofs.YtilfgmclhoidiaaW.PrintWords Go.Proofs.YtilfgmclhoidiaaW.PrintLast Go.Proofs.YtilfgmclhoidiaaW.PrintMore
attribute [local go_sem high] eqA39
/-- A cell's columns' part of a length. -/
def partN (gap cols n : Int) : Int := mx (n - gap * (cols - 1)) 0
theorem part_val (gap cols n : Int) (hn : 0 ≤ n ∧ n ≤ 1073741824) (hg : 0 ≤ gap ∧ gap ≤ 1073741824) (hc : 1 ≤ cols ∧ cols ≤ 10000) : spread_Part.f 1 n gap cols = some (partN gap cols n) := by
 have hw : wrap64 (cols - 1) = cols - 1 := by unfold wrap64; omega
 have hb : ∀ a : Int, 0 ≤ a → a ≤ 1073741824 → fixed_bare.f a = some a := by
  intro a h0 h1
  unfold fixed_bare.f fixed_signed.f
  rw [if_neg (by omega), Option.bind_some, w64_id (n := a) h0 (by omega)]
  have e : mx a 0 = a := by unfold mx; split <;> omega
  rw [e, Int.mul_one, w64_id (n := a) h0 (by omega)]
 have h0 : 0 ≤ gap * (cols - 1) := Int.mul_nonneg hg.1 (by omega)
 have h1 : gap * (cols - 1) ≤ 1073741824 * 10000 := Int.mul_le_mul hg.2 (by omega) (by omega) (by omega)
 have hm : bits_Mul64.f gap (cols - 1) = some (0, gap * (cols - 1)) := by
  unfold bits_Mul64.f
  rw [if_pos ⟨⟨by omega, by omega⟩, ⟨by omega, by omega⟩⟩]
  congr 2 <;> omega
 unfold spread_Part.f partN
 rw [if_neg (by omega), hw]
 unfold fixed_Mul.f
 rw [hb gap hg.1 hg.2, Option.bind_some, hb (cols - 1) (by omega) (by omega), Option.bind_some, hm, Option.bind_some]
 generalize gap * (cols - 1) = p at h0 h1 ⊢
 have e1 : (decide (gap < 0) != decide (cols - 1 < 0)) = false := by
  rw [decide_eq_false (by omega), decide_eq_false (by omega)]
  rfl
 have e2 : wrap64 p = p := by unfold wrap64; omega
 have e3 : wrap64 (n - p) = n - p := by unfold wrap64; omega
 have e4 : (decide (n - p < n) != decide (p > 0)) = false := by
  rw [show decide (n - p < n) = decide (p > 0) from by rw [decide_eq_decide]; omega]
  simp
 rw [if_pos rfl, if_pos (by show p ≤ _; omega), e1, fixed_Mul.j0, if_neg (by simp), if_pos rfl, if_pos (by omega), e2, Option.bind_some]
 unfold fixed_Sub.f
 rw [e3, e4, if_neg (by simp), Option.bind_some]
def autoS (s : S39) : Bool := s.f0 == 0 && (s.f1 == 0)
def fillAt (kind x : Int) (c : Nat) (out : List S39) : List S39 := if autoS (out[c]?.getD z39) = true then out.set c ⟨kind, x⟩ else out
def fillAll (kind : Int) : List Int → Nat → List S39 → List S39
 | [], _, out => out
 | x :: ps, c, out => fillAll kind ps (c + 1) (fillAt kind x c out)
def lenOfN (gap : Int) (n : S63) : Int := if n.f3.f0 = 1 then partN gap n.f0.f4 n.f3.f1 else n.f3.f1
def firstStep (gap : Int) (out : List S39) (n : S63) : List S39 := if n.f0.f1 ≠ 0 then out else if autoS n.f3 = true then out else fillAll n.f3.f0 (evenOut (lenOfN gap n) n.f0.f4.toNat) n.f0.f2.toNat out
def firstSizes (l0 : List S39) (l1 : List S63) (gap : Int) : List S39 := l1.foldl (firstStep gap) l0
theorem firstSizes_take (l0 : List S39) (l1 : List S63) (gap : Int) (k : Nat) (h : k < l1.length) : firstSizes l0 (l1.take (k + 1)) gap = firstStep gap (firstSizes l0 (l1.take k) gap) l1[k] := by
 unfold firstSizes
 rw [List.take_succ_eq_append_getElem h, List.foldl_append]
 rfl
theorem fillAll_length (kind : Int) : ∀ (ps : List Int) (c : Nat) (out : List S39), (fillAll kind ps c out).length = out.length
 | [], _, _ => rfl
 | x :: ps, c, out => by
  show (fillAll kind ps (c + 1) (fillAt kind x c out)).length = _
  rw [fillAll_length kind ps]
  unfold fillAt
  split <;> simp
theorem firstStep_length (gap : Int) (out : List S39) (n : S63) : (firstStep gap out n).length = out.length := by
 unfold firstStep
 split
 ·rfl
 ·split
  ·rfl
  ·exact fillAll_length _ _ _ _
theorem firstSizes_length (gap : Int) : ∀ (l1 : List S63) (l0 : List S39), (firstSizes l0 l1 gap).length = l0.length
 | [], _ => rfl
 | n :: l1, l0 => by
  show (firstSizes (firstStep gap l0 n) l1 gap).length = _
  rw [firstSizes_length gap l1, firstStep_length]
theorem fillAll_snoc (kind : Int) : ∀ (ps : List Int) (x : Int) (c : Nat) (out : List S39), fillAll kind (ps ++ [x]) c out = fillAt kind x (c + ps.length) (fillAll kind ps c out)
 | [], _, _, _ => rfl
 | p :: ps, x, c, out => by
  show fillAll kind (ps ++ [x]) (c + 1) (fillAt kind p c out) = fillAt kind x (c + (ps.length + 1)) (fillAll kind ps (c + 1) (fillAt kind p c out))
  rw [fillAll_snoc kind ps x (c + 1) (fillAt kind p c out)]
  congr 1
  omega
theorem fillAll_take (kind : Int) (ps : List Int) (c : Nat) (out : List S39) (k : Nat) (h : k < ps.length) : fillAll kind (ps.take (k + 1)) c out = fillAt kind ps[k] (c + k) (fillAll kind (ps.take k) c out) := by
 rw [List.take_succ_eq_append_getElem h, fillAll_snoc, List.length_take, Nat.min_eq_left (by omega)]
theorem evenOut_len (total : Int) (n : Nat) : (evenOut total n).length = n := by
 unfold evenOut mainOut
 rw [giveL_length]
 exact outL_length _ _ _
/-- What the rounds keep. -/
structure FirstI (w : World) (Q : Nat) (v : Value) (out : List S39) (wr : World) : Prop where
 own : Kd.R k39 39 wr w.heap.size (fun b => b ≠ Q) v out
 auto : wr.heap[Q]? = some (.cells #[.int .i64 0, .int .i64 0] 39 (0, 0))
 below : Below w.heap.size w wr
/-- .. and what a round has laid: the place, the wanted size. -/
structure FirstR (w : World) (Q P T : Nat) (v : Value) (out : List S39) (p0 p1 p2 p3 p4 kd nn : Int) (wr : World) : Prop where
 own : Kd.R k39 39 wr w.heap.size (fun b => b ≠ Q ∧ b ≠ P ∧ b ≠ T) v out
 auto : wr.heap[Q]? = some (.cells #[.int .i64 0, .int .i64 0] 39 (0, 0))
 place : wr.heap[P]? = some (.cells #[.int .i64 p0, .int .i64 p1, .int .i64 p2, .int .i64 p3, .int .i64 p4] 61 (0, 0))
 want : wr.heap[T]? = some (.cells #[.int .i64 kd, .int .i64 nn] 39 (0, 0))
 below : Below w.heap.size w wr
 le : w.heap.size ≤ P ∧ w.heap.size ≤ T ∧ P ≠ T ∧ Q ≠ P ∧ Q ≠ T
theorem FirstI.lay1 {w : World} {Q : Nat} {v : Value} {out : List S39} {wr : World} (h : FirstI w Q v out wr) (o0 : Obj) (p0 p1 p2 p3 p4 kd nn : Int) :
  FirstR w Q (wr.heap.size + 1) (wr.heap.size + 1 + 1) v out p0 p1 p2 p3 p4 kd nn (((wr.alloc o0).alloc (.cells #[.int .i64 p0, .int .i64 p1, .int .i64 p2, .int .i64 p3, .int .i64 p4] 61)).alloc (.cells #[.int .i64 kd, .int .i64 nn] 39)).drew := by
 have hq := blk_lt h.auto
 have hs := h.below.size
 refine ⟨?_, ?_, ?_, ?_, ?_, by omega, by omega, by omega, by omega, by omega⟩
 ·refine Kd.R_drew (Kd.R_alloc (Kd.R_alloc (Kd.R_alloc (Kd.R_mono (Kd.R_bound h.own) ?_) _) _) _)
  intro k hk
  have := hk.2.2.1
  exact ⟨hk.1, by omega, by omega⟩
 ·exact blk_alloc (blk_alloc (blk_alloc h.auto _) _) _
 ·exact blk_alloc (by have := heap_alloc_new (wr.alloc o0) (.cells #[.int .i64 p0, .int .i64 p1, .int .i64 p2, .int .i64 p3, .int .i64 p4] 61); simpa using this) _
 ·have := heap_alloc_new ((wr.alloc o0).alloc (.cells #[.int .i64 p0, .int .i64 p1, .int .i64 p2, .int .i64 p3, .int .i64 p4] 61)) (.cells #[.int .i64 kd, .int .i64 nn] 39)
  rw [show ((wr.alloc o0).alloc (.cells #[.int .i64 p0, .int .i64 p1, .int .i64 p2, .int .i64 p3, .int .i64 p4] 61)).heap.size = wr.heap.size + 1 + 1 from by simp] at this
  exact this
 ·exact below_drew (((h.below.alloc hs _).alloc (by simp; omega) _).alloc (by simp; omega) _)
theorem FirstI.lay2 {w : World} {Q : Nat} {v : Value} {out : List S39} {wr : World} (h : FirstI w Q v out wr) (o0 : Obj) (p0 p1 p2 p3 p4 kd nn : Int) :
  FirstR w Q (wr.heap.size + 1 + 1) (wr.heap.size + 1) v out p0 p1 p2 p3 p4 kd nn (((wr.alloc o0).alloc (.cells #[.int .i64 kd, .int .i64 nn] 39)).alloc (.cells #[.int .i64 p0, .int .i64 p1, .int .i64 p2, .int .i64 p3, .int .i64 p4] 61)).drew := by
 have hq := blk_lt h.auto
 have hs := h.below.size
 refine ⟨?_, ?_, ?_, ?_, ?_, by omega, by omega, by omega, by omega, by omega⟩
 ·refine Kd.R_drew (Kd.R_alloc (Kd.R_alloc (Kd.R_alloc (Kd.R_mono (Kd.R_bound h.own) ?_) _) _) _)
  intro k hk
  have := hk.2.2.1
  exact ⟨hk.1, by omega, by omega⟩
 ·exact blk_alloc (blk_alloc (blk_alloc h.auto _) _) _
 ·have := heap_alloc_new ((wr.alloc o0).alloc (.cells #[.int .i64 kd, .int .i64 nn] 39)) (.cells #[.int .i64 p0, .int .i64 p1, .int .i64 p2, .int .i64 p3, .int .i64 p4] 61)
  rw [show ((wr.alloc o0).alloc (.cells #[.int .i64 kd, .int .i64 nn] 39)).heap.size = wr.heap.size + 1 + 1 from by simp] at this
  exact this
 ·exact blk_alloc (by have := heap_alloc_new (wr.alloc o0) (.cells #[.int .i64 kd, .int .i64 nn] 39); simpa using this) _
 ·exact below_drew (((h.below.alloc hs _).alloc (by simp; omega) _).alloc (by simp; omega) _)
theorem FirstR.back {w : World} {Q P T : Nat} {v : Value} {out : List S39} {p0 p1 p2 p3 p4 kd nn : Int} {wr : World} (h : FirstR w Q P T v out p0 p1 p2 p3 p4 kd nn wr) : FirstI w Q v out wr := ⟨Kd.R_mono h.own (fun _ hk => hk.1), h.auto, h.below⟩
theorem FirstR.drew {w : World} {Q P T : Nat} {v : Value} {out : List S39} {p0 p1 p2 p3 p4 kd nn : Int} {wr : World} (h : FirstR w Q P T v out p0 p1 p2 p3 p4 kd nn wr) : FirstR w Q P T v out p0 p1 p2 p3 p4 kd nn wr.drew := ⟨Kd.R_drew h.own, h.auto, h.place, h.want, below_drew h.below, h.le⟩
/-- A call that leaves what there was. -/
theorem FirstR.step {w : World} {Q P T : Nat} {v : Value} {out : List S39} {p0 p1 p2 p3 p4 kd nn : Int} {wr w1 : World} (h : FirstR w Q P T v out p0 p1 p2 p3 p4 kd nn wr) (hb : Below wr.heap.size wr w1) : FirstR w Q P T v out p0 p1 p2 p3 p4 kd nn w1 :=
 ⟨Kd.R_below h.own hb, (hb.block _ (blk_lt h.auto)).trans h.auto, (hb.block _ (blk_lt h.place)).trans h.place, (hb.block _ (blk_lt h.want)).trans h.want, below_step h.below hb, h.le⟩
/-- The wanted number, changed. -/
theorem FirstR.setN {w : World} {Q P T : Nat} {v : Value} {out : List S39} {p0 p1 p2 p3 p4 kd nn : Int} {wr : World} (h : FirstR w Q P T v out p0 p1 p2 p3 p4 kd nn wr) (n' : Int) : FirstR w Q P T v out p0 p1 p2 p3 p4 kd n' (wr.setCell ⟨T, 1, none⟩ (.int .i64 n')) := by
 obtain ⟨l1, l2, l3, l4, l5⟩ := h.le
 exact ⟨Kd.R_far h.own (fun k hk => hk.2.2) _, blk_far h.auto l5 _, blk_far h.place l3 _, blk_put h.want 1 _ rfl, h.below.setCell (p := ⟨T, 1, none⟩) l2 _, h.le⟩
/-- An element of the row, changed. -/
theorem FirstR.put {w : World} {Q P T g : Nat} {cap n : Nat} {out out' : List S39} {p0 p1 p2 p3 p4 kd nn : Int} {wr w1 : World} (h : FirstR w Q P T (.slice (some ⟨g, 0, none⟩) n cap) out p0 p1 p2 p3 p4 kd nn wr)
  (ho : Kd.R k39 39 w1 w.heap.size (fun b => b ≠ Q ∧ b ≠ P ∧ b ≠ T) (.slice (some ⟨g, 0, none⟩) n cap) out') (hb : Below w.heap.size w w1) (hg : wr.grownBy w1 (some g)) : FirstR w Q P T (.slice (some ⟨g, 0, none⟩) n cap) out' p0 p1 p2 p3 p4 kd nn w1 := by
 obtain ⟨h1, h2, h3⟩ := h.own.1 g rfl
 exact ⟨ho, (hg.block Q (blk_lt h.auto) (fun e => h1 (by cases e; rfl))).trans h.auto, (hg.block P (blk_lt h.place) (fun e => h2 (by cases e; rfl))).trans h.place, (hg.block T (blk_lt h.want) (fun e => h3 (by cases e; rfl))).trans h.want, hb, h.le⟩
theorem FirstR.write {w : World} {Q P T g : Nat} {cap n : Nat} {out : List S39} {p0 p1 p2 p3 p4 kd nn : Int} {wr : World} (h : FirstR w Q P T (.slice (some ⟨g, 0, none⟩) n cap) out p0 p1 p2 p3 p4 kd nn wr) (i : Nat) (hi : i < n) (a0 a1 : Int)
  (e0 : wr.cell? ⟨g, i * 2, none⟩ = some (.int .i64 a0)) (e1 : wr.cell? ⟨g, i * 2 + 1, none⟩ = some (.int .i64 a1)) (x0 x1 : Int) :
  FirstR w Q P T (.slice (some ⟨g, 0, none⟩) n cap) (out.set i ⟨x0, x1⟩) p0 p1 p2 p3 p4 kd nn ((wr.setCell ⟨g, i * 2, none⟩ (.int .i64 x0)).setCell ⟨g, i * 2 + 1, none⟩ (.int .i64 x1)) ∧
   wr.grownBy ((wr.setCell ⟨g, i * 2, none⟩ (.int .i64 x0)).setCell ⟨g, i * 2 + 1, none⟩ (.int .i64 x1)) (some g) := by
 obtain ⟨h1, h2⟩ := Kd.R_seg h.own (i : Int) (by omega) (by omega) (c := [.int .i64 a0, .int .i64 a1]) (seg := [.int .i64 x0, .int .i64 x1]) (j := 0) rfl
  (by
   intro j u hj
   rw [Int.toNat_natCast]
   match j, hj with
   | 0, hj => injection hj with hj; subst hj; exact e0
   | 1, hj => injection hj with hj; subst hj; exact e1) (Nat.le_refl 2) (x' := ⟨x0, x1⟩) (okp := fun _ => False) (k39_mkM _ _ _ ⟨x0, x1⟩) (fun _ hk => hk.elim)
 rw [Int.toNat_natCast] at h1 h2
 exact ⟨h.put h1 (h.below.grown h2 h.below.size (fun k hk => Kd.R_base h.own k hk)) h2, h2⟩
set_option maxRecDepth 1000000 in
set_option maxHeartbeats 8000000 in
theorem first_sizes (A0 : Option Addr) (c0 : Nat) (l0 : List S39) (A1 : Option Addr) (c1 : Nat) (l1 : List S63) (gap : Int) (w : World) (hr0 : Kd.C k39 w A0 l0.length l0) (hc0 : l0.length ≤ c0) (hr1 : Kd.C k63 w A1 l1.length l1) (hc1 : l1.length ≤ c1)
  (hok : columns_Right.f l0 l1 = some true) (hg : 0 ≤ gap ∧ gap ≤ 1073741824) (hle : l0.length ≤ 10000) :
  Calls Try.prog 27 #[.slice A0 l0.length c0, .slice A1 l1.length c1, .int .i64 gap] w fun e w' => ∃ v0_ : Value, e = .returned (.tuple #[v0_, .int .i64 0]) ∧ Kd.R k39 39 w' w.heap.size (fun _ => True) v0_ (firstSizes l0 l1 gap) ∧ Below w.heap.size w w' := by
 have hmax : l1.length ≤ 9223372036854775807 := Kd.C_max hr1
 have Hr0 := Lib.hid hr0
 have Hr1 := Lib.hid hr1
 have Hok := Lib.hid hok
 clear hr0 hr1 hok
 have g1 : decide (gap < 0) = false := decide_eq_false (by omega)
 have g2 : decide (gap > 1073741824) = false := decide_eq_false (by omega)
 go_enter Try.func27, Try.ntmps27
 go_wp2_with (first | (go_at_call 50; refine (columns_Right.calls _ _ l0 _ _ l1 true _ Hr0.out hc0 Hr1.out hc1 Hok.out).mono ?_; rintro e w1 ⟨rfl, hb1⟩; have HB1 := Aside0.mk hb1; clear hb1) | (go_at_call 56; refine (cloned_Size _ _ l0 _ (Kd.C_below Hr0.out HB1.out) hc0 hle).mono ?_; rintro e w2 ⟨v, rfl, hv, hb2⟩; have HV := Lib.hid hv; have HB2 := Aside0.mk hb2; clear hv hb2))
 obtain ⟨Q, hQ⟩ : ∃ Q, w2.heap.size = Q := ⟨_, rfl⟩
 have hI0 : FirstI w Q v l0 (w2.alloc (.cells #[.int .i64 0, .int .i64 0] 39)) := by
  have hb := below_step HB1.out HB2.out
  refine ⟨?_, hQ ▸ heap_alloc_new w2 _, hb.alloc hb.size _⟩
  refine Kd.R_alloc ?_ _
  exact Kd.R_mono (Kd.R_bound (Kd.R_lower HV.out HB1.out.size)) (fun k hk => by have := hk.2.2.1; omega)
 rw [hQ]
 have HI0 := Lib.hid hI0
 have hQw : w.heap.size ≤ Q := by have := (below_step HB1.out HB2.out).size; omega
 clear hI0
 go_loopw [36] (fun i wr => ∃ k : Nat, k ≤ l1.length ∧ i = .int .i64 k ∧ Hid (FirstI w Q v (firstSizes l0 (l1.take k) gap) wr)) (fun i _ => l1.length - (intOf i).toNat)
 case atStart => exact ⟨0, Nat.zero_le _, rfl, HI0⟩
 case round =>
  clear HI0 HV HB1 HB2
  obtain ⟨k, hk, rfl, HI⟩ := hrel
  by_cases hlt : k < l1.length
  ·have hltz : (k : Int) < (l1.length : Int) := by omega
   have hst := Lib.hid (firstSizes_take l0 l1 gap k hlt)
   have hnl1 := Nat.le_of_eq (firstSizes_length gap (l1.take k) l0)
   have hnl2 := Nat.le_of_eq (firstSizes_length gap (l1.take k) l0).symm
   have hneed : badNeed (l0.length : Int) l1[k] = false := by
    have h1 := Hok.out
    unfold columns_Right.f at h1
    simp only [Option.some.injEq, Bool.and_eq_true, Bool.not_eq_true'] at h1
    have h2 := List.any_eq_false.1 h1.2 _ (List.getElem_mem hlt)
    simpa using h2
   obtain ⟨ad, rfl, hx0, hx1, hx2, hx3, hx4, hx5, hx6, hx7, hx8⟩ := at_T63 Hr1.out (k : Int) (by omega) hltz
   rw [rd_need_nat l1 k hlt, Int.toNat_natCast] at hx0 hx1 hx2 hx3 hx4 hx5 hx6 hx7 hx8
   have hB := HI.out.below
   replace hx0 := (hB.cell (World.block_lt_of_cell? w _ hx0)).trans hx0
   replace hx1 := (hB.cell (World.block_lt_of_cell? w _ hx1)).trans hx1
   replace hx2 := (hB.cell (World.block_lt_of_cell? w _ hx2)).trans hx2
   replace hx3 := (hB.cell (World.block_lt_of_cell? w _ hx3)).trans hx3
   replace hx4 := (hB.cell (World.block_lt_of_cell? w _ hx4)).trans hx4
   replace hx5 := (hB.cell (World.block_lt_of_cell? w _ hx5)).trans hx5
   replace hx6 := (hB.cell (World.block_lt_of_cell? w _ hx6)).trans hx6
   replace hx7 := (hB.cell (World.block_lt_of_cell? w _ hx7)).trans hx7
   replace hx8 := (hB.cell (World.block_lt_of_cell? w _ hx8)).trans hx8
   clear hB
   generalize firstSizes l0 (l1.take k) gap = out at HI hst hnl1 hnl2 ⊢
   generalize l1[k] = x at *
   obtain ⟨⟨p0, p1, p2, p3, p4⟩, f5, f6, ⟨kd, n0⟩⟩ := x
   simp only at hx0 hx1 hx2 hx3 hx4 hx5 hx6 hx7 hx8
   simp only [badNeed, badNeed9, needAt, Bool.or_eq_false_iff, Bool.not_eq_false', Bool.and_eq_true, decide_eq_true_eq] at hneed
   obtain ⟨⟨⟨⟨⟨⟨hp2, hp2l⟩, hp4⟩, hp4l⟩, hgs⟩, _⟩, _⟩ := hneed
   obtain ⟨col, rfl⟩ := Int.eq_ofNat_of_zero_le hp2
   obtain ⟨cols, rfl⟩ := Int.eq_ofNat_of_zero_le (show 0 ≤ p4 by omega)
   obtain ⟨g, cap, rfl, _, hgl, _⟩ := Kd.R_form HI.out.own (by omega)
   have hn0 : 0 ≤ n0 ∧ n0 ≤ 1073741824 := by
    unfold goodSize outside at hgs
    by_cases k0 : kd = 0
    ·simp [k0] at hgs
     omega
    ·by_cases k1 : kd = 1
     ·simp [k1] at hgs
      omega
     ·by_cases k2 : kd = 2
      ·simp [k2] at hgs
       omega
      ·simp [k0, k1, k2] at hgs
   have hN : 0 ≤ partN gap cols n0 ∧ partN gap cols n0 ≤ 1073741824 := by
    have h0 : 0 ≤ gap * ((cols : Int) - 1) := Int.mul_nonneg hg.1 (by omega)
    unfold partN mx
    split <;> omega
   go_upto_region 8 with (fail)
   go_cut [12, 13] from 37 to 95 (fun v12 v13 wx => ∃ P T : Nat, v12 = .pointer (some ⟨P, 0, none⟩) ∧ v13 = .pointer (some ⟨T, 0, none⟩) ∧ Hid (FirstR w Q P T (.slice (some ⟨g, 0, none⟩) out.length cap) out p0 p1 col p3 cols kd n0 wx))
   case first =>
    go_region
    ·go_wp2
     go_meet
     case rel => exact ⟨_, _, rfl, rfl, Lib.hid (HI.out.lay1 _ _ _ _ _ _ _ _)⟩
    ·go_wp2
     go_meet
     case rel => exact ⟨_, _, rfl, rfl, Lib.hid (HI.out.lay2 _ _ _ _ _ _ _ _)⟩
   case rest =>
    obtain ⟨P, T, rfl, rfl, HR⟩ := hcut
    clear hx0 hx1 hx2 hx3 hx4 hx5 hx6 hx7 hx8 HI
    have cP1 := (blk_cell HR.out.place 1).trans rfl
    have cP2 := (blk_cell HR.out.place 2).trans rfl
    have cP4 := (blk_cell HR.out.place 4).trans rfl
    have cT0 := (blk_cell HR.out.want 0).trans rfl
    have cT1 := (blk_cell HR.out.want 1).trans rfl
    have cQ0 := (blk_cell HR.out.auto 0).trans rfl
    have cQ1 := (blk_cell HR.out.auto 1).trans rfl
    have fT := blk_frozen HR.out.want 1
    by_cases c1 : p1 = 0
    case neg =>
     have b1 : (p1 != 0) = true := by simpa using c1
     go_wp2
     go_roundw
     case rel => exact ⟨k + 1, by omega, by go_num, Lib.hid (by rw [hst.out]; unfold firstStep; rw [if_pos c1]; exact HR.out.back)⟩
     case measure => simp [intOf]; omega
    have b1 : (p1 != 0) = false := by simpa using c1
    cases ha : (kd == 0 && (n0 == 0)) with
    | true =>
     go_wp2
     refine ⟨⟨k + 1, by omega, by go_num, Lib.hid (by rw [hst.out]; unfold firstStep; rw [if_neg (by simp [c1]), if_pos (by simpa [autoS] using ha)]; exact HR.out.back)⟩, ?_⟩
     simp [intOf]; omega
    | false =>
     replace hst := Lib.hid (hst.out.trans (by unfold firstStep; rw [if_neg (by simp [c1]), if_neg (by simpa [autoS] using ha)]))
     have hlen : lenOfN gap ⟨⟨p0, p1, (col : Int), p3, (cols : Int)⟩, f5, f6, ⟨kd, n0⟩⟩ = (if kd = 1 then partN gap cols n0 else n0) := rfl
     rw [hlen] at hst
     clear hlen
     simp only [Int.toNat_natCast] at hst
     have hpart := Lib.hid (part_val gap cols n0 hn0 hg (by omega))
     have hNN : 0 ≤ (if kd = 1 then partN gap cols n0 else n0) ∧ (if kd = 1 then partN gap cols n0 else n0) ≤ 1073741824 := by split <;> assumption
     obtain ⟨N, hNd⟩ : ∃ N, (if kd = 1 then partN gap cols n0 else n0) = N := ⟨_, rfl⟩
     rw [hNd] at hst hNN
     have HNd := Lib.hid hNd
     clear hNd hN
     go_upto_if 54 with (fail)
     go_cut [13] from 52 to 95 (fun v13 wx => v13 = .pointer (some ⟨T, 0, none⟩) ∧ Hid (FirstR w Q P T (.slice (some ⟨g, 0, none⟩) out.length cap) out p0 p1 col p3 cols kd N wx))
     case first =>
      by_cases k1 : kd = 1
      ·have kb : (kd == 1) = true := by simpa using k1
       rw [if_pos k1] at HNd
       have hN' := HNd.out
       clear k1
       go_wp2_with (go_at_call 57; refine (spread_Part.calls 1 n0 gap cols (partN gap cols n0) _ hpart.out).mono ?_; rintro e w3 ⟨rfl, hb3⟩; have HB3 := Lib.hid hb3; clear hb3; have cT3 := blk_frozen (HR.out.step HB3.out).want 1; have cT4 := (blk_cell (HR.out.step HB3.out).want 1).trans rfl)
       go_meet
       case rel => exact ⟨rfl, Lib.hid ((HR.out.step HB3.out).setN N)⟩
      ·have kb : (kd == 1) = false := by simpa using k1
       rw [if_neg k1] at HNd
       obtain rfl := HNd.out
       clear k1
       go_wp2
       go_meet
       case rel => exact ⟨rfl, HR⟩
     case rest =>
      obtain ⟨rfl, HR2⟩ := hcut
      clear HR cP1 cP2 cP4 cT0 cT1 cQ0 cQ1 fT hpart HNd
      have cP2 := (blk_cell HR2.out.place 2).trans rfl
      have cP4 := (blk_cell HR2.out.place 4).trans rfl
      have cT1 := (blk_cell HR2.out.want 1).trans rfl
      have heven := Lib.hid (show fixed_Even.f N (cols : Int) = some (evenOut N cols, 0) by unfold fixed_Even.f; rw [if_pos (by unfold mayShare; omega), Int.toNat_natCast])
      go_wp2_with (go_at_call 52; refine (fixed_Even.calls N cols (evenOut N cols) 0 _ heven.out).mono ?_; rintro e w4 ⟨v14, rfl, hv14, hb4⟩; have HB4 := Lib.hid hb4; have HV14 := Lib.hid hv14; clear hb4 hv14; obtain ⟨A14, c14, rfl, hc14, _⟩ := Kd.R_reads HV14.out)
      have HR4 := Lib.hid (HR2.out.step HB4.out)
      have hel := evenOut_len N cols
      have hgw : g < wc.heap.size := Kd.R_lt HR2.out.own g rfl
      replace HV14 := Lib.hid (Kd.R_mono (ok' := fun b => b ≠ g ∧ b < w4.heap.size) (Kd.R_bound HV14.out) (fun b hb => ⟨by have := hb.2.1; omega, hb.2.2.1⟩))
      generalize evenOut N cols = ev at *
      clear HR2 HB4 heven cP2 cP4 cT1
      go_loopw [72] (fun i wl => ∃ c : Nat, c ≤ ev.length ∧ i = .int .i64 c ∧ Hid (FirstR w Q P T (.slice (some ⟨g, 0, none⟩) out.length cap) (fillAll kd (ev.take c) col out) p0 p1 col p3 cols kd N wl) ∧ Hid ((Kd.int .i64).R 2 wl wc.heap.size (fun b => b ≠ g ∧ b < wl.heap.size) (.slice A14 ev.length c14) ev)) (fun i _ => ev.length - (intOf i).toNat)
      case atStart => exact ⟨0, Nat.zero_le _, rfl, HR4, HV14⟩
      case round =>
       clear HR4 HV14
       obtain ⟨c, hc, rfl, HL, HE⟩ := hrel
       by_cases hcl : c < ev.length
       ·have hclz : (c : Int) < (ev.length : Int) := by omega
        have hnx := Lib.hid (fillAll_take kd ev col out c hcl)
        have hpl1 := Nat.le_of_eq (fillAll_length kd (ev.take c) col out)
        have hpl2 := Nat.le_of_eq (fillAll_length kd (ev.take c) col out).symm
        obtain ⟨a14, rfl, hxe⟩ := Kd.at_int (Kd.R_reads' HE.out).2.2 (c : Int) (by omega) hclz
        rw [show rd ev (c : Int) = ev[c] from by unfold rd; rw [Int.toNat_natCast]; simp [hcl], Int.toNat_natCast] at hxe
        generalize fillAll kd (ev.take c) col out = cur at HL hnx hpl1 hpl2 ⊢
        obtain ⟨ad8, he8, hs0, hs1⟩ := at_T39 (Kd.R_reads' HL.out.own).2.2 ((col + c : Nat) : Int) (by omega) (by omega)
        injection he8 with he8
        subst he8
        have cP2 := (blk_cell HL.out.place 2).trans rfl
        have cT0 := (blk_cell HL.out.want 0).trans rfl
        have cQ0 := (blk_cell HL.out.auto 0).trans rfl
        have cQ1 := (blk_cell HL.out.auto 1).trans rfl
        simp only [Int.toNat_natCast, add_plain] at hs0 hs1
        have hxn : rd_T39 cur ((col + c : Nat) : Int) = cur[col + c]?.getD z39 := by unfold rd_T39; rw [Int.toNat_natCast, List.getD_eq_getElem?_getD]
        rw [hxn] at hs0 hs1
        clear hxn
        have hput := Lib.hid (show fillAt kd ev[c] (col + c) cur = if autoS (cur[col + c]?.getD z39) = true then cur.set (col + c) ⟨kd, ev[c]⟩ else cur from rfl)
        generalize hold : cur[col + c]?.getD z39 = old at hs0 hs1 hput
        have hold := Lib.hid hold
        obtain ⟨a0, a1⟩ := old
        simp only at hs0 hs1
        obtain ⟨cg, hcg⟩ := Kd.R_typed HL.out.own g rfl
        have fr0 := blk_frozen hcg ((col + c) * 2)
        have fr1 := blk_frozen hcg ((col + c) * 2 + 1)
        clear hcg
        cases hau : (a0 == 0 && (a1 == 0)) with
        | true =>
         have hz : autoS ⟨a0, a1⟩ = true := hau
         rw [if_pos hz] at hput
         clear hz
         have HW := Lib.hid (HL.out.write (col + c) (by omega) a0 a1 hs0 hs1 kd ev[c])
         have hnx := Lib.hid (hnx.out.trans hput.out)
         clear hput hold
         go_upto_region 17 with (fail)
         go_region
         all_goals go_wp2
         refine ⟨⟨c + 1, by omega, by go_num, Lib.hid (by rw [hnx.out]; exact HW.out.1.drew), Lib.hid (Kd.R_drew (Kd.R_mono (Kd.R_step HE.out (fun k ho hk => HW.out.2.block k hk (fun he => ho.1 (by cases he; rfl)))) (fun k hk => ⟨hk.1, Nat.lt_of_lt_of_le hk.2 HW.out.2.size⟩)))⟩, ?_⟩
         simp [intOf]; omega
        | false =>
         have hz : ¬ autoS ⟨a0, a1⟩ = true := by unfold autoS; rw [hau]; simp
         rw [if_neg hz] at hput
         clear hz
         have hnx := Lib.hid (hnx.out.trans hput.out)
         clear hput hold
         go_upto_region 17 with (fail)
         go_region
         all_goals go_wp2
         refine ⟨⟨c + 1, by omega, by go_num, Lib.hid (by rw [hnx.out]; exact HL.out.drew), Lib.hid (Kd.R_drew HE.out)⟩, ?_⟩
         simp [intOf]; omega
       ·obtain rfl : c = ev.length := by omega
        have hdone := Lib.hid hst.out
        clear hst
        rw [List.take_length] at HL
        go_wp2
        go_roundw
        case rel => exact ⟨k + 1, by omega, by go_num, Lib.hid (by rw [hdone.out]; exact HL.out.back)⟩
        case measure => simp [intOf]; omega
  ·obtain rfl : k = l1.length := by omega
   rw [List.take_length] at HI
   go_wp2
   go_ret2
   exact ⟨_, rfl, Kd.R_mono HI.out.own (fun _ _ => trivial), HI.out.below⟩
def widths_First.f (l0 : List S39) (l1 : List S63) (a2 : Int) : Option (List S39 × Int) := (columns_Right.f l0 l1).bind fun t => some (if t = true ∧ 0 ≤ a2 ∧ a2 ≤ 1073741824 then (firstSizes l0 l1 a2, 0) else ([], 130))
set_option maxRecDepth 1000000 in
set_option maxHeartbeats 4000000 in
theorem widths_First.calls (A0 : Option Addr) (c0 : Nat) (l0 : List S39) (A1 : Option Addr) (c1 : Nat) (l1 : List S63) (a2 : Int) (r1 : List S39) (r2 : Int) (w : World) (hr0 : Kd.C k39 w A0 l0.length l0) (hc0 : l0.length ≤ c0) (hr1 : Kd.C k63 w A1 l1.length l1) (hc1 : l1.length ≤ c1) (h : widths_First.f l0 l1 a2 = some (r1, r2)) :
  Calls Try.prog 27 #[.slice A0 l0.length c0, .slice A1 l1.length c1, .int .i64 a2] w fun e w' => ∃ v0_ : Value, e = .returned (.tuple #[v0_, .int .i64 r2]) ∧ Kd.R k39 39 w' w.heap.size (fun _ => True) v0_ r1 ∧ Below w.heap.size w w' := by
 unfold widths_First.f at h
 obtain ⟨t, ht, h⟩ := Option.bind_eq_some_iff.1 h
 replace h := Option.some.inj h
 by_cases hgood : t = true ∧ 0 ≤ a2 ∧ a2 ≤ 1073741824
 ·rw [if_pos hgood] at h
  injection h with h1 h2
  subst h1 h2
  obtain ⟨rfl, hg⟩ := hgood
  refine first_sizes A0 c0 l0 A1 c1 l1 a2 w hr0 hc0 hr1 hc1 ht hg ?_
  unfold columns_Right.f at ht
  simp only [Option.some.injEq, Bool.and_eq_true, decide_eq_true_eq] at ht
  exact ht.1.1
 ·rw [if_neg hgood] at h
  injection h with h1 h2
  subst h1 h2
  have Hr0 := Lib.hid hr0
  have Hr1 := Lib.hid hr1
  have Ht := Lib.hid ht
  clear hr0 hr1 ht
  cases t with
  | false =>
   clear hgood
   go_enter Try.func27, Try.ntmps27
   go_wp2_with (go_at_call 50; refine (columns_Right.calls _ _ l0 _ _ l1 false _ Hr0.out hc0 Hr1.out hc1 Ht.out).mono ?_; rintro e w1 ⟨rfl, hb1⟩; have HB1 := Aside0.mk hb1; clear hb1)
   go_ret2
   exact ⟨_, rfl, Kd.R_nil _ _ _ _ _, HB1.out⟩
  | true =>
   cases hl : decide (a2 < 0) with
   | true =>
    clear hgood
    go_enter Try.func27, Try.ntmps27
    go_wp2_with (go_at_call 50; refine (columns_Right.calls _ _ l0 _ _ l1 true _ Hr0.out hc0 Hr1.out hc1 Ht.out).mono ?_; rintro e w1 ⟨rfl, hb1⟩; have HB1 := Aside0.mk hb1; clear hb1)
    go_ret2
    exact ⟨_, rfl, Kd.R_nil _ _ _ _ _, HB1.out⟩
   | false =>
    have hl2 : decide (a2 > 1073741824) = true := by
     have := of_decide_eq_false hl
     exact decide_eq_true (by
      have h2 : ¬ (0 ≤ a2 ∧ a2 ≤ 1073741824) := fun h => hgood ⟨rfl, h⟩
      omega)
    clear hgood
    go_enter Try.func27, Try.ntmps27
    go_wp2_with (go_at_call 50; refine (columns_Right.calls _ _ l0 _ _ l1 true _ Hr0.out hc0 Hr1.out hc1 Ht.out).mono ?_; rintro e w1 ⟨rfl, hb1⟩; have HB1 := Aside0.mk hb1; clear hb1)
    go_ret2
    exact ⟨_, rfl, Kd.R_nil _ _ _ _ _, HB1.out⟩
end

end Go.Proofs.Ytilfgmclhoidiaa.PA
