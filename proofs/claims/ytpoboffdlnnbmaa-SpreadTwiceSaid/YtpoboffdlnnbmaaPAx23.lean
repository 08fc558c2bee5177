-- MADE by wip/tools/xprint.py of this repo: the kit's print.py, turned by this session, and texts by hand
import Derived.Test.YtpoboffdlnnbmaaPAx0
import Derived.Test.YtpoboffdlnnbmaaPAx6
import Derived.Test.YtpoboffdlnnbmaaPAx9
import Derived.Test.YtpoboffdlnnbmaaPAx22
import Derived.Test.YtpoboffdlnnbmaaOverT
namespace Go.Proofs.Ytpoboffdlnnbmaa.PA
open Go.RowKit Go.Proofs.YtpoboffdlnnbmaaW.PrintWords Go.Proofs.YtpoboffdlnnbmaaW.PrintLast Go.Proofs.YtpoboffdlnnbmaaW.PrintMore
attribute [local go_sem] max2_int min2_int max_two min_two max_three min_three max_four min_four   -- for this text's walks alone
set_option linter.unusedVariables false
set_option linter.unusedSimpArgs false

-- BY HAND: spreads.tpl
section
open Go.RowKit Go.Shelf Go.Proofs.YtpoboffdlnnbmaaW.PrintWords Go.Proofs.YtpoboffdlnnbmaaW.PrintLast Go.Proofs.YtpoboffdlnnbmaaW.PrintMore
attribute [local go_sem] Oper.semAt_some
/-- A part of a row. -/
def partL (all : List S42) (from_ n : Nat) : List S42 := (all.drop from_).take n
theorem partL_length (all : List S42) (from_ n : Nat) (h : from_ + n ≤ all.length) : (partL all from_ n).length = n := by
 unfold partL
 rw [List.length_take, List.length_drop]
 omega
theorem partL_get (all : List S42) (from_ n i : Nat) (hi : i < n) : (partL all from_ n)[i]? = all[from_ + i]? := by
 unfold partL
 rw [List.getElem?_take_of_lt hi, List.getElem?_drop]
theorem updL_get (st : S42 → Int → S42) : ∀ (ns : List Int) (p : Nat) (all : List S42) (q : Nat), (q < p ∨ p + ns.length ≤ q) → (updL st ns p all)[q]? = all[q]?
 | [], _, _, _, _ => rfl
 | x :: ns, p, all, q, h => by
  show (updL st ns (p + 1) _)[q]? = _
  rw [updL_get st ns (p + 1) _ q (by simp at h; omega), List.getElem?_set_ne (by simp at h; omega)]
theorem updL_at (st : S42 → Int → S42) : ∀ (ns : List Int) (p : Nat) (all : List S42) (i : Nat) (hi : i < ns.length), p + i < all.length → (updL st ns p all)[p + i]? = some (st (all[p + i]?.getD z42) ns[i])
 | x :: ns, p, all, 0, _, h => by
  show (updL st ns (p + 1) _)[p]? = _
  rw [updL_get st ns (p + 1) _ p (.inl (by omega)), List.getElem?_set_self (by omega)]
  rfl
 | x :: ns, p, all, i + 1, hi, h => by
  show (updL st ns (p + 1) _)[p + (i + 1)]? = _
  have h1 := updL_at st ns (p + 1) (all.set p (st (all[p]?.getD z42) x)) i (by simpa using hi) (by rw [List.length_set]; omega)
  rw [show p + 1 + i = p + (i + 1) by omega, List.getElem?_set_ne (by omega)] at h1
  exact h1
/-- The Maxs that are no less than the Mins. -/
def maxsL (all : List S42) (from_ n : Nat) : List Int := (partL all from_ n).map (fun b => mx b.f1 b.f0)
theorem maxsL_at (a : List S42) (from_ n i : Nat) (hi : i < n) (hf : from_ + i < a.length) (hl : i < (maxsL a from_ n).length) : (maxsL a from_ n)[i] = mx (a[from_ + i]?.getD z42).f1 (a[from_ + i]?.getD z42).f0 := by
 have h : (maxsL a from_ n)[i]? = some (mx (a[from_ + i]?.getD z42).f1 (a[from_ + i]?.getD z42).f0) := by
  unfold maxsL
  rw [List.getElem?_map, partL_get _ _ _ _ hi, List.getElem?_eq_getElem hf]
  rfl
 rw [List.getElem?_eq_getElem hl] at h
 exact Option.some.inj h
def minsOf (all : List S42) (from_ n : Nat) : List Int := (partL all from_ n).map (fun b => b.f0)
def mostOf (all : List S42) (from_ n : Nat) : List Int := (partL all from_ n).map (fun b => b.f1)
/-- A need, spread over bands. -/
def spreadsF (k : Nat) (all : List S42) (from_ n : Nat) (cols least most gap : Int) : Option (Bool × List S42) :=
 (spread_Part.f k least gap cols).bind fun pm =>
 (spread_Over.f k pm (minsOf all from_ n) (mostOf all from_ n)).bind fun r1 =>
 if r1.1.length ≤ n then
  if r1.2 = 0 then
   (spread_Part.f k most gap cols).bind fun px =>
   (spread_Over.f k px (mostOf (updL stMax (maxsL (updL stMin r1.1 from_ all) from_ n) from_ (updL stMin r1.1 from_ all)) from_ n) (mostOf (updL stMax (maxsL (updL stMin r1.1 from_ all) from_ n) from_ (updL stMin r1.1 from_ all)) from_ n)).bind fun r2 =>
   if r2.1.length ≤ n then
    if r2.2 = 0 then
     (spread_areWide.f (mostOf (updL stMax r2.1 from_ (updL stMax (maxsL (updL stMin r1.1 from_ all) from_ n) from_ (updL stMin r1.1 from_ all))) from_ n)).bind fun t =>
     some (t, updL stMax r2.1 from_ (updL stMax (maxsL (updL stMin r1.1 from_ all) from_ n) from_ (updL stMin r1.1 from_ all)))
    else some (false, updL stMax r2.1 from_ (updL stMax (maxsL (updL stMin r1.1 from_ all) from_ n) from_ (updL stMin r1.1 from_ all)))
   else none
  else some (false, updL stMin r1.1 from_ all)
 else none
theorem spreadsF_inv {k : Nat} {all : List S42} {from_ n : Nat} {cols least most gap : Int} {t : Bool} {all' : List S42} (h : spreadsF k all from_ n cols least most gap = some (t, all')) :
  ∃ pm g1 e1, spread_Part.f k least gap cols = some pm ∧ spread_Over.f k pm (minsOf all from_ n) (mostOf all from_ n) = some (g1, e1) ∧ g1.length ≤ n ∧ ∃ a1, a1 = updL stMin g1 from_ all ∧
   ((e1 ≠ 0 ∧ t = false ∧ all' = a1) ∨ (e1 = 0 ∧ ∃ a2, a2 = updL stMax (maxsL a1 from_ n) from_ a1 ∧ ∃ px g2 e2, spread_Part.f k most gap cols = some px ∧ spread_Over.f k px (mostOf a2 from_ n) (mostOf a2 from_ n) = some (g2, e2) ∧ g2.length ≤ n ∧ all' = updL stMax g2 from_ a2 ∧
    ((e2 ≠ 0 ∧ t = false) ∨ (e2 = 0 ∧ spread_areWide.f (mostOf all' from_ n) = some t)))) := by
 unfold spreadsF at h
 obtain ⟨pm, hpm, h⟩ := Option.bind_eq_some_iff.1 h
 obtain ⟨⟨g1, e1⟩, ho1, h⟩ := Option.bind_eq_some_iff.1 h
 dsimp only at h
 by_cases hl1 : g1.length ≤ n
 case neg => rw [if_neg hl1] at h; cases h
 rw [if_pos hl1] at h
 refine ⟨pm, g1, e1, hpm, ho1, hl1, _, rfl, ?_⟩
 by_cases he1 : e1 = 0
 case neg =>
  rw [if_neg he1] at h
  simp only [Option.some.injEq, Prod.mk.injEq] at h
  exact .inl ⟨he1, h.1.symm, h.2.symm⟩
 rw [if_pos he1] at h
 refine .inr ⟨he1, _, rfl, ?_⟩
 obtain ⟨px, hpx, h⟩ := Option.bind_eq_some_iff.1 h
 obtain ⟨⟨g2, e2⟩, ho2, h⟩ := Option.bind_eq_some_iff.1 h
 dsimp only at h
 by_cases hl2 : g2.length ≤ n
 case neg => rw [if_neg hl2] at h; cases h
 rw [if_pos hl2] at h
 refine ⟨px, g2, e2, hpx, ho2, hl2, ?_⟩
 by_cases he2 : e2 = 0
 ·rw [if_pos he2] at h
  obtain ⟨t', ht, h⟩ := Option.bind_eq_some_iff.1 h
  simp only [Option.some.injEq, Prod.mk.injEq] at h
  obtain ⟨rfl, rfl⟩ := h
  exact ⟨rfl, .inr ⟨he2, ht⟩⟩
 ·rw [if_neg he2] at h
  simp only [Option.some.injEq, Prod.mk.injEq] at h
  exact ⟨h.2.symm, .inl ⟨he2, h.1.symm⟩⟩
set_option maxRecDepth 1000000 in
set_option maxHeartbeats 8000000 in
theorem spreads_calls (k G L cap from_ n : Nat) (all : List S42) (x0 x1 x2 x3 x4 x5 x6 x7 x8 gap : Int) (t : Bool) (all' : List S42) (w : World) (base : Nat) (ok : Nat → Prop)
  (hr : Kd.R k42 42 w base ok (.slice (some ⟨G, 0, none⟩) L cap) all) (hn : from_ + n ≤ all.length) (hle : all.length ≤ 10000) (h : spreadsF k all from_ n x4 x5 x6 gap = some (t, all')) :
  Calls Try.prog 20 #[.slice (some ⟨G, from_ * 4, none⟩) n n, .agg #[.int .i64 x0, .int .i64 x1, .int .i64 x2, .int .i64 x3, .int .i64 x4, .int .i64 x5, .int .i64 x6, .int .i64 x7, .int .i64 x8], .int .i64 gap] w fun e' w' => e' = .returned (.bool t) ∧ Kd.R k42 42 w' base ok (.slice (some ⟨G, 0, none⟩) L cap) all' ∧ w.grownBy w' (some G) := by
 have hGw : G < w.heap.size := Kd.R_lt hr G rfl
 have hinv := spreadsF_inv h
 clear h
 have hweights : ∀ (al : List S42) (W : World), al.length = all.length → Kd.R k42 42 W base ok (.slice (some ⟨G, 0, none⟩) L cap) al →
   Calls Try.prog 43 #[.func (.func 42) #[] #[], .slice (some ⟨G, from_ * 4, none⟩) n n] W fun e w' => ∃ v, e = .returned v ∧ Kd.R (Kd.int .i64) 2 w' W.heap.size (fun _ => True) v (mostOf al from_ n) ∧ Below W.heap.size W w' := by
  intro al W hal hR
  have hl : ((al.drop from_).take n).length = n := partL_length al from_ n (by omega)
  have := of_calls mostF G (from_ * 4) n _ W (R_part hR from_ n (by omega)) (by omega)
  rw [hl] at this
  exact this
 obtain ⟨pm, g1, e1, hpm, ho1, hl1, a1, ha1, hway⟩ := hinv
 have hla1 : a1.length = all.length := by rw [ha1]; exact updL_length _ _ _ _
 have Hla1 := Lib.hid hla1
 have Hr := Lib.hid hr
 have Hpm := Lib.hid hpm
 have Ho1 := Lib.hid ho1
 have Ha1 := Lib.hid ha1
 have Hway := Lib.hid hway
 have HW := Lib.hid hweights
 clear hr hpm ho1 ha1 hway hla1 hweights
 obtain ⟨B, hB⟩ : ∃ B, w.heap.size = B := ⟨_, rfl⟩
 have hk1 : (w.alloc (.cells #[.int .i64 x0, .int .i64 x1, .int .i64 x2, .int .i64 x3, .int .i64 x4, .int .i64 x5, .int .i64 x6, .int .i64 x7, .int .i64 x8] 53)).heap[B]? = some (.cells #[.int .i64 x0, .int .i64 x1, .int .i64 x2, .int .i64 x3, .int .i64 x4, .int .i64 x5, .int .i64 x6, .int .i64 x7, .int .i64 x8] 53 (0, 0)) := by rw [← hB]; exact heap_alloc_new _ _
 go_enter Try.func20, Try.ntmps20
 go_wp2_with fail
 go_at_call 11
 refine (spread_Part.calls k x5 gap x4 pm _ Hpm.out).mono ?_
 rintro e w2 ⟨rfl, hb2⟩
 have HB2 := Lib.hid (show Below w.heap.size w w2 from below_step ((Below.refl _ w).alloc (Nat.le_refl _) _) hb2)
 have HK := Lib.hid ((hb2.block B (by simp; omega)).trans hk1)
 clear hb2 hk1
 go_wp2_with fail
 refine (HW.out all w2 rfl (Kd.R_below Hr.out HB2.out)).mono ?_
 rintro e w3 ⟨v, rfl, hv, hb3⟩
 obtain ⟨A3, c3, rfl, hc3, hC3⟩ := Kd.R_reads hv
 have HB3 := Lib.hid (below_step HB2.out hb3)
 have HC3 := Lib.hid hC3
 have HK3 := Lib.hid ((hb3.block B (blk_lt HK.out)).trans HK.out)
 clear hv hb3 hC3 HB2 HK
 go_wp2_with fail
 refine (grows_calls leastF k G L cap from_ n pm all A3 c3 _ g1 e1 w3 base ok (Kd.R_below Hr.out HB3.out) hn hle HC3.out hc3 Ho1.out hl1).mono ?_
 rintro e w4 ⟨rfl, hR4, hg4⟩
 have HG4 := Lib.hid (World.grownBy.trans (grown_of_below HB3.out (some G)) hg4)
 have HK4 := Lib.hid ((hg4.block B (blk_lt HK3.out) (fun e => by cases e; omega)).trans HK3.out)
 have hR4' := hR4
 rw [← Ha1.out] at hR4'
 have HR4 := Lib.hid hR4'
 clear hR4 hR4' hg4 HK3 HC3 HB3 hc3 Hpm Ho1 Hr
 rcases Hway.out with ⟨he1, rfl, rfl⟩ | ⟨rfl, a2, ha2, px, g2, e2, hpx, ho2, hl2, hall, hway2⟩
 ·have hb1 : (e1 != 0) = true := bne_iff_ne.mpr he1
  clear he1
  go_wp2_with fail
  go_ret
  exact ⟨rfl, HR4.out, HG4.out⟩
 ·have Ha2 := Lib.hid ha2
  have Hpx := Lib.hid hpx
  have Ho2 := Lib.hid ho2
  have Hall := Lib.hid hall
  have Hway2 := Lib.hid hway2
  clear ha2 hpx ho2 hall hway2 Hway
  go_wp2_with fail
  have hmn : (maxsL a1 from_ n).length = n := by unfold maxsL; rw [List.length_map]; exact partL_length a1 from_ n (by have := Hla1.out; omega)
  have Hmn := Lib.hid hmn
  clear hmn
  go_loopg [31] n (fun kx s31 wl => ∃ i : Nat, s31 = .int .i64 i ∧ i ≤ n ∧ n - i ≤ kx ∧ Hid (Kd.R k42 42 wl base ok (.slice (some ⟨G, 0, none⟩) L cap) (updL stMax ((maxsL a1 from_ n).take i) from_ a1)) ∧ Hid (w.grownBy wl (some G)) ∧ Hid (wl.heap[B]? = some (.cells #[.int .i64 x0, .int .i64 x1, .int .i64 x2, .int .i64 x3, .int .i64 x4, .int .i64 x5, .int .i64 x6, .int .i64 x7, .int .i64 x8] 53 (0, 0))))
  case atStart => exact ⟨0, rfl, Nat.zero_le _, Nat.le_refl _, HR4, HG4, HK4⟩
  case round =>
   clear HR4 HG4 HK4
   obtain ⟨i, rfl, hi, hkx, HR, HG, HK⟩ := hrel
   by_cases hlt : i < n
   ·have hltz : (i : Int) < (n : Int) := by omega
    have hlm : i < (maxsL a1 from_ n).length := by have := Hmn.out; omega
    have hsn := Lib.hid (updL_take stMax (maxsL a1 from_ n) from_ a1 i hlm)
    have hul := updL_length stMax ((maxsL a1 from_ n).take i) from_ a1
    have hga := updL_get stMax ((maxsL a1 from_ n).take i) from_ a1 (from_ + i) (.inr (by rw [List.length_take]; omega))
    have hfi : from_ + i < a1.length := by have := Hla1.out; omega
    have hmx : (maxsL a1 from_ n)[i] = mx ((updL stMax ((maxsL a1 from_ n).take i) from_ a1)[from_ + i]?.getD z42).f1 ((updL stMax ((maxsL a1 from_ n).take i) from_ a1)[from_ + i]?.getD z42).f0 := by
     rw [hga]
     exact maxsL_at a1 from_ n i hlt hfi hlm
    rw [hmx] at hsn
    have hp : from_ + i < (updL stMax ((maxsL a1 from_ n).take i) from_ a1).length := by omega
    obtain ⟨f0, _, _, _⟩ := R_field leastF HR.out (from_ + i) hp 0
    generalize hcur : updL stMax ((maxsL a1 from_ n).take i) from_ a1 = cur at HR hsn hp f0
    clear hul hga hmx hcur
    obtain ⟨f1, f2, f3, f4⟩ := R_field mostF HR.out (from_ + i) hp (mx (cur[from_ + i]?.getD z42).f1 (cur[from_ + i]?.getD z42).f0)
    rw [show (from_ + i) * 4 + 1 = from_ * 4 + i * 4 + 1 by omega] at f1 f2 f3 f4
    rw [show (from_ + i) * 4 + 0 = from_ * 4 + i * 4 by omega] at f0
    generalize (cur[from_ + i]?.getD z42) = b at f0 f1 f3 f4 hsn
    have F3 := Lib.hid f3
    have F4 := Lib.hid f4
    have hgB : Hid ((wr.setCell ⟨G, from_ * 4 + i * 4 + 1, none⟩ (.int .i64 (mx b.f1 b.f0))).heap[B]? = some (.cells #[.int .i64 x0, .int .i64 x1, .int .i64 x2, .int .i64 x3, .int .i64 x4, .int .i64 x5, .int .i64 x6, .int .i64 x7, .int .i64 x8] 53 (0, 0))) := Lib.hid ((f4.block B (blk_lt HK.out) (fun e => by cases e; omega)).trans HK.out)
    clear f3 f4
    have hbm : (b.f1 < b.f0 ∧ mx b.f1 b.f0 = b.f0) ∨ (¬ b.f1 < b.f0 ∧ mx b.f1 b.f0 = b.f1) := by
     unfold mx
     by_cases c : b.f1 < b.f0
     ·exact .inl ⟨c, if_pos c⟩
     ·exact .inr ⟨c, if_neg c⟩
    rcases hbm with ⟨hbb, e⟩ | ⟨hbb, e⟩
    all_goals
     rw [e] at hsn F3 F4 hgB
     clear e
     go_upto_region 9 with (fail)
     go_region
     go_wp2
     go_roundg (n - (i + 1))
     case measure => omega
     case rel => exact ⟨i + 1, by go_num, by omega, Nat.le_refl _, by rw [hsn.out]; exact Lib.hid (Kd.R_drew F3.out), Lib.hid (World.grownBy.trans HG.out (World.grownBy.trans F4.out (grown_of_below (below_drew (Below.refl _ _)) _))), hgB⟩
   ·obtain rfl : i = n := by omega
    rw [List.take_of_length_le (by have := Hmn.out; omega), ← Ha2.out] at HR
    have hla2 : a2.length = all.length := by rw [Ha2.out, updL_length]; exact Hla1.out
    clear Hmn
    have HR5 := HR
    have Hla2 := Lib.hid hla2
    clear HR hla2
    have cB6 := (blk_cell HK.out 6).trans rfl
    go_wp2_with fail
    go_at_call 11
    refine (spread_Part.calls k x6 gap x4 px _ Hpx.out).mono ?_
    rintro e w6 ⟨rfl, hb6⟩
    have HR6 := Lib.hid (Kd.R_below HR5.out hb6)
    have HG6 := Lib.hid (World.grownBy.trans HG.out (grown_of_below hb6 (some G)))
    clear hb6 HK cB6 HG HR5
    go_wp2_with fail
    refine (HW.out a2 w6 Hla2.out HR6.out).mono ?_
    rintro e w7 ⟨v, rfl, hv, hb7⟩
    obtain ⟨A7, c7, rfl, hc7, hC7⟩ := Kd.R_reads hv
    have HR7 := Lib.hid (Kd.R_below HR6.out hb7)
    have HG7 := Lib.hid (World.grownBy.trans HG6.out (grown_of_below hb7 (some G)))
    have HC7 := Lib.hid hC7
    clear hv hb7 hC7 HR6 HG6
    go_wp2_with fail
    refine (grows_calls mostF k G L cap from_ i px a2 A7 c7 _ g2 e2 w7 base ok HR7.out (by have := Hla2.out; omega) (by have := Hla2.out; omega) HC7.out hc7 Ho2.out hl2).mono ?_
    rintro e w8 ⟨rfl, hR8, hg8⟩
    rw [← Hall.out] at hR8
    have HR8 := Lib.hid hR8
    have HG8 := Lib.hid (World.grownBy.trans HG7.out hg8)
    have hla3 : all'.length = all.length := by rw [Hall.out, updL_length]; exact Hla2.out
    have Hla3 := Lib.hid hla3
    clear hR8 hg8 HR7 HG7 HC7 hc7 hla3
    rcases Hway2.out with ⟨he2, rfl⟩ | ⟨rfl, hwd⟩
    ·have hb2 : (e2 == 0) = false := beq_eq_false_iff_ne.mpr he2
     clear he2
     go_wp2_with fail
     go_ret
     exact ⟨rfl, HR8.out, HG8.out⟩
    ·have Hwd := Lib.hid hwd
     clear hwd
     go_wp2_with fail
     refine (HW.out all' w8 Hla3.out HR8.out).mono ?_
     rintro e w9 ⟨v, rfl, hv, hb9⟩
     obtain ⟨A9, c9, rfl, hc9, hC9⟩ := Kd.R_reads hv
     have HR9 := Lib.hid (Kd.R_below HR8.out hb9)
     have HG9 := Lib.hid (World.grownBy.trans HG8.out (grown_of_below hb9 (some G)))
     have HC9 := Lib.hid hC9
     clear hv hb9 hC9 HR8 HG8
     go_wp2_with fail
     go_at_call 21
     refine (spread_areWide.calls A9 c9 _ t w9 HC9.out hc9 Hwd.out).mono ?_
     rintro e w10 ⟨rfl, hd10⟩
     have hb10 : Below w9.heap.size w9 w10 := by obtain ⟨m, rfl⟩ := hd10; exact pw_below_drewN (Below.refl _ _) m
     have HR10 := Lib.hid (Kd.R_below HR9.out hb10)
     have HG10 := Lib.hid (World.grownBy.trans HG9.out (grown_of_below hb10 (some G)))
     clear hb10 hd10
     go_wp2_with fail
     go_ret
     exact ⟨rfl, HR10.out, HG10.out⟩
open Go.Proofs.Ytpoboffdlnnbmaa.Base in
/-- .. in one word, with enough rounds. -/
def spreadsT (all : List S42) (from_ n : Nat) (cols least most gap : Int) : Bool × List S42 :=
 let r1 := overT (partN gap cols least) (minsOf all from_ n) (mostOf all from_ n)
 let a1 := updL stMin r1.1 from_ all
 if r1.2 = 0 then
  let a2 := updL stMax (maxsL a1 from_ n) from_ a1
  let r2 := overT (partN gap cols most) (mostOf a2 from_ n) (mostOf a2 from_ n)
  let a3 := updL stMax r2.1 from_ a2
  if r2.2 = 0 then (!(mostOf a3 from_ n).any wideBad, a3) else (false, a3)
 else (false, a1)
open Go.Proofs.Ytpoboffdlnnbmaa.Base in
theorem spreads_total (all : List S42) (from_ n : Nat) (cols least most gap : Int) (hn : from_ + n ≤ all.length) (hle : all.length ≤ 8000) (hl : wide least) (hm : wide most) (hg : 0 ≤ gap ∧ gap ≤ 1073741824) (hc : 1 ≤ cols ∧ cols ≤ 10000) :
  ∃ k, spreadsF k all from_ n cols least most gap = some (spreadsT all from_ n cols least most gap) := by
 have ll : ∀ (al : List S42), al.length = all.length → (minsOf al from_ n).length = n ∧ (mostOf al from_ n).length = n := by
  intro al h
  unfold minsOf mostOf
  rw [List.length_map, List.length_map, partL_length al from_ n (by omega)]
  exact ⟨rfl, rfl⟩
 suffices h : Ev (fun k => spreadsF k all from_ n cols least most gap) (spreadsT all from_ n cols least most gap) from h.rounds
 unfold spreadsF spreadsT
 refine Ev.bind (part_ev gap cols least hl hg hc) (Ev.bind (over_total _ _ _ (by rw [(ll all rfl).1]; omega)) ?_)
 have l1 := overT_length (partN gap cols least) (minsOf all from_ n) (mostOf all from_ n)
 rw [(ll all rfl).1] at l1
 generalize overT (partN gap cols least) (minsOf all from_ n) (mostOf all from_ n) = r1 at l1 ⊢
 refine Go.Proofs.Ytpoboffdlnnbmaa.Base.Ev.pos l1 ?_
 by_cases e1 : r1.2 = 0
 ·have ha1 : (updL stMin r1.1 from_ all).length = all.length := updL_length _ _ _ _
  simp only [if_pos e1]
  generalize updL stMin r1.1 from_ all = a1 at ha1 ⊢
  have ha2 : (updL stMax (maxsL a1 from_ n) from_ a1).length = all.length := (updL_length _ _ _ _).trans ha1
  generalize updL stMax (maxsL a1 from_ n) from_ a1 = a2 at ha2 ⊢
  refine Ev.bind (part_ev gap cols most hm hg hc) (Ev.bind (over_total _ _ _ (by rw [(ll a2 ha2).2]; omega)) ?_)
  have l2 := overT_length (partN gap cols most) (mostOf a2 from_ n) (mostOf a2 from_ n)
  rw [(ll a2 ha2).2] at l2
  generalize overT (partN gap cols most) (mostOf a2 from_ n) (mostOf a2 from_ n) = r2 at l2 ⊢
  refine Go.Proofs.Ytpoboffdlnnbmaa.Base.Ev.pos l2 ?_
  by_cases e2 : r2.2 = 0
  ·simp only [if_pos e2]
   exact Ev.bind (a := !(mostOf (updL stMax r2.1 from_ a2) from_ n).any wideBad) ⟨0, fun _ _ => rfl⟩ (Ev.now _)
  ·simp only [if_neg e2]
   exact Ev.now _
 ·simp only [if_neg e1]
  exact Ev.now _
open Go.Proofs.Ytpoboffdlnnbmaa.Base in
theorem spreadsT_length (all : List S42) (from_ n : Nat) (cols least most gap : Int) : (spreadsT all from_ n cols least most gap).2.length = all.length := by
 unfold spreadsT
 dsimp only
 (repeat' split) <;> simp only [updL_length]
end

end Go.Proofs.Ytpoboffdlnnbmaa.PA
