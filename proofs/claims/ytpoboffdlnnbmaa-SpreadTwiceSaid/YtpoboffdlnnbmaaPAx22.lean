-- MADE by wip/tools/xprint.py of this repo: the kit's print.py, turned by this session, and texts by hand
import Derived.Test.YtpoboffdlnnbmaaPAx0
import Derived.Test.YtpoboffdlnnbmaaPAx9
namespace Go.Proofs.Ytpoboffdlnnbmaa.PA
open Go.RowKit Go.Proofs.YtpoboffdlnnbmaaW.PrintWords Go.Proofs.YtpoboffdlnnbmaaW.PrintLast Go.Proofs.YtpoboffdlnnbmaaW.PrintMore
attribute [local go_sem] max2_int min2_int max_two min_two max_three min_three max_four min_four   -- for this text's walks alone
set_option linter.unusedVariables false
set_option linter.unusedSimpArgs false

-- BY HAND: grows.tpl
section
open Go.RowKit Go.Shelf Go.Proofs.YtpoboffdlnnbmaaW.PrintWords Go.Proofs.YtpoboffdlnnbmaaW.PrintLast Go.Proofs.YtpoboffdlnnbmaaW.PrintMore
attribute [local go_sem] Oper.semAt_some
/-- A field of a band: its closure, its place, its number. -/
structure FieldF (gf j : Nat) (fl : S42 → Int) (st : S42 → Int → S42) : Prop where
 enters : ∀ args w, (callFunc gf args).run Try.prog w = .ok (.enter gf args) w
 calls : ∀ G o W, Calls Try.prog gf #[.pointer (some ⟨G, o, none⟩)] W fun e w' => e = .returned (.pointer (some ⟨G, o + j, none⟩)) ∧ w' = W
 cell : ∀ b : S42, [Value.int .i64 b.f0, .int .i64 b.f1, .int .i64 b.f2, .int .i64 b.f3][j]? = some (.int .i64 (fl b))
 set : ∀ (b : S42) (x : Int), [Value.int .i64 b.f0, .int .i64 b.f1, .int .i64 b.f2, .int .i64 b.f3].take j ++ [.int .i64 x] ++ [Value.int .i64 b.f0, .int .i64 b.f1, .int .i64 b.f2, .int .i64 b.f3].drop (j + 1) = [.int .i64 (st b x).f0, .int .i64 (st b x).f1, .int .i64 (st b x).f2, .int .i64 (st b x).f3]
 lt : j < 4
def stMin (b : S42) (x : Int) : S42 := ⟨x, b.f1, b.f2, b.f3⟩
def stMax (b : S42) (x : Int) : S42 := ⟨b.f0, x, b.f2, b.f3⟩
theorem least_calls (G o : Nat) (W : World) : Calls Try.prog 41 #[.pointer (some ⟨G, o, none⟩)] W fun e w' => e = .returned (.pointer (some ⟨G, o + 0, none⟩)) ∧ w' = W := by
 go_enter Try.func41, Try.ntmps41
 go_wp2
 go_ret
 exact ⟨rfl, rfl⟩
theorem most_calls (G o : Nat) (W : World) : Calls Try.prog 42 #[.pointer (some ⟨G, o, none⟩)] W fun e w' => e = .returned (.pointer (some ⟨G, o + 1, none⟩)) ∧ w' = W := by
 go_enter Try.func42, Try.ntmps42
 go_wp2
 go_ret
 exact ⟨rfl, rfl⟩
theorem leastF : FieldF 41 0 (fun b => b.f0) stMin := ⟨enters_of Try.func41 (by kernel_rfl) rfl, least_calls, fun _ => rfl, fun _ _ => rfl, by omega⟩
theorem mostF : FieldF 42 1 (fun b => b.f1) stMax := ⟨enters_of Try.func42 (by kernel_rfl) rfl, most_calls, fun _ => rfl, fun _ _ => rfl, by omega⟩
/-- A cell of a band of a slice. -/
theorem band_cell {gf j : Nat} {fl : S42 → Int} {st : S42 → Int → S42} (F : FieldF gf j fl st) {W : World} {G o : Nat} {bs : List S42} (h : Kd.C k42 W (some ⟨G, o, none⟩) bs.length bs) (i : Nat) (hi : i < bs.length) : W.cell? ⟨G, o + i * 4 + j, none⟩ = some (.int .i64 (fl bs[i])) := by
 obtain ⟨ad, c, e, _, hK, hc⟩ := Kd.C_get h z42 (i : Int) (by omega) (by omega)
 cases e
 obtain rfl := k42_open hK
 rw [List.getD_eq_getElem?_getD, Int.toNat_natCast, List.getElem?_eq_getElem hi, Option.getD_some] at hc
 have := hc j _ (F.cell bs[i])
 have e2 : (⟨G, o, none⟩ : Addr).add (i * 4 + j) = ⟨G, o + i * 4 + j, none⟩ := by unfold Addr.add; split <;> simp_all <;> omega
 rw [← e2]
 exact this
set_option maxRecDepth 1000000 in
set_option maxHeartbeats 4000000 in
theorem of_calls {gf j : Nat} {fl : S42 → Int} {st : S42 → Int → S42} (F : FieldF gf j fl st) (G o c : Nat) (bs : List S42) (w : World) (hr : Kd.C k42 w (some ⟨G, o, none⟩) bs.length bs) (hle : bs.length ≤ 10000) :
  Calls Try.prog 43 #[.func (.func gf) #[] #[], .slice (some ⟨G, o, none⟩) bs.length c] w fun e w' => ∃ v, e = .returned v ∧ Kd.R (Kd.int .i64) 2 w' w.heap.size (fun _ => True) v (bs.map fl) ∧ Below w.heap.size w w' := by
 have hmax : bs.length ≤ 9223372036854775807 := by omega
 have eg := F.enters
 have HF := Lib.hid F
 have Hr := Lib.hid hr
 clear F hr
 go_enter Try.func43, Try.ntmps43
 go_wp2
 go_loopg [5, 9] bs.length (fun kx s5 s9 wr => ∃ (i : Nat), s9 = .int .i64 i ∧ i ≤ bs.length ∧ bs.length - i ≤ kx ∧ Hid (Kd.R (Kd.int .i64) 2 wr w.heap.size (fun _ => True) s5 ((bs.map fl).take i)) ∧ Hid (Below w.heap.size w wr))
 case atStart => exact ⟨0, rfl, Nat.zero_le _, Nat.le_refl _, Lib.hid (Kd.R_nil _ _ _ _ _), Lib.hid (Below.refl _ _)⟩
 case round =>
  obtain ⟨i, rfl, hi, hkx, HR, HB⟩ := hrel
  by_cases hlt : i < bs.length
  ·have hltz : (i : Int) < (bs.length : Int) := by omega
   have hx := (HB.out.cell (World.block_lt_of_cell? w _ (band_cell HF.out Hr.out i hlt))).trans (band_cell HF.out Hr.out i hlt)
   have hlen : ((bs.map fl).take i).length ≤ 10000 := by rw [List.length_take]; omega
   have hsn := Lib.hid (show (bs.map fl).take (i + 1) = (bs.map fl).take i ++ [fl bs[i]] by rw [List.take_succ_eq_append_getElem (by simpa using hlt)]; simp)
   generalize (bs.map fl).take i = cur at HR hlen hsn
   generalize fl bs[i] = x at hx hsn
   go_wp2_with (first | (go_at_fn gf; refine (HF.out.calls _ _ _).mono ?_; rintro e w' ⟨rfl, rfl⟩) | (at_builtin; refine Kd.R_append (Kd.int .i64) (w0 := w) w.heap.size rfl (.tmp 12) (.tmp 20) 34 2 (.int .i64 0) 8 rfl Try.underlying34 info2 rfl (by decide) (by omega) _ cur x [.int .i64 x] (fun _ => True) (fun _ => False) rfl rfl rfl (fun _ hk => hk.elim) (fun _ _ => trivial) HR.out HB.out HB.out.size (by omega) ?_; intro v1 w1 ho hb hg hat; have HR1 := Lib.hid ho; have HB1 := Lib.hid hb; clear ho hb hg hat))
   go_roundg (bs.length - (i + 1))
   case measure => omega
   case rel => exact ⟨i + 1, by go_num, by omega, Nat.le_refl _, by rw [hsn.out]; exact HR1, HB1⟩
  ·obtain rfl : i = bs.length := by omega
   rw [List.take_of_length_le (by simp)] at HR
   go_wp2
   go_ret
   exact ⟨_, rfl, HR.out, HB.out⟩
/-- Numbers laid into a field, from a place on. -/
def updL (st : S42 → Int → S42) : List Int → Nat → List S42 → List S42
 | [], _, all => all
 | x :: ns, p, all => updL st ns (p + 1) (all.set p (st (all[p]?.getD z42) x))
theorem updL_length (st : S42 → Int → S42) : ∀ (ns : List Int) (p : Nat) (all : List S42), (updL st ns p all).length = all.length
 | [], _, _ => rfl
 | x :: ns, p, all => by
  show (updL st ns (p + 1) _).length = _
  rw [updL_length st ns, List.length_set]
theorem updL_snoc (st : S42 → Int → S42) : ∀ (ns : List Int) (x : Int) (p : Nat) (all : List S42), updL st (ns ++ [x]) p all = (updL st ns p all).set (p + ns.length) (st ((updL st ns p all)[p + ns.length]?.getD z42) x)
 | [], _, _, _ => rfl
 | y :: ns, x, p, all => by
  show updL st (ns ++ [x]) (p + 1) _ = _
  rw [updL_snoc st ns x (p + 1), show p + (y :: ns).length = p + 1 + ns.length by simp; omega]
  rfl
theorem updL_take (st : S42 → Int → S42) (ns : List Int) (p : Nat) (all : List S42) (i : Nat) (h : i < ns.length) : updL st (ns.take (i + 1)) p all = (updL st (ns.take i) p all).set (p + i) (st ((updL st (ns.take i) p all)[p + i]?.getD z42) ns[i]) := by
 rw [List.take_succ_eq_append_getElem h, updL_snoc, List.length_take, Nat.min_eq_left (by omega)]
/-- A field of one band of an owned row, written. -/
theorem R_field {gf j : Nat} {fl : S42 → Int} {st : S42 → Int → S42} (F : FieldF gf j fl st) {W : World} {base G L cap : Nat} {ok : Nat → Prop} {all : List S42} (h : Kd.R k42 42 W base ok (.slice (some ⟨G, 0, none⟩) L cap) all) (p : Nat) (hp : p < all.length) (x : Int) :
  W.cell? ⟨G, p * 4 + j, none⟩ = some (.int .i64 (fl (all[p]?.getD z42))) ∧ W.frozen? ⟨G, p * 4 + j, none⟩ = false ∧
   Kd.R k42 42 (W.setCell ⟨G, p * 4 + j, none⟩ (.int .i64 x)) base ok (.slice (some ⟨G, 0, none⟩) L cap) (all.set p (st (all[p]?.getD z42) x)) ∧ W.grownBy (W.setCell ⟨G, p * 4 + j, none⟩ (.int .i64 x)) (some G) := by
 obtain ⟨hL, hLc, hC⟩ := Kd.R_reads' h
 obtain ⟨ad, c, e, hcl, hK, hc⟩ := Kd.C_get hC z42 (p : Int) (by omega) (by omega)
 cases e
 have hkc := k42_open hK
 rw [List.getD_eq_getElem?_getD, Int.toNat_natCast] at hkc
 rw [Int.toNat_natCast] at hc
 subst hkc
 have hc' : ∀ i u, ([Value.int .i64 (all[p]?.getD z42).f0, .int .i64 (all[p]?.getD z42).f1, .int .i64 (all[p]?.getD z42).f2, .int .i64 (all[p]?.getD z42).f3])[i]? = some u → W.cell? ⟨G, p * 4 + i, none⟩ = some u := by
  intro i u hu
  have := hc i u hu
  rwa [add_plain] at this
 obtain ⟨cs, hb⟩ := Kd.R_typed h G rfl
 obtain ⟨h1, h2⟩ := Kd.R_seg h (p : Int) (by omega) (by omega) (c := [.int .i64 (all[p]?.getD z42).f0, .int .i64 (all[p]?.getD z42).f1, .int .i64 (all[p]?.getD z42).f2, .int .i64 (all[p]?.getD z42).f3]) (seg := [.int .i64 x]) (j := j) rfl
  (by intro i u hu; rw [Int.toNat_natCast]; exact hc' i u hu) (by have := F.lt; show j + 1 ≤ 4; omega) (x' := st (all[p]?.getD z42) x) (okp := fun _ => False) (by rw [show j + [Value.int .i64 x].length = j + 1 from rfl, F.set]; exact k42_mkM _ _ _ _) (fun _ hk => hk.elim)
 rw [Int.toNat_natCast] at h1 h2
 exact ⟨hc' j _ (F.cell _), blk_frozen hb _, h1, h2⟩
/-- A part of an owned row is a slice that is read. -/
theorem R_part {W : World} {base G L cap : Nat} {ok : Nat → Prop} {all : List S42} (h : Kd.R k42 42 W base ok (.slice (some ⟨G, 0, none⟩) L cap) all) (from_ n : Nat) (hn : from_ + n ≤ all.length) : Kd.C k42 W (some ⟨G, from_ * 4, none⟩) ((all.drop from_).take n).length ((all.drop from_).take n) := by
 obtain ⟨hL, hLc, hC⟩ := Kd.R_reads' h
 have hmax := Kd.C_max hC
 have hl : ((all.drop from_).take n).length = n := by rw [List.length_take, List.length_drop]; omega
 refine ⟨rfl, by omega, fun _ => ⟨_, rfl, fun i b hb => ?_⟩⟩
 have hi : i < n := by rw [← hl]; exact (List.getElem?_eq_some_iff.1 hb).1
 obtain ⟨ad, c, e, hcl, hK, hc⟩ := Kd.C_get hC z42 ((from_ + i : Nat) : Int) (by omega) (by omega)
 cases e
 rw [List.getD_eq_getElem?_getD, Int.toNat_natCast] at hK
 have hb2 : all[from_ + i]?.getD z42 = b := by
  rw [List.getElem?_take_of_lt hi, List.getElem?_drop] at hb
  rw [hb]
  rfl
 rw [hb2] at hK
 refine ⟨c, hcl, hK, fun q u hu => ?_⟩
 have := hc q u hu
 rw [Int.toNat_natCast] at this
 rw [add_plain] at this
 have e2 : (⟨G, from_ * 4, none⟩ : Addr).add (i * k42.sz + q) = ⟨G, (from_ + i) * 4 + q, none⟩ := by
  have e3 : k42.sz = 4 := rfl
  unfold Addr.add
  split <;> simp_all <;> omega
 rw [e2]
 exact this
set_option maxRecDepth 1000000 in
set_option maxHeartbeats 8000000 in
theorem grows_calls {gf j : Nat} {fl : S42 → Int} {st : S42 → Int → S42} (F : FieldF gf j fl st) (k G L cap from_ n : Nat) (N : Int) (all : List S42) (A2 : Option Addr) (c2 : Nat) (ws : List Int) (grown : List Int) (e : Int) (w : World) (base : Nat) (ok : Nat → Prop)
  (hr : Kd.R k42 42 w base ok (.slice (some ⟨G, 0, none⟩) L cap) all) (hn : from_ + n ≤ all.length) (hle : all.length ≤ 10000) (hw : Kd.C (Kd.int .i64) w A2 ws.length ws) (hc2 : ws.length ≤ c2) (h : spread_Over.f k N (((all.drop from_).take n).map fl) ws = some (grown, e)) (hgl : grown.length ≤ n) :
  Calls Try.prog 44 #[.func (.func gf) #[] #[], .slice (some ⟨G, from_ * 4, none⟩) n n, .int .i64 N, .slice A2 ws.length c2] w fun e' w' => e' = .returned (.int .i64 e) ∧ Kd.R k42 42 w' base ok (.slice (some ⟨G, 0, none⟩) L cap) (updL st grown from_ all) ∧ w.grownBy w' (some G) := by
 have hl : ((all.drop from_).take n).length = n := by rw [List.length_take, List.length_drop]; omega
 have hC := R_part hr from_ n hn
 have hof := of_calls F G (from_ * 4) n _ w hC (by omega)
 rw [hl] at hof
 have hGw : G < w.heap.size := Kd.R_lt hr G rfl
 have hover : ∀ v w1, Kd.R (Kd.int .i64) 2 w1 w.heap.size (fun _ => True) v (((all.drop from_).take n).map fl) → Below w.heap.size w w1 →
   Calls Try.prog 9 #[.int .i64 N, v, .slice A2 ws.length c2] w1 fun e' w' => ∃ v0_ : Value, e' = .returned (.tuple #[v0_, .int .i64 e]) ∧ Kd.R (Kd.int .i64) 2 w' w1.heap.size (fun _ => True) v0_ grown ∧ Below w1.heap.size w1 w' := by
  intro v w1 hv hb
  obtain ⟨A, c, rfl, hc, hC1⟩ := Kd.R_reads hv
  exact spread_Over.calls k N A c _ A2 c2 ws grown e w1 hC1 hc (Kd.C_below hw hb) hc2 h
 have eg := F.enters
 have HF := Lib.hid F
 have Hr := Lib.hid hr
 have HOF := Lib.hid hof
 have HOV := Lib.hid hover
 clear F hr hC hw h hof hover
 go_enter Try.func44, Try.ntmps44
 go_wp2_with (first | (go_at_call 43; refine HOF.out.mono ?_; rintro e' w1 ⟨v1, rfl, hv1, hb1⟩; have HV1 := Lib.hid hv1; have HB1 := Lib.hid hb1; clear hv1 hb1) | (go_at_call 9; refine (HOV.out _ _ HV1.out HB1.out).mono ?_; rintro e' w2 ⟨v2, rfl, hv2, hb2⟩; have HV2 := Lib.hid hv2; have HB2 := Lib.hid hb2; clear hv2 hb2; obtain ⟨A3, c3, rfl, hc3, _⟩ := Kd.R_reads HV2.out))
 have hb12 := below_step HB1.out HB2.out
 have hg12 : w.grownBy w2 (some G) := grown_of_below hb12 _
 have hR2 : Kd.R k42 42 w2 base ok (.slice (some ⟨G, 0, none⟩) L cap) all := Kd.R_below Hr.out hb12
 have hV2 : (Kd.int .i64).R 2 w2 w1.heap.size (fun b => b ≠ G ∧ b < w2.heap.size) (.slice A3 grown.length c3) grown := Kd.R_mono (Kd.R_bound HV2.out) (fun b hb => ⟨by have := hb.2.1; have := HB1.out.size; omega, hb.2.2.1⟩)
 have HG := Lib.hid hg12
 have HR := Lib.hid hR2
 have HE := Lib.hid hV2
 clear hb12 hg12 hR2 hV2 HV2 HB2 HOV HOF Hr
 go_loopg [24] grown.length (fun kx s24 wl => ∃ i : Nat, s24 = .int .i64 i ∧ i ≤ grown.length ∧ grown.length - i ≤ kx ∧ Hid (Kd.R k42 42 wl base ok (.slice (some ⟨G, 0, none⟩) L cap) (updL st (grown.take i) from_ all)) ∧ Hid (w.grownBy wl (some G)) ∧ Hid ((Kd.int .i64).R 2 wl w1.heap.size (fun b => b ≠ G ∧ b < wl.heap.size) (.slice A3 grown.length c3) grown))
 case atStart => exact ⟨0, rfl, Nat.zero_le _, Nat.le_refl _, HR, HG, HE⟩
 case round =>
  clear HR HG HE HV1 HB1
  obtain ⟨i, rfl, hi, hkx, HR, HG, HE⟩ := hrel
  by_cases hlt : i < grown.length
  ·have hltz : (i : Int) < (grown.length : Int) := by omega
   have hsn := Lib.hid (updL_take st grown from_ all i hlt)
   have hul := updL_length st (grown.take i) from_ all
   obtain ⟨a3, rfl, hxe⟩ := Kd.at_int (Kd.R_reads' HE.out).2.2 (i : Int) (by omega) hltz
   rw [show rd grown (i : Int) = grown[i] from by unfold rd; rw [Int.toNat_natCast]; simp [hlt], Int.toNat_natCast] at hxe
   obtain ⟨f1, f2, f3, f4⟩ := R_field HF.out HR.out (from_ + i) (by omega) grown[i]
   rw [show (from_ + i) * 4 + j = from_ * 4 + i * 4 + j by omega] at f1 f2 f3 f4
   have F3 := Lib.hid f3
   have F4 := Lib.hid f4
   have hiz : (i : Int) < (n : Int) := by omega
   clear f3 f4 hul
   generalize grown[i] = x at hxe hsn F3 F4
   generalize updL st (grown.take i) from_ all = cur at HR f1 hsn F3
   generalize fl (cur[from_ + i]?.getD z42) = old at f1
   go_wp2_with (first | (go_at_fn gf; refine (HF.out.calls _ _ _).mono ?_; rintro e w' ⟨rfl, rfl⟩))
   go_roundg (grown.length - (i + 1))
   case measure => omega
   case rel => exact ⟨i + 1, by go_num, by omega, Nat.le_refl _, by rw [hsn.out]; exact F3, Lib.hid (World.grownBy.trans HG.out F4.out), Lib.hid (Kd.R_mono (Kd.R_step HE.out (fun k hk hlt => F4.out.block k hlt (fun he => hk.1 (by cases he; rfl)))) (fun b hb => ⟨hb.1, Nat.lt_of_lt_of_le hb.2 F4.out.size⟩))⟩
  ·obtain rfl : i = grown.length := by omega
   rw [List.take_length] at HR
   go_wp2
   go_ret
   exact ⟨rfl, HR.out, HG.out⟩
end

end Go.Proofs.Ytpoboffdlnnbmaa.PA
