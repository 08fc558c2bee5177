/- What the document's Share computes is what the program's Share computes: at every length and every weights, with enough rounds. No condition but that a list's length is a length. -/
import Derived.Test.YtgghbmhmpkeccaaPAx22
import Derived.Test.YtgghbmhmpkeccaaTwo
namespace Go.Proofs.Ytgghbmhmpkeccaa.Base
open Go.RowKit Go.Proofs.Ytgghbmhmpkeccaa.PA Go.Proofs.YtgghbmhmpkeccaaW.PrintWords Go.Proofs.YtgghbmhmpkeccaaW.PrintLast Go.Proofs.YtgghbmhmpkeccaaW.PrintMore
/-! The greatest rest that is not given yet. -/
def flags (T : List Nat) (n : Nat) : List Bool := (List.range n).map (fun i => decide (i ∈ T))
theorem flags_length (T : List Nat) (n : Nat) : (flags T n).length = n := by simp [flags]
theorem flags_at (T : List Nat) (n i : Nat) (h : i < n) : rdOf false (flags T n) (i : Int) = decide (i ∈ T) := by
  simp [rdOf, flags, h]
theorem flags_set (T : List Nat) (n p : Nat) : (flags T n).set p true = flags (T ++ [p]) n := by
  unfold flags
  apply List.ext_getElem
  · simp
  · intro i h1 h2
    rw [List.getElem_set]
    by_cases e : p = i
    · subst e
      simp
    · have e' : ¬ i = p := fun h => e h.symm
      simp [e, e']
def rests (r : Nat → Int) (n : Nat) : List Int := (List.range n).map r
theorem rests_at (r : Nat → Int) (n i : Nat) (h : i < n) : rd (rests r n) (i : Int) = r i := by
  simp [rd, rests, h]
def Best (r : Nat → Int) (T : List Nat) (i : Nat) (b : Int) : Prop :=
  (b = -1 ∧ ∀ m, m < i → m ∈ T) ∨ (∃ p : Nat, b = p ∧ p < i ∧ p ∉ T ∧ ∀ m, m < i → m ∉ T → m ≠ p → before r p m)
theorem Best.skip {r : Nat → Int} {T : List Nat} {i : Nat} {b : Int} (h : Best r T i b) (hi : i ∈ T) : Best r T (i + 1) b := by
  rcases h with ⟨h1, h2⟩ | ⟨p, h1, h2, h3, h4⟩
  · refine .inl ⟨h1, fun m hm => ?_⟩
    by_cases e : m = i
    · exact e ▸ hi
    · exact h2 m (by omega)
  · refine .inr ⟨p, h1, by omega, h3, fun m hm hT hne => ?_⟩
    by_cases e : m = i
    · exact absurd (e ▸ hi) hT
    · exact h4 m (by omega) hT hne
theorem Best.first {r : Nat → Int} {T : List Nat} {i : Nat} (h : Best r T i (-1)) (hi : i ∉ T) : Best r T (i + 1) (i : Int) := by
  rcases h with ⟨_, h2⟩ | ⟨p, h1, _⟩
  · refine .inr ⟨i, rfl, by omega, hi, fun m hm hT hne => absurd (h2 m (by omega)) hT⟩
  · omega
theorem Best.keep {r : Nat → Int} {T : List Nat} {i p : Nat} (h : Best r T i (p : Int)) (hb : ¬ before r i p) : Best r T (i + 1) (p : Int) := by
  rcases h with ⟨h1, _⟩ | ⟨q, h1, h2, h3, h4⟩
  · omega
  · obtain rfl : p = q := by omega
    refine .inr ⟨p, rfl, by omega, h3, fun m hm hT hne => ?_⟩
    by_cases e : m = i
    · subst e
      unfold before at *
      omega
    · exact h4 m (by omega) hT hne
theorem Best.turn {r : Nat → Int} {T : List Nat} {i p : Nat} (h : Best r T i (p : Int)) (hi : i ∉ T) (hb : before r i p) : Best r T (i + 1) (i : Int) := by
  rcases h with ⟨h1, _⟩ | ⟨q, h1, h2, h3, h4⟩
  · omega
  · obtain rfl : p = q := by omega
    refine .inr ⟨i, rfl, by omega, hi, fun m hm hT hne => ?_⟩
    by_cases e : m = p
    · exact e ▸ hb
    · have := h4 m (by omega) hT e
      unfold before at *
      omega
instance (r : Nat → Int) (a b : Nat) : Decidable (before r a b) := by unfold before; infer_instance
theorem more_eq (r : Nat → Int) (n i p : Nat) (hi : i < n) (hp : p < n) : purflingref01_more.f (rests r n) i p = some (decide (before r i p)) := by
  have hl : ((rests r n).length : Int) = n := by simp [rests]
  unfold purflingref01_more.f
  rw [rests_at r n i hi, rests_at r n p hp, hl, if_pos (by omega), if_pos (by omega), if_pos (by omega), if_pos (by omega)]
  by_cases c : r i = r p
  · rw [if_pos c]
    congr 1
    rw [decide_eq_decide]
    unfold before
    omega
  · rw [if_neg c]
    congr 1
    rw [decide_eq_decide]
    unfold before
    omega
theorem scan (l out : List Int) (r : Nat → Int) (T : List Nat) (x10 : Int) (R : List Int × Int) (n : Nat) (hn : n ≤ 10000) (hl : l.length = n) (ho : out.length = n)
    (hend : ∀ p : Nat, p < n → p ∉ T → (∀ m, m < n → m ∉ T → m ≠ p → before r p m) →
      Ev (fun k => purflingref01_Share.l2 k l (out.set p (wrap64 (rd out p + 1))) (rests r n) (wrap64 (x10 - 1)) ((flags T n).set p true)) R)
    (some_left : ∃ m, m < n ∧ m ∉ T) :
    ∀ (d i : Nat) (b : Int), i + d = n → Best r T i b → Ev (fun k => purflingref01_Share.l3 k l out (rests r n) x10 (flags T n) b (i : Int)) R
  | 0, i, b, hi, hb => by
    obtain rfl : i = n := by omega
    refine Ev.step (f := fun k => _) (fun k => by rw [purflingref01_Share.l3]) ?_
    refine Ev.neg (by omega) ?_
    rcases hb with ⟨h1, h2⟩ | ⟨p, rfl, h2, h3, h4⟩
    · obtain ⟨m, hm, hT⟩ := some_left
      exact absurd (h2 m hm) hT
    · refine Ev.pos (by omega) (Ev.pos (by rw [flags_length]; omega) (Ev.pos (by omega) ?_))
      rw [Int.toNat_natCast]
      exact hend p h2 h3 h4
  | d + 1, i, b, hi, hb => by
    have c1 : (i : Int) < (l.length : Int) := by omega
    have c2 : (0 : Int) ≤ (i : Int) := by omega
    have c3 : (i : Int) < ((flags T n).length : Int) := by rw [flags_length]; omega
    have e : wrap64 ((i : Int) + 1) = ((i + 1 : Nat) : Int) := by rw [wrap_id (by omega) (by omega)]; rfl
    have hin : i < n := by omega
    refine Ev.step (f := fun k => _) (fun k => by rw [purflingref01_Share.l3]) ?_
    refine Ev.pos c1 (Ev.pos c2 (Ev.pos c3 ?_))
    rw [e, flags_at T n i hin]
    by_cases c : i ∈ T
    · refine Ev.pos (by simpa using c) ?_
      exact scan l out r T x10 R n hn hl ho hend some_left d (i + 1) b (by omega) (hb.skip c)
    · refine Ev.neg (by simpa using c) ?_
      by_cases c4 : b < 0
      · have hb' : b = -1 := by
          rcases hb with ⟨h1, _⟩ | ⟨p, h1, _⟩
          · exact h1
          · omega
        subst hb'
        exact Ev.pos c4 (scan l out r T x10 R n hn hl ho hend some_left d (i + 1) i (by omega) (hb.first c))
      · obtain ⟨p, rfl, hp⟩ : ∃ p : Nat, b = p ∧ p < i := by
          rcases hb with ⟨h1, _⟩ | ⟨p, h1, h2, _⟩
          · omega
          · exact ⟨p, h1, h2⟩
        refine Ev.neg c4 (Ev.bind (a := decide (before r i p)) ⟨0, fun _ _ => more_eq r n i p hin (by omega)⟩ ?_)
        by_cases c5 : before r i p
        · exact Ev.pos (by simpa using c5) (scan l out r T x10 R n hn hl ho hend some_left d (i + 1) i (by omega) (hb.turn c c5))
        · exact Ev.neg (by simpa using c5) (scan l out r T x10 R n hn hl ho hend some_left d (i + 1) p (by omega) (hb.keep c5))
theorem rounds (l qs : List Int) (r : Nat → Int) (n : Nat) (hn : n ≤ 10000) (hl : l.length = n) (hq : qs.length = n) (hb : ∀ i (h : i < qs.length), 0 ≤ qs[i] ∧ qs[i] ≤ 1152921504606846976) (m : Nat) (hm : m ≤ n) :
    ∀ (d j : Nat), j + d = m → Ev (fun k => purflingref01_Share.l2 k l (bump ((sortedP r n).toList.take j) qs) (rests r n) (d : Int) (flags ((sortedP r n).toList.take j) n)) (bump ((sortedP r n).toList.take m) qs, 0)
  | 0, j, hj => by
    obtain rfl : j = m := by omega
    refine Ev.step (f := fun k => _) (fun k => by rw [purflingref01_Share.l2]) ?_
    exact Ev.neg (by omega) (Ev.now _)
  | d + 1, j, hj => by
    obtain ⟨hs, hp, _⟩ := sortedP_facts r n
    have hnd : (sortedP r n).toList.Nodup := hp.nodup_iff.2 List.nodup_range
    have hpw := sortedP_pw r n
    have hlen : (sortedP r n).toList.length = n := by simpa using hs
    have ih := rounds l qs r n hn hl hq hb m hm d (j + 1) (by omega)
    generalize (sortedP r n).toList = S at *
    have hjS : j < S.length := by omega
    have hSlt : ∀ x, x ∈ S → x < n := fun x hx => by simpa using hp.mem_iff.1 hx
    have hmem : ∀ x, x < n → x ∈ S := fun x hx => hp.mem_iff.2 (by simpa using hx)
    have hpj : S[j] < n := hSlt _ (List.getElem_mem hjS)
    have hjT : S[j] ∉ S.take j := by
      intro h
      obtain ⟨i, hi, e⟩ := List.mem_take_iff_getElem.1 h
      have := (List.getElem_inj hnd).1 e
      omega
    have hw : wrap64 (((d + 1 : Nat) : Int) - 1) = (d : Int) := by rw [wrap_id (by omega) (by omega)]; omega
    refine Ev.step (f := fun k => _) (fun k => by rw [purflingref01_Share.l2]) ?_
    refine Ev.pos (by omega) ?_
    refine scan l (bump (S.take j) qs) r (S.take j) ((d + 1 : Nat) : Int) _ n hn hl (by rw [bump_length]; exact hq) ?_ ⟨S[j], hpj, hjT⟩ n 0 (-1) (by omega) (.inl ⟨rfl, fun m hm => by omega⟩)
    intro p hp1 hp2 hp3
    have e : p = S[j] := by
      by_cases e : S[j] = p
      · exact e.symm
      · have h1 := hp3 S[j] hpj hjT e
        obtain ⟨i, hi, e2⟩ := List.mem_iff_getElem.1 (hmem p hp1)
        have hij : j < i := by
          rcases Nat.lt_trichotomy i j with h | h | h
          · exact absurd (List.mem_take_iff_getElem.2 ⟨i, by omega, e2⟩) hp2
          · subst h
            exact absurd e2 e
          · exact h
        have h2 := List.pairwise_iff_getElem.1 hpw j i hjS hi hij
        rw [e2] at h2
        exact before_asymm r _ _ h1 h2
    subst e
    have hrd : rd (bump (S.take j) qs) ((S[j] : Nat) : Int) = qs[S[j]]'(by omega) := by
      rw [rd_nat, List.getElem?_eq_getElem (by rw [bump_length]; omega), Option.getD_some, bump_get _ _ _ (by omega), if_neg hjT, Int.add_zero]
    have hq1 := hb S[j] (by omega)
    rw [hrd, wrap_id (by omega) (by omega), hw, bump_set _ _ _ (by omega) hjT, flags_set]
    have e3 : S.take (j + 1) = S.take j ++ [S[j]] := List.take_succ_eq_append_getElem hjS
    rw [e3] at ih
    exact ih
/-! The loops ahead of it. -/
theorem shares_l (total : Int) (l : List Int) (f : Facts total l) (R : List Int × Int)
    (hend : Ev (fun k => purflingref01_Share.l2 k l ((List.range l.length).map (qOf total l)) (rests (rOf total l) l.length) (total - qSum total l) (flags [] l.length)) R) :
    ∀ (d i : Nat), i + d = l.length → Ev (fun k => purflingref01_Share.l1 k total l l.sum ((List.range i).map (qOf total l)) ((List.range i).map (rOf total l)) (total - ((List.range i).map (qOf total l)).sum) (i : Int)) R
  | 0, i, hi => by
    obtain rfl : i = l.length := by omega
    have hn := f.may.2.2.2
    refine Ev.step (f := fun k => _) (fun k => by rw [purflingref01_Share.l1]) ?_
    refine Ev.neg (by omega) (Ev.pos (by omega) (Ev.pos (by omega) ?_))
    have e : flags [] l.length = List.replicate ((l.length : Int)).toNat false := by
      unfold flags
      apply List.ext_getElem <;> simp
    rw [← e]
    exact hend
  | d + 1, i, hi => by
    have hn := f.may.2.2.2
    have ht0 := f.may.1
    have ht1 := f.may.2.1
    have c1 : (i : Int) < (l.length : Int) := by omega
    have c2 : (0 : Int) ≤ (i : Int) := by omega
    have hin : i < l.length := by omega
    have hpos := f.pos
    have hlen : l.length ≤ 10000 := by omega
    have hr : ∀ g : Nat → Int, ((List.range i).map g).length < 17592186044416 := fun g => by
      rw [List.length_map, List.length_range]
      omega
    have e : wrap64 ((i : Int) + 1) = ((i + 1 : Nat) : Int) := by rw [wrap_id (by omega) (by omega)]; rfl
    obtain ⟨hi', lo, k0, hm, hd⟩ := (partQ_of total l hlen f.good ht0 ht1 (by omega)).mul i hin
    rw [sumU_eq l hlen f.good] at hd
    have hq := f.q0 i
    have hw : wrap64 (qOf total l i) = qOf total l i := wrap_id (by omega) (by omega)
    have ih := shares_l total l f R hend d (i + 1) (by omega)
    rw [List.range_succ, List.map_append, List.map_append, List.sum_append] at ih
    have hps : ((List.range i).map (qOf total l)).sum ≤ total := by
      have h1 : ((List.range l.length).map (qOf total l)).sum = ((List.range i).map (qOf total l)).sum + (((List.range l.length).drop i).map (qOf total l)).sum := by
        have e2 : List.range l.length = List.range i ++ (List.range l.length).drop i := by
          have := List.take_append_drop i (List.range l.length)
          rw [List.take_range, Nat.min_eq_left (by omega)] at this
          exact this.symm
        rw [← List.sum_append, ← List.map_append, ← e2]
      have h2 := sum_nonneg' (qOf total l) ((List.range l.length).drop i) (fun i _ => (f.q0 i).1)
      have h3 := f.rest.1
      unfold qSum at h3
      omega
    have hps0 := sum_nonneg' (qOf total l) (List.range i) (fun i _ => (f.q0 i).1)
    have hw2 : wrap64 (total - ((List.range i).map (qOf total l)).sum - qOf total l i) = total - (((List.range i).map (qOf total l)).sum + ([i].map (qOf total l)).sum) := by
      rw [wrap_id (by omega) (by omega)]
      simp
      omega
    have hrd : rd l (i : Int) = l[i] := by rw [rd_nat, List.getElem?_eq_getElem hin]; rfl
    refine Ev.step (f := fun k => _) (fun k => by rw [purflingref01_Share.l1]) ?_
    rw [hrd]
    refine Ev.pos c1 (Ev.pos c2 (Ev.bind (a := (hi', lo)) ⟨0, fun _ _ => hm⟩ (Ev.bind (a := (qOf total l i, rOf total l i)) (Ev.of (bits_Div64.mono _ _ _) (k := k0) hd) (Ev.pos (hr _) (Ev.pos (hr _) ?_)))))
    rw [hw, hw2, e]
    exact ih
theorem wsum_take (l : List Int) (i : Nat) (h : i < l.length) : (l.take (i + 1)).sum = (l.take i).sum + l[i] := by
  rw [List.take_succ_eq_append_getElem h, List.sum_append]
  simp
theorem weights_l (total : Int) (l : List Int) (hlen : l.length ≤ 10000) (R : List Int × Int)
    (hbad : (l.any badW = true) → R = ([], 10))
    (hend : ¬ (l.any badW = true) → Ev (fun k => purflingref01_Share.l0 k total l l.sum (l.length : Int)) R) :
    ∀ (d i : Nat), i + d = l.length → (∀ x ∈ l.take i, 0 ≤ x ∧ x ≤ 1125899906842623) → Ev (fun k => purflingref01_Share.l0 k total l (l.take i).sum (i : Int)) R
  | 0, i, hi, hg => by
    obtain rfl : i = l.length := by omega
    rw [List.take_length] at hg ⊢
    refine hend ?_
    intro hb
    obtain ⟨x, hx, hb⟩ := List.any_eq_true.1 hb
    have := hg x hx
    unfold badW at hb
    rw [Bool.or_eq_true, decide_eq_true_iff, decide_eq_true_iff] at hb
    omega
  | d + 1, i, hi, hg => by
    have c1 : (i : Int) < (l.length : Int) := by omega
    have c2 : (0 : Int) ≤ (i : Int) := by omega
    have hin : i < l.length := by omega
    have hrd : rd l (i : Int) = l[i] := by rw [rd_nat, List.getElem?_eq_getElem hin]; rfl
    have e : wrap64 ((i : Int) + 1) = ((i + 1 : Nat) : Int) := by rw [wrap_id (by omega) (by omega)]; rfl
    refine Ev.step (f := fun k => _) (fun k => by rw [purflingref01_Share.l0]) ?_
    rw [hrd, e]
    have any_at : badW l[i] = true → l.any badW = true := fun h => List.any_eq_true.2 ⟨_, List.getElem_mem hin, h⟩
    refine Ev.pos c1 (Ev.pos c2 ?_)
    by_cases c3 : l[i] < 0
    · refine Ev.pos c3 (Ev.val (hbad (any_at ?_)).symm)
      unfold badW
      rw [decide_eq_true c3]
      rfl
    refine Ev.neg c3 ?_
    by_cases c4 : l[i] ≥ 1125899906842624
    · refine Ev.pos c4 (Ev.val (hbad (any_at ?_)).symm)
      unfold badW
      rw [decide_eq_true (by omega : l[i] > 1125899906842623), Bool.or_true]
    refine Ev.neg c4 ?_
    have hs := sum_le 1125899906842623 (l.take i) (fun x hx => (hg x hx).2)
    have hs0 := sum_nonneg (l.take i) (fun x hx => (hg x hx).1)
    have hl : (l.take i).length ≤ 10000 := by rw [List.length_take]; omega
    have ih := weights_l total l hlen R hbad hend d (i + 1) (by omega) (fun x hx => by
      rw [List.take_succ_eq_append_getElem hin, List.mem_append, List.mem_singleton] at hx
      rcases hx with hx | rfl
      · exact hg x hx
      · omega)
    rw [wsum_take l i hin] at ih
    rw [w64_id (n := l[i]) (by omega) (by omega), w64_id (by omega) (by omega)]
    exact ih
/-- Both Shares are one. -/
theorem share_both (total : Int) (l : List Int) (hl : l.length ≤ 10000) : ∃ o e, fixed_Share.f total l = some (o, e) ∧ o.length ≤ 10000 ∧ Ev (fun k => purflingref01_Share.f k total l) (o, e) := by
  by_cases h : mayShare total l.length
  · have hs : ∀ R, Ev (fun k => purflingref01_Share.l0 k total l 0 0) R → Ev (fun k => purflingref01_Share.f k total l) R := by
      intro R hR
      unfold purflingref01_Share.f
      simp only [shared_eq, Option.bind_some, h, decide_true, if_true]
      exact hR
    by_cases hb : l.any badW = true
    · refine ⟨[], 10, ?_, by simp, hs _ ?_⟩
      · unfold fixed_Share.f
        rw [if_pos h, if_pos hb]
      · have := weights_l total l hl ([], 10) (fun _ => rfl) (fun h => absurd hb h) l.length 0 (by omega) (by simp)
        rwa [List.take_zero] at this
    · have hg := good_of l hb
      have start : ∀ R, Ev (fun k => purflingref01_Share.l0 k total l l.sum (l.length : Int)) R → Ev (fun k => purflingref01_Share.f k total l) R := by
        intro R hR
        have := weights_l total l hl R (fun h => absurd h hb) (fun _ => hR) l.length 0 (by omega) (by simp)
        rw [List.take_zero] at this
        exact hs _ this
      by_cases c : l.sum = 0
      · obtain ⟨o, e, h1, h2, h3⟩ := even_both total l.length
        have h4 : fixed_Share.f total l = some (o, e) := by
          rw [← h1]
          unfold fixed_Share.f fixed_Even.f
          rw [if_pos h, if_neg hb, if_pos c, if_pos h, Int.toNat_natCast]
        refine ⟨o, e, h4, h2, start _ ?_⟩
        refine Ev.step (f := fun k => _) (fun k => by rw [purflingref01_Share.l0]) ?_
        exact Ev.neg (by omega) (Ev.pos c (Ev.bind h3 (Ev.now _)))
      · have hp := sum_nonneg l (fun x hx => (hg x hx).1)
        have f : Facts total l := ⟨h, hg, by omega⟩
        have h4 : fixed_Share.f total l = some (shareOut total l, 0) := by
          unfold fixed_Share.f
          rw [if_pos h, if_neg hb, if_neg c]
        obtain ⟨r0, r1, _⟩ := f.rest
        refine ⟨_, _, h4, ?_, start _ ?_⟩
        · rw [f.share, bump_length]
          simpa using hl
        · refine Ev.step (f := fun k => _) (fun k => by rw [purflingref01_Share.l0]) ?_
          refine Ev.neg (by omega) (Ev.neg c ?_)
          have hgo := fun x => shares_l total l f (shareOut total l, 0) x l.length 0 (by omega)
          rw [show ((List.range 0).map (qOf total l)).sum = 0 from rfl, Int.sub_zero] at hgo
          refine hgo ?_
          have := rounds l ((List.range l.length).map (qOf total l)) (rOf total l) l.length hl rfl (by simp) (fun i hi => by
            have hq := f.q0 i
            have ht := h.2.1
            simp only [List.getElem_map, List.getElem_range]
            omega) (total - qSum total l).toNat (by omega) (total - qSum total l).toNat 0 (by omega)
          rw [List.take_zero, bump_nil, ← f.share] at this
          have e : (((total - qSum total l).toNat : Nat) : Int) = total - qSum total l := by omega
          rw [e] at this
          exact this
  · refine ⟨[], 10, ?_, by simp, ?_⟩
    · unfold fixed_Share.f
      rw [if_neg h]
    · unfold purflingref01_Share.f
      simp only [shared_eq, Option.bind_some, h, decide_false]
      exact Ev.now _
end Go.Proofs.Ytgghbmhmpkeccaa.Base
