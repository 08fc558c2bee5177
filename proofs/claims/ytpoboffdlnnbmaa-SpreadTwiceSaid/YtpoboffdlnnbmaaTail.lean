/- A region that draws its order: reads and quiet calls ahead of the operation number m, the rest one behind the other: one walk (outside of a fence). -/
import Derived.Test.YtpoboffdlnnbmaaRound
namespace Go.Proofs.Ytpoboffdlnnbmaa.Round
open Go
variable {P : Program} {Q : Exit → Act → World → Prop}
theorem region_tail {id : Nat} {a : Act} {w : World} {l : List Oper} (m : Nat) (hm : P.follows .mixedOrders = true) (hp : (l.take m).all plainOp = true) (hB : Region.lexTailB .any l.toArray m = true)
    (h : wpQuiet P l.toArray (fun w' => ∃ n, w' = w.drewN n) (fun a' => wpList P l.toArray Q (l.drop m) a' w.drew) (l.take m) a) : (Code.region id l.toArray true).wp P Q a w := by
  have h := still_of_quiet (w := w.drew) ⟨1, rfl⟩ (l.take m) a hp h
  simp only [Region.lexTailB, Bool.and_eq_true, decide_eq_true_eq] at hB
  obtain ⟨⟨⟨⟨hsel, hn⟩, hs⟩, hc⟩, hlex⟩ := hB
  have htl : (l.take m).length = m := by simp at hn ⊢; omega
  have hdl : (l.drop m).length = l.toArray.size - m := by simp
  have inv0 : HeadInv .any l.toArray m (Array.replicate l.toArray.size false) :=
    ⟨by simp, fun j oj _ hl => (by rw [getD_replicate_false] at hl; cases hl), fun t _ ht => getD_in (by simpa using ht) (getD_replicate_false _ _)⟩
  have H := wpAnyL_lex (md := .any) (g := l.toArray.size - m) hsel hs hc hn (l.take m) 0 _ a (fun j hj => by
    rw [htl] at hj
    simp [hj]) (by simpa using htl) inv0 (by rw [htl]; exact hlex) h
  have hall := wpAny_of_head (Q' := Q) (g := l.toArray.size - m) (fun listed a' hL => by
    have := wpAny_of_seq (md := .any) (Q' := Q) (l.drop m) m listed a' w.drew (fun j => by simp [List.getElem?_drop]) (by rw [hdl]; exact hL.1) hL.2
    rwa [hdl] at this) _ _ _ H
  rw [htl, show m + (l.toArray.size - m) = l.toArray.size by omega] at hall
  exact wp_region_any hm hall
/-- One operation, as a list of operations shows it. -/
def withK (K : Act → World → Prop) (Q : Exit → Act → World → Prop) : Exit → Act → World → Prop
  | .normal, a, w => K a w
  | .exit i, a, w => Q (.exit i) a w
  | .ret, a, w => Q .ret a w
  | .goto l, a, w => Q (.goto l) a w
  | .panic c, a, w => Q (.panic c) a w
  | .outgrown, a, w => Q .outgrown a w
theorem list_oper {K : Act → World → Prop} {o : Oper} {a : Act} {w : World} (h : o.wp P a w K (withK K Q)) : o.wp P a w K Q := by
  unfold Oper.wp at h ⊢
  generalize (execOp a.eval o).run P w = r at h ⊢
  match r, h with
  | .ok (.value v) w', h => exact h
  | .ok .skip w', h => exact h
  | .ok (.defer d) w', h => exact h
  | .ok (.enter f args) w', h => exact Calls.mono h (fun e w' h => by cases e <;> exact h)
  | .ok (.row row args) w', h => exact h
  | .halt (.panic v) w', h => exact h
theorem ready_list {md : Region.Mode} {ops : Array Oper} {fuel i : Nat} {listed : Array Bool} {a : Act} {w : World} {o : Oper} (hr : Region.ready md ops listed = [i]) (ho : ops[i]? = some o) (hw : Region.wanted o (yielded ops a.tmps) = true)
    (h : ∀ K : Act → World → Prop, (∀ a w, wpAny P md ops Q fuel (listed.setIfInBounds i true) a w → K a w) → wpList P ops (withK K Q) [o] a w) : wpAny P md ops Q (fuel + 1) listed a w := by
  refine wpAny_all hr (by simp) (fun j hj => ?_)
  obtain rfl : j = i := by simpa using hj
  have h := h _ (fun _ _ h => h)
  unfold wpList at h
  unfold wpOp
  rw [ho]
  dsimp only
  rw [if_pos hw] at h ⊢
  rcases h with h | ⟨h1, h2⟩
  · exact .inl (list_oper h)
  · exact .inr ⟨h1, h2⟩
/-- .. or the greater of numbers. -/
def maxOp (o : Oper) : Bool := match o.op with
  | .call c => match c.callee with
    | .builtin .max => true
    | _ => false
  | _ => false
def plainOpM (o : Oper) : Bool := plainOp o || maxOp o
theorem max_run {o : Oper} (h : maxOp o = true) (ρ : Operand → Value) (w : World) (f : FuncId) (args : Array Value) (w' : World) : (execOp ρ o).run P w ≠ .ok (.enter f args) w' := by
  unfold maxOp at h
  split at h
  case h_2 => cases h
  rename_i c e
  split at h
  case h_2 => cases h
  rename_i e2
  unfold execOp
  rw [e]
  simp only [resolve, e2, invoke, builtin, Sem.run_bind, Sem.run_pure, Result.andThen_ok]
  generalize Sem.run P (Builtin.max_ c.argTypes o.type (Array.map ρ c.args)) w = r
  cases r with
  | ok v w1 => simp [Result.andThen]
  | halt x w1 => simp [Result.andThen]
theorem plain_runM {o : Oper} (h : plainOpM o = true) (ρ : Operand → Value) (w : World) (f : FuncId) (args : Array Value) (w' : World) : (execOp ρ o).run P w ≠ .ok (.enter f args) w' := by
  unfold plainOpM at h
  rw [Bool.or_eq_true] at h
  rcases h with h | h
  · exact plain_run h ρ w f args w'
  · exact max_run h ρ w f args w'
theorem still_of_quietM {ops : Array Oper} {C : World → Prop} {w : World} {L : Act → Prop} (hC : C w) : ∀ (l : List Oper) (a : Act), l.all plainOpM = true → wpQuiet P ops C L l a → wpStill P ops w L l a
  | [], _, _, h => h
  | o :: rest, a, hp, h => by
    rw [List.all_cons, Bool.and_eq_true] at hp
    unfold wpQuiet at h
    unfold wpStill
    by_cases hw : Region.wanted o (yielded ops a.tmps) = true
    · rw [if_pos hw] at h ⊢
      obtain ⟨v, h1, h2⟩ := h
      have h3 := h1 w hC
      have hne := plain_runM (P := P) hp.1 a.eval w
      unfold Oper.quietAt at h3
      unfold Oper.still
      generalize (execOp a.eval o).run P w = r at h3 hne ⊢
      match r, h3, hne with
      | .ok (.value u) w', h3, _ => exact ⟨h3.1, h3.2 ▸ still_of_quietM hC rest _ hp.2 h2⟩
      | .ok .skip w', h3, _ => exact ⟨h3.1, by rw [h3.2] at h2; exact still_of_quietM hC rest _ hp.2 h2⟩
      | .ok (.enter f args) w', _, hne => exact absurd rfl (hne f args w')
    · rw [if_neg hw] at h ⊢
      exact still_of_quietM hC rest _ hp.2 h
theorem region_round_quietM {n lr : Nat} {id : Nat} {a : Act} {w : World} {l : List Oper} (m : Nat) (hm : P.follows .mixedOrders = true) (hnd : l.all noDefer = true) (hno : ¬ LetsOut Q) (hp : (l.take m).all plainOpM = true) (hB : Region.lexTailB .any l.toArray m = true)
    (h : wpQuiet P l.toArray (fun w' => ∃ n, w' = w.drewN n) (fun a' => wpList P l.toArray Q (l.drop m) a' w.drew) (l.take m) a) : (Code.region id l.toArray true).wpIn (Fence.wide.inRound lr) n P Q a w :=
  region_round m hm hnd hno hB (still_of_quietM (w := w.drew) ⟨1, rfl⟩ (l.take m) a hp h)
end Go.Proofs.Ytpoboffdlnnbmaa.Round
