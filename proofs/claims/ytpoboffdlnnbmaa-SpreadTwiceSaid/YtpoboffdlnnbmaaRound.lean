/- A region that draws its order, within a round of a loop over a function: what is shown of it outside a fence holds there. Condition: no operation defers, nothing is let out. -/
import Derived.StillTail
import Derived.StillTailTactics
import Derived.OrdersIn
import Derived.RangeFuncNested
import Derived.Stop.RegionWithIn
import Derived.BigQuiet
import Derived.Deep.Draws
namespace Go.Proofs.Ytpoboffdlnnbmaa.Round
open Go
variable {P : Program} {Q : Exit → Act → World → Prop} {n lr : Nat}
def noDefer (o : Oper) : Bool := match o.op with
  | .defer _ => false
  | _ => true
theorem noDefer_ne {o : Oper} (h : noDefer o = true) : ∀ c, o.op ≠ .defer c := by
  intro c e
  unfold noDefer at h
  rw [e] at h
  cases h
theorem calls_round {f : FuncId} {args : Array Value} {w : World} {R : Ending → World → Prop} (h : Calls P f args w R) : CallsIn (Fence.wide.inRound lr) n P f args w R := callsIn_wide.2 h
theorem rows_round {row : String} {args : Array Value} {w : World} {R : Value → World → Prop} (h : Rows P row args w R) : RowsIn (Fence.wide.inRound lr) n P row args w R := fun c cs _ =>
  let ⟨v, w', r, s⟩ := h c cs
  ⟨v, w', r, stepsIn_wide.2 s⟩
theorem oper_round {o : Oper} {a : Act} {w : World} {K : Act → World → Prop} (hnd : noDefer o = true) (h : o.wp P a w K Q) : o.wpIn (Fence.wide.inRound lr) n P a w K Q := by
  refine ⟨fun _ _ => trivial, ?_⟩
  rw [Oper.semAt_eq _ _ _ (noDefer_ne hnd)]
  unfold Oper.wp at h
  generalize (execOp a.eval o).run P w = r at h ⊢
  match r, h with
  | .ok (.value v) w', h => exact h
  | .ok .skip w', h => exact h
  | .ok (.defer d) w', h => exact h
  | .ok (.enter f args) w', h => exact ⟨(fun e => by cases e), calls_round h⟩
  | .ok (.row row args) w', h => exact ⟨(fun e => by cases e), rows_round h⟩
  | .halt (.panic v) w', h => exact h
theorem any_round {md : Region.Mode} {ops : Array Oper} (hno : ¬ LetsOut Q) (hnd : ∀ (i : Nat) (o : Oper), ops[i]? = some o → noDefer o = true) : ∀ (fuel : Nat) (listed : Array Bool) (a : Act) (w : World), wpAny P md ops Q fuel listed a w → wpAnyIn (Fence.wide.inRound lr) n P md ops Q fuel listed a w
  | 0, _, _, _, h => h
  | fuel + 1, listed, a, w, h => by
    refine ⟨h.1, fun i hi => ?_⟩
    have hop := h.2 i hi
    unfold wpOp at hop
    unfold wpOpIn
    cases ho : ops[i]? with
    | none =>
      rw [ho] at hop
      exact any_round hno hnd fuel _ a w hop
    | some o =>
      rw [ho] at hop
      dsimp only at hop ⊢
      by_cases hw : Region.wanted o (yielded ops a.tmps) = true
      · rw [if_pos hw] at hop ⊢
        rcases hop with hop | ⟨_, hl⟩
        · exact Oper.wpIn_mono (fun a' w' h' => any_round hno hnd fuel _ a' w' h') (oper_round (hnd i o ho) hop)
        · exact absurd hl hno
      · rw [if_neg hw] at hop ⊢
        exact ⟨fun _ _ => trivial, any_round hno hnd fuel _ _ w hop⟩
/-- Only reads and quiet calls ahead of the operation number m: one walk. -/
theorem region_round {id : Nat} {a : Act} {w : World} {l : List Oper} (m : Nat) (hm : P.follows .mixedOrders = true) (hnd : l.all noDefer = true) (hno : ¬ LetsOut Q) (hB : Region.lexTailB .any l.toArray m = true)
    (h : wpStill P l.toArray { w with drawn := w.drawn + 1 } (fun a' => wpList P l.toArray Q (l.drop m) a' { w with drawn := w.drawn + 1 }) (l.take m) a) : (Code.region id l.toArray true).wpIn (Fence.wide.inRound lr) n P Q a w := by
  simp only [Region.lexTailB, Bool.and_eq_true, decide_eq_true_eq] at hB
  obtain ⟨⟨⟨⟨hsel, hn⟩, hs⟩, hc⟩, hlex⟩ := hB
  have htl : (l.take m).length = m := by simp at hn ⊢; omega
  have hdl : (l.drop m).length = l.toArray.size - m := by simp
  have inv0 : HeadInv .any l.toArray m (Array.replicate l.toArray.size false) :=
    ⟨by simp, fun j oj _ hl => (by rw [getD_replicate_false] at hl; cases hl), fun t _ ht => getD_in (by simpa using ht) (getD_replicate_false _ _)⟩
  have H := wpAnyL_lex (md := .any) (g := l.toArray.size - m) hsel hs hc hn (l.take m) 0 _ a (fun j hj => by
    rw [htl] at hj
    simp [hj]) (by simpa using htl) inv0 (by rw [htl]; exact hlex) h
  have hall := wpAny_of_head (Q' := Q) (g := l.toArray.size - m) (fun listed a' hL => by
    have := wpAny_of_seq (md := .any) (Q' := Q) (l.drop m) m listed a' { w with drawn := w.drawn + 1 } (fun j => by simp [List.getElem?_drop]) (by rw [hdl]; exact hL.1) hL.2
    rwa [hdl] at this) _ _ _ H
  rw [htl, show m + (l.toArray.size - m) = l.toArray.size by omega] at hall
  refine wpIn_region_any hm (any_round hno (fun i o ho => ?_) _ _ _ _ hall)
  have ho' : l[i]? = some o := by simpa using ho
  exact List.all_eq_true.1 hnd o (List.mem_of_getElem? ho')
/-- An operation that calls nothing. -/
def plainOp (o : Oper) : Bool := match o.op with
  | .move _ => true
  | .assign _ => true
  | .load _ _ => true
  | .slice _ _ _ _ _ => true
  | .fieldAddr _ _ _ => true
  | .indexAddr _ _ _ => true
  | .binOp _ _ _ _ _ => true
  | .unOp _ _ _ => true
  | _ => false
theorem value_run (s : Sem Value) (w : World) (f : FuncId) (args : Array Value) (w' : World) : (do pure (Next.value (← s)) : Sem Next).run P w ≠ .ok (.enter f args) w' := by
  simp only [Sem.run_bind]
  cases s.run P w with
  | ok v w1 => simp [Result.andThen, Sem.run_pure]
  | halt x w1 => simp [Result.andThen]
theorem plain_run {o : Oper} (h : plainOp o = true) (ρ : Operand → Value) (w : World) (f : FuncId) (args : Array Value) (w' : World) : (execOp ρ o).run P w ≠ .ok (.enter f args) w' := by
  unfold plainOp at h
  unfold execOp
  split at h
  all_goals first | cases h | skip
  all_goals rename_i e; rw [e]; dsimp only
  all_goals first | exact value_run _ _ _ _ _ | (simp [Sem.run_pure])
theorem still_of_quiet {ops : Array Oper} {C : World → Prop} {w : World} {L : Act → Prop} (hC : C w) : ∀ (l : List Oper) (a : Act), l.all plainOp = true → wpQuiet P ops C L l a → wpStill P ops w L l a
  | [], _, _, h => h
  | o :: rest, a, hp, h => by
    rw [List.all_cons, Bool.and_eq_true] at hp
    unfold wpQuiet at h
    unfold wpStill
    by_cases hw : Region.wanted o (yielded ops a.tmps) = true
    · rw [if_pos hw] at h ⊢
      obtain ⟨v, h1, h2⟩ := h
      have h3 := h1 w hC
      have hne := plain_run (P := P) hp.1 a.eval w
      unfold Oper.quietAt at h3
      unfold Oper.still
      generalize (execOp a.eval o).run P w = r at h3 hne ⊢
      match r, h3, hne with
      | .ok (.value u) w', h3, _ => exact ⟨h3.1, h3.2 ▸ still_of_quiet hC rest _ hp.2 h2⟩
      | .ok .skip w', h3, _ => exact ⟨h3.1, by rw [h3.2] at h2; exact still_of_quiet hC rest _ hp.2 h2⟩
      | .ok (.enter f args) w', _, hne => exact absurd rfl (hne f args w')
    · rw [if_neg hw] at h ⊢
      exact still_of_quiet hC rest _ hp.2 h
/-- .. by the cheap steps. -/
theorem region_round_quiet {id : Nat} {a : Act} {w : World} {l : List Oper} (m : Nat) (hm : P.follows .mixedOrders = true) (hnd : l.all noDefer = true) (hno : ¬ LetsOut Q) (hp : (l.take m).all plainOp = true) (hB : Region.lexTailB .any l.toArray m = true)
    (h : wpQuiet P l.toArray (fun w' => ∃ n, w' = w.drewN n) (fun a' => wpList P l.toArray Q (l.drop m) a' w.drew) (l.take m) a) : (Code.region id l.toArray true).wpIn (Fence.wide.inRound lr) n P Q a w :=
  region_round m hm hnd hno hB (still_of_quiet (w := w.drew) ⟨1, rfl⟩ (l.take m) a hp h)
end Go.Proofs.Ytpoboffdlnnbmaa.Round
