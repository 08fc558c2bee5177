-- MADE by wip/tools/xprint.py of this repo: the kit's print.py, turned by this session, and texts by hand
import Derived.Test.YtpoboffdlnnbmaaPAx0
namespace Go.Proofs.Ytpoboffdlnnbmaa.PA
open Go.RowKit Go.Proofs.YtpoboffdlnnbmaaW.PrintWords Go.Proofs.YtpoboffdlnnbmaaW.PrintLast Go.Proofs.YtpoboffdlnnbmaaW.PrintMore
attribute [local go_sem] max2_int min2_int max_two min_two max_three min_three max_four min_four   -- for this text's walks alone
set_option linter.unusedVariables false
set_option linter.unusedSimpArgs false

-- BY HAND: stabneed.tpl
end Go.Proofs.Ytpoboffdlnnbmaa.PA
namespace Go.Proofs
open Go.Shelf
def Try.insNeed_ren : Go.Shelf.Ren := ⟨fun | 20 => 72 | n => n, fun | 24 => 53 | 22 => 23 | 3 => 3 | 25 => 79 | 4 => 4 | 0 => 0 | n => n, fun | n => n⟩
theorem Try.insNeed : Go.Proofs.SlLaysF0.n20 Try.prog Try.insNeed_ren := {
  mixed := by kernel_rfl
  f20 := ⟨Try.f72.name, by decide, Try.func72.trans (congrArg some (by kernel_rfl))⟩
  t0 := Try.underlying0
  a0 := Try.isAgg0
  z0 := Try.sizeOf0
  v0 := Try.zeroValue0
  t3 := Try.underlying3
  a3 := Try.isAgg3
  z3 := Try.sizeOf3
  v3 := Try.zeroValue3
  t4 := Try.underlying4
  a4 := Try.isAgg4
  z4 := Try.sizeOf4
  v4 := Try.zeroValue4
  t22 := Try.underlying23
  a22 := Try.isAgg23
  z22 := Try.sizeOf23
  v22 := Try.zeroValue23
  t25 := Try.underlying79
  a25 := Try.isAgg79
  z25 := Try.sizeOf79
  v25 := Try.zeroValue79 }
end Go.Proofs
namespace Go.Proofs.Ytpoboffdlnnbmaa.PA
open Go.RowKit Go.Proofs.YtpoboffdlnnbmaaW.PrintWords Go.Proofs.YtpoboffdlnnbmaaW.PrintLast Go.Proofs.YtpoboffdlnnbmaaW.PrintMore
attribute [local go_sem] max2_int min2_int max_two min_two max_three min_three max_four min_four
set_option linter.unusedVariables false
set_option linter.unusedSimpArgs false
namespace StabNeed
open Go.RowKit Go.Shelf Go.Lib Go.Sort
/-- What a program holds of the stable sort: five functions, their types; an element is of k cells. -/
structure StabL (P : Program) (k : Nat) : Prop where
  mixed : P.follows .mixedOrders = true
  f99 : P.funcs[38]? = some Try.f38
  f120 : P.funcs[62]? = some Try.f62
  f135 : P.funcs[73]? = some Try.f73
  f141 : P.funcs[85]? = some Try.f85
  f143 : P.funcs[91]? = some Try.f91
  t0 : P.underlying 0 = some (TypeDesc.tuple #[])
  a0 : ∀ w, (isAgg 0).run P w = .ok false w
  z0 : ∀ w, (Go.sizeOf 0).run P w = .ok 1 w
  v0 : ∀ w, (zeroValue 0).run P w = .ok (Value.tuple #[]) w
  t3 : P.underlying 3 = some (TypeDesc.int IntKind.i64)
  a3 : ∀ w, (isAgg 3).run P w = .ok false w
  z3 : ∀ w, (Go.sizeOf 3).run P w = .ok 1 w
  v3 : ∀ w, (zeroValue 3).run P w = .ok (Value.int IntKind.i64 0) w
  t4 : P.underlying 4 = some (TypeDesc.bool)
  a4 : ∀ w, (isAgg 4).run P w = .ok false w
  z4 : ∀ w, (Go.sizeOf 4).run P w = .ok 1 w
  v4 : ∀ w, (zeroValue 4).run P w = .ok (Value.bool false) w
  t45 : P.underlying 23 = some (TypeDesc.slice 53)
  a45 : ∀ w, (isAgg 23).run P w = .ok false w
  z45 : ∀ w, (Go.sizeOf 23).run P w = .ok 1 w
  t117 : P.underlying 79 = some (TypeDesc.func #[53, 53] #[3] false)
  a117 : ∀ w, (isAgg 79).run P w = .ok false w
  z117 : ∀ w, (Go.sizeOf 79).run P w = .ok 1 w
  t131 : P.underlying 70 = some (TypeDesc.int IntKind.u64)
  a131 : ∀ w, (isAgg 70).run P w = .ok false w
  z131 : ∀ w, (Go.sizeOf 70).run P w = .ok 1 w
  aE : ∀ w, (isAgg 53).run P w = .ok true w
  zE : ∀ w, (Go.sizeOf 53).run P w = .ok k w
section
variable {α : Type} [Inhabited α]
/-- n exchanges, of one range with another. -/
def swapR (d : Array α) (a b : Nat) : Nat → Array α
  | 0 => d
  | n + 1 => swp (swapR d a b n) (a + n) (b + n)
theorem size_swapR (d : Array α) (a b : Nat) : ∀ n, (swapR d a b n).size = d.size
  | 0 => rfl
  | n + 1 => by rw [swapR, size_swp, size_swapR d a b n]
set_option maxHeartbeats 4000000 in
set_option maxRecDepth 1000000 in
theorem swapRange_calls {P : Program} {k : Nat} (L : StabL P k) (enc : α → List Value) (g : Nat) (cb : Array Value) (blk off cap a b n : Nat) (d0 d : Array α) (w0 w : World) (R : RowK enc k w0 blk off d0) (hs : d0.size = d.size) (S : SWK enc k w0 blk off d w)
    (ha : a + n ≤ d.size) (hb : b + n ≤ d.size) (hsz : d.size < 4611686018427387904) :
    Calls P 91 #[.slice (some ⟨blk, off, none⟩) d.size cap, .int .i64 a, .int .i64 b, .int .i64 n, .func (.func g) #[] cb] w fun e w' => e = .returned (.tuple #[]) ∧ SWK enc k w0 blk off (swapR d a b n) w' := by
  have mixed := L.mixed; have t0 := L.t0; have a0 := L.a0; have z0 := L.z0; have v0 := L.v0; have t3 := L.t3; have a3 := L.a3; have z3 := L.z3; have v3 := L.v3; have t4 := L.t4; have a4 := L.a4; have z4 := L.z4; have v4 := L.v4; have t45 := L.t45; have a45 := L.a45; have z45 := L.z45; have t117 := L.t117; have a117 := L.a117; have z117 := L.z117; have aE := L.aE; have zE := L.zE
  have S0 : Aside (SWK enc k w0 blk off d w) := S
  clear S
  go_enter L.f143, Try.ntmps91
  go_wp2
  go_loopg [10] n (fun kx s10 wr => ∃ i : Nat, s10 = .int .i64 i ∧ i ≤ n ∧ n - i ≤ kx ∧ Aside (SWK enc k w0 blk off (swapR d a b i) wr))
  case atStart => exact ⟨0, rfl, by omega, by omega, S0⟩
  case round =>
    clear S0
    obtain ⟨i, rfl, hi, hkx, S1⟩ := hrel
    by_cases hlt : i < n
    · have hltz : (i : Int) < (n : Int) := by omega
      have hds := size_swapR d a b i
      go_wp2_with fail
      have ea44 : ((a : Int) + (i : Int)).toNat = a + i := by omega
      have pa44 : (0 : Int) ≤ (a : Int) + (i : Int) := by omega
      have ba44 : (a : Int) + (i : Int) < (d.size : Int) := by omega
      have ra44 : IntKind.i64.wrap ((a : Int) + (i : Int)) = (a : Int) + (i : Int) := by rw [IntKind.wrap_i64]; omega
      have ec44 : ((b : Int) + (i : Int)).toNat = b + i := by omega
      have pc44 : (0 : Int) ≤ (b : Int) + (i : Int) := by omega
      have bc44 : (b : Int) + (i : Int) < (d.size : Int) := by omega
      have rc44 : IntKind.i64.wrap ((b : Int) + (i : Int)) = (b : Int) + (i : Int) := by rw [IntKind.wrap_i64]; omega
      have S2 : Aside (SWK enc k w0 blk off (swp (swapR d a b i) (a + i) (b + i)) ((wr.drew.setCells blk (off + (a + i) * k) (enc (swapR d a b i)[b + i]!)).setCells blk (off + (b + i) * k) (enc (swapR d a b i)[a + i]!))) := S1.out.swapped R (a + i) (b + i) (by omega) (by omega)
      have l44a := S1.out.ld1 R (by omega) P (a + i) (by omega)
      have l44b := S1.out.ld1 R (by omega) P (b + i) (by omega)
      have s44a := S1.out.st1 R (by omega) P (a + i) (by omega) (swapR d a b i)[b + i]!
      have s44b := S1.out.st2 R (by omega) P (a + i) (b + i) (by omega) (by omega) (swapR d a b i)[b + i]! (swapR d a b i)[a + i]!
      have n44a : (enc (swapR d a b i)[a + i]!).length = k := R.hk _
      have n44b : (enc (swapR d a b i)[b + i]!).length = k := R.hk _
      generalize enc (swapR d a b i)[a + i]! = cI44 at S2 l44a s44b n44a
      generalize enc (swapR d a b i)[b + i]! = cJ44 at S2 l44b s44a s44b n44b
      clear S1 hds
      go_wp2_with fail
      go_big_region_o
      clear l44a l44b s44a s44b
      generalize (wr.drew.setCells blk (off + (a + i) * k) cJ44).setCells blk (off + (b + i) * k) cI44 = w2 at S2 ⊢
      go_wp2
      go_roundg (n - (i + 1))
      case measure => omega
      case rel => exact ⟨i + 1, by go_num, by omega, Nat.le_refl _, S2⟩
    · obtain rfl : i = n := by omega
      go_wp2
      go_end0
      exact ⟨rfl, S1.out⟩
theorem swapR_get (d : Array α) (a b : Nat) : ∀ (n : Nat), a + n ≤ b → b + n ≤ d.size → ∀ x, (swapR d a b n)[x]! = if a ≤ x ∧ x < a + n then d[x - a + b]! else if b ≤ x ∧ x < b + n then d[x - b + a]! else d[x]!
  | 0, _, _, x => by
    rw [if_neg (by omega), if_neg (by omega)]
    rfl
  | n + 1, h1, h2, x => by
    have hs := size_swapR d a b n
    have ih := swapR_get d a b n (by omega) (by omega)
    rw [swapR, swp_get _ (by omega) (by omega), ih, ih, ih]
    by_cases e1 : x = a + n
    · subst e1
      (repeat' split) <;> first | omega | exact congrArg (fun z => d[z]!) (by omega)
    · by_cases e2 : x = b + n
      · subst e2
        (repeat' split) <;> first | omega | exact congrArg (fun z => d[z]!) (by omega)
      · (repeat' split) <;> first | omega | exact congrArg (fun z => d[z]!) (by omega)
/-- d' is d with two neighbouring ranges, [a, m) and [m, b), in each other's place. -/
structure Rot (d d' : Array α) (a m b : Nat) : Prop where
  size : d'.size = d.size
  at_ : ∀ x, d'[x]! = if a ≤ x ∧ x < a + (b - m) then d[x + (m - a)]! else if a + (b - m) ≤ x ∧ x < b then d[x - (b - m)]! else d[x]!
theorem rot_same {d : Array α} {m i : Nat} (hi : i ≤ m) (hb : m + i ≤ d.size) : Rot d (swapR d (m - i) m i) (m - i) m (m + i) := by
  refine ⟨size_swapR _ _ _ _, fun x => ?_⟩
  rw [swapR_get _ _ _ _ (by omega) hb]
  (repeat' split) <;> first | omega | exact congrArg (fun z => d[z]!) (by omega)
theorem rot_left {d d' : Array α} {m i j : Nat} (hi : i ≤ m) (hb : m + j ≤ d.size) (hj : j < i) (h : Rot (swapR d (m - i) m j) d' (m - (i - j)) m (m + j)) : Rot d d' (m - i) m (m + j) := by
  refine ⟨h.size.trans (size_swapR _ _ _ _), fun x => ?_⟩
  rw [h.at_ x]
  simp only [swapR_get d (m - i) m j (by omega) hb]
  (repeat' split) <;> first | omega | exact congrArg (fun z => d[z]!) (by omega)
theorem rot_right {d d' : Array α} {m i j : Nat} (hi : i ≤ m) (hb : m + j ≤ d.size) (hj : i < j) (h : Rot (swapR d (m - i) (m + j - i) i) d' (m - i) m (m + (j - i))) : Rot d d' (m - i) m (m + j) := by
  refine ⟨h.size.trans (size_swapR _ _ _ _), fun x => ?_⟩
  rw [h.at_ x]
  simp only [swapR_get d (m - i) (m + j - i) i (by omega) (by omega)]
  (repeat' split) <;> first | omega | exact congrArg (fun z => d[z]!) (by omega)
set_option maxHeartbeats 4000000 in
set_option maxRecDepth 1000000 in
theorem rotate_calls {P : Program} {k : Nat} (L : StabL P k) (enc : α → List Value) (g : Nat) (cb : Array Value) (blk off cap a m b : Nat) (d0 d : Array α) (w0 w : World) (R : RowK enc k w0 blk off d0) (hs : d0.size = d.size) (S : SWK enc k w0 blk off d w)
    (ham : a < m) (hmb : m < b) (hb : b ≤ d.size) (hsz : d.size < 4611686018427387904) :
    Calls P 85 #[.slice (some ⟨blk, off, none⟩) d.size cap, .int .i64 a, .int .i64 m, .int .i64 b, .func (.func g) #[] cb] w fun e w' => e = .returned (.tuple #[]) ∧ ∃ d', Rot d d' a m b ∧ SWK enc k w0 blk off d' w' := by
  have mixed := L.mixed; have t0 := L.t0; have a0 := L.a0; have z0 := L.z0; have v0 := L.v0; have t3 := L.t3; have a3 := L.a3; have z3 := L.z3; have v3 := L.v3; have t4 := L.t4; have a4 := L.a4; have z4 := L.z4; have v4 := L.v4; have t45 := L.t45; have a45 := L.a45; have z45 := L.z45; have t117 := L.t117; have a117 := L.a117; have z117 := L.z117
  have e143 : ∀ args w, (callFunc 91 args).run P w = .ok (.enter 91 args) w := enters_of L.f143 (by kernel_rfl) rfl
  have S0 : Aside (SWK enc k w0 blk off d w) := S
  have hcall : ∀ (dk : Array α) (x y n : Nat) (X Y : Int) (W : World), dk.size = d.size → SWK enc k w0 blk off dk W → x + n ≤ d.size → y + n ≤ d.size → (x : Int) = X → (y : Int) = Y →
      Calls P 91 #[.slice (some ⟨blk, off, none⟩) d.size cap, .int .i64 X, .int .i64 Y, .int .i64 n, .func (.func g) #[] cb] W fun e w' => e = .returned (.tuple #[]) ∧ SWK enc k w0 blk off (swapR dk x y n) w' := by
    intro dk x y n X Y W h1 h2 h3 h4 h5 h6
    subst h5 h6
    have := swapRange_calls L enc g cb blk off cap x y n d0 dk w0 W R (by omega) h2 (by omega) (by omega) (by omega)
    rw [h1] at this
    exact this
  have HC := Lib.hid hcall
  clear S hcall
  go_enter L.f141, Try.ntmps85
  go_wp2
  go_loopg [10, 11] (b - a) (fun kx s10 s11 wr => ∃ (i j : Nat) (dk : Array α), s10 = .int .i64 i ∧ s11 = .int .i64 j ∧ 0 < i ∧ 0 < j ∧ i ≤ m - a ∧ j ≤ b - m ∧ i + j ≤ kx ∧ dk.size = d.size ∧ Aside (SWK enc k w0 blk off dk wr) ∧ Hid (∀ d', Rot dk d' (m - i) m (m + j) → Rot d d' a m b))
  case atStart => exact ⟨m - a, b - m, d, by go_num, by go_num, by omega, by omega, by omega, by omega, by omega, rfl, S0, Lib.hid (fun d' h => by rwa [show m - (m - a) = a by omega, show m + (b - m) = b by omega] at h)⟩
  case round =>
    clear S0
    obtain ⟨i, j, dk, rfl, rfl, hi0, hj0, him, hjb, hkx, hds, S1, HR⟩ := hrel
    by_cases c : i = j
    · subst c
      go_wp2_with (go_at_fn 91; refine (HC.out dk (m - i) m i ((m : Int) - (i : Int)) m _ hds S1.out (by omega) (by omega) (by omega) rfl).mono ?_; rintro e w' ⟨rfl, hS⟩; have S2 : Aside (SWK enc k w0 blk off _ w') := hS; clear hS)
      go_end0
      exact ⟨rfl, _, HR.out _ (rot_same (by omega) (by omega)), S2.out⟩
    · have hbne : ((i : Int) != (j : Int)) = true := by simp; omega
      by_cases c2 : j < i
      · have c3 : (i : Int) > (j : Int) := by omega
        go_wp2_with (go_at_fn 91; refine (HC.out dk (m - i) m j ((m : Int) - (i : Int)) m _ hds S1.out (by omega) (by omega) (by omega) rfl).mono ?_; rintro e w' ⟨rfl, hS⟩; have S2 : Aside (SWK enc k w0 blk off _ w') := hS; clear hS)
        go_roundg (i - j + j)
        case measure => omega
        case rel => exact ⟨i - j, j, _, by go_num, rfl, by omega, hj0, by omega, hjb, Nat.le_refl _, (size_swapR _ _ _ _).trans hds, S2, Lib.hid (fun d' h => HR.out d' (rot_left (by omega) (by omega) c2 h))⟩
      · have c3 : ¬ (i : Int) > (j : Int) := by omega
        go_wp2_with (go_at_fn 91; refine (HC.out dk (m - i) (m + j - i) i ((m : Int) - (i : Int)) ((m : Int) + (j : Int) - (i : Int)) _ hds S1.out (by omega) (by omega) (by omega) (by omega)).mono ?_; rintro e w' ⟨rfl, hS⟩; have S2 : Aside (SWK enc k w0 blk off _ w') := hS; clear hS)
        go_roundg (i + (j - i))
        case measure => omega
        case rel => exact ⟨i, j - i, _, rfl, by go_num, hi0, by omega, him, by omega, Nat.le_refl _, (size_swapR _ _ _ _).trans hds, S2, Lib.hid (fun d' h => HR.out d' (rot_right (by omega) (by omega) (by omega) h))⟩
end
/-! The plain law of the stable sort's merges: an element is its number in the row that came; by its key, of equals the lower number first. -/
def lx (key : Nat → Int) (x y : Nat) : Prop := key x < key y ∨ (key x = key y ∧ x < y)
theorem lx_trans {key : Nat → Int} {x y z : Nat} (h1 : lx key x y) (h2 : lx key y z) : lx key x z := by
  unfold lx at *
  omega
def Srt (key : Nat → Int) (d : Array Nat) (a b : Nat) : Prop := ∀ x y, a ≤ x → x < y → y < b → lx key d[x]! d[y]!
/-- All numbers of the one range are below all of the other. -/
def Lows (d : Array Nat) (a m b : Nat) : Prop := ∀ x y, a ≤ x → x < m → m ≤ y → y < b → d[x]! < d[y]!
structure Mrg (key : Nat → Int) (d d' : Array Nat) (a b : Nat) : Prop where
  size : d'.size = d.size
  out : ∀ x, (x < a ∨ b ≤ x) → d'[x]! = d[x]!
  sub : ∀ x, a ≤ x → x < b → ∃ y, a ≤ y ∧ y < b ∧ d'[x]! = d[y]!
  srt : Srt key d' a b
theorem Srt.le {key : Nat → Int} {d : Array Nat} {a b x y : Nat} (h : Srt key d a b) (h1 : a ≤ x) (h2 : x ≤ y) (h3 : y < b) {z : Nat} (hz : lx key d[y]! z) : lx key d[x]! z := by
  rcases Nat.lt_or_eq_of_le h2 with h4 | h4
  · exact lx_trans (h x y h1 h4 h3) hz
  · rw [h4]
    exact hz
theorem Srt.ge {key : Nat → Int} {d : Array Nat} {a b x y : Nat} (h : Srt key d a b) (h1 : a ≤ x) (h2 : x ≤ y) (h3 : y < b) {z : Nat} (hz : lx key z d[x]!) : lx key z d[y]! := by
  rcases Nat.lt_or_eq_of_le h2 with h4 | h4
  · exact lx_trans hz (h x y h1 h4 h3)
  · rw [← h4]
    exact hz
theorem Mrg.same {key : Nat → Int} {d : Array Nat} {a b : Nat} (h : Srt key d a b) : Mrg key d d a b := ⟨rfl, fun _ _ => rfl, fun x h1 h2 => ⟨x, h1, h2, rfl⟩, h⟩
/-- The one first element goes to its place among the others. -/
theorem ins_first {key : Nat → Int} {d d' : Array Nat} {a b i : Nat} (hs : Srt key d (a + 1) b) (hl : Lows d a (a + 1) b) (hi : a + 1 ≤ i) (hib : i ≤ b) (hlo : i = a + 1 ∨ key d[i - 1]! < key d[a]!) (hhi : i = b ∨ ¬ key d[i]! < key d[a]!)
    (hsz : d'.size = d.size) (h : ∀ x, d'[x]! = if a ≤ x ∧ x + 1 < i then d[x + 1]! else if x + 1 = i then d[a]! else d[x]!) : Mrg key d d' a b := by
  have lo : ∀ x, a + 1 ≤ x → x < i → lx key d[x]! d[a]! := by
    intro x h1 h2
    refine hs.le h1 (show x ≤ i - 1 by omega) (by omega) ?_
    rcases hlo with h3 | h3
    · omega
    · exact .inl h3
  have hi' : ∀ y, i ≤ y → y < b → lx key d[a]! d[y]! := by
    intro y h1 h2
    refine hs.ge (show a + 1 ≤ i by omega) h1 h2 ?_
    rcases hhi with h3 | h3
    · omega
    · have := hl a i (Nat.le_refl _) (by omega) (by omega) (by omega)
      unfold lx
      omega
  refine ⟨hsz, fun x hx => ?_, fun x h1 h2 => ?_, fun x y h1 h2 h3 => ?_⟩
  · rw [h x, if_neg (by omega), if_neg (by omega)]
  · rw [h x]
    by_cases c1 : a ≤ x ∧ x + 1 < i
    · rw [if_pos c1]
      exact ⟨x + 1, by omega, by omega, rfl⟩
    · rw [if_neg c1]
      by_cases c2 : x + 1 = i
      · rw [if_pos c2]
        exact ⟨a, by omega, by omega, rfl⟩
      · rw [if_neg c2]
        exact ⟨x, h1, h2, rfl⟩
  · rw [h x, h y]
    by_cases c1 : x + 1 < i
    · rw [if_pos ⟨h1, c1⟩]
      by_cases c2 : y + 1 < i
      · rw [if_pos ⟨by omega, c2⟩]
        exact hs _ _ (by omega) (by omega) (by omega)
      · rw [if_neg (by omega)]
        by_cases c3 : y + 1 = i
        · rw [if_pos c3]
          exact lo _ (by omega) c1
        · rw [if_neg c3]
          exact hs _ _ (by omega) (by omega) h3
    · rw [if_neg (by omega), if_neg (by omega : ¬ (a ≤ y ∧ y + 1 < i)), if_neg (by omega : ¬ y + 1 = i)]
      by_cases c3 : x + 1 = i
      · rw [if_pos c3]
        exact hi' _ (by omega) h3
      · rw [if_neg c3]
        exact hs _ _ (by omega) h2 h3
/-- The one last element goes to its place among the others. -/
theorem ins_last {key : Nat → Int} {d d' : Array Nat} {a m i : Nat} (hs : Srt key d a m) (hl : Lows d a m (m + 1)) (hi : a ≤ i) (him : i ≤ m) (hlo : i = a ∨ ¬ key d[m]! < key d[i - 1]!) (hhi : i = m ∨ key d[m]! < key d[i]!)
    (hsz : d'.size = d.size) (h : ∀ x, d'[x]! = if i < x ∧ x ≤ m then d[x - 1]! else if x = i then d[m]! else d[x]!) : Mrg key d d' a (m + 1) := by
  have lo : ∀ x, a ≤ x → x < i → lx key d[x]! d[m]! := by
    intro x h1 h2
    refine hs.le h1 (show x ≤ i - 1 by omega) (by omega) ?_
    rcases hlo with h3 | h3
    · omega
    · have := hl (i - 1) m (by omega) (by omega) (Nat.le_refl _) (by omega)
      unfold lx
      omega
  have hi' : ∀ y, i ≤ y → y < m → lx key d[m]! d[y]! := by
    intro y h1 h2
    refine hs.ge hi h1 h2 ?_
    rcases hhi with h3 | h3
    · omega
    · exact .inl h3
  refine ⟨hsz, fun x hx => ?_, fun x h1 h2 => ?_, fun x y h1 h2 h3 => ?_⟩
  · rw [h x, if_neg (by omega)]
    by_cases c : x = i
    · omega
    · rw [if_neg c]
  · rw [h x]
    by_cases c1 : i < x ∧ x ≤ m
    · rw [if_pos c1]
      exact ⟨x - 1, by omega, by omega, rfl⟩
    · rw [if_neg c1]
      by_cases c2 : x = i
      · rw [if_pos c2]
        exact ⟨m, by omega, by omega, rfl⟩
      · rw [if_neg c2]
        exact ⟨x, h1, h2, rfl⟩
  · rw [h x, h y]
    by_cases c1 : i < x
    · rw [if_pos ⟨c1, by omega⟩, if_pos ⟨by omega, by omega⟩]
      exact hs _ _ (by omega) (by omega) (by omega)
    · rw [if_neg (show ¬ (i < x ∧ x ≤ m) by omega)]
      by_cases c2 : i < y
      · rw [if_pos (show i < y ∧ y ≤ m by omega)]
        by_cases c3 : x = i
        · rw [if_pos c3]
          exact hi' _ (by omega) (by omega)
        · rw [if_neg c3]
          exact hs _ _ h1 (by omega) (by omega)
      · rw [if_neg (show ¬ (i < y ∧ y ≤ m) by omega), if_neg (by omega : ¬ x = i)]
        by_cases c3 : y = i
        · rw [if_pos c3]
          exact lo _ h1 (by omega)
        · rw [if_neg c3]
          exact hs _ _ h1 h2 (by omega)
/-- What is known of the two halves behind the rotation. -/
structure Half (key : Nat → Int) (d1 : Array Nat) (a s mid e b : Nat) : Prop where
  ll : Srt key d1 a s
  lr : Srt key d1 s mid
  rl : Srt key d1 mid e
  rr : Srt key d1 e b
  lowl : Lows d1 a s mid
  lowr : Lows d1 mid e b
  cross : ∀ x y, a ≤ x → x < mid → mid ≤ y → y < b → lx key d1[x]! d1[y]!
theorem rot_half {key : Nat → Int} {d d1 : Array Nat} {a s m e b mid : Nat} (has : a ≤ s) (hsm : s ≤ m) (hme : m ≤ e) (heb : e ≤ b) (hmid : s + (e - m) = mid) (h1 : Srt key d a m) (h2 : Srt key d m b) (hl : Lows d a m b)
    (hlo : e = b ∨ s = a ∨ ¬ key d[e]! < key d[s - 1]!) (hhi : e = m ∨ s = m ∨ key d[e - 1]! < key d[s]!) (hr : Rot d d1 s m e) : Half key d1 a s mid e b := by
  have p1 : ∀ x, x < s → d1[x]! = d[x]! := fun x hx => by rw [hr.at_ x, if_neg (by omega), if_neg (by omega)]
  have p2 : ∀ x, s ≤ x → x < mid → d1[x]! = d[x + (m - s)]! := fun x h3 h4 => by rw [hr.at_ x, if_pos ⟨h3, by omega⟩]
  have p3 : ∀ x, mid ≤ x → x < e → d1[x]! = d[x - (e - m)]! := fun x h3 h4 => by rw [hr.at_ x, if_neg (by omega), if_pos ⟨by omega, h4⟩]
  have p4 : ∀ x, e ≤ x → d1[x]! = d[x]! := fun x hx => by rw [hr.at_ x, if_neg (by omega), if_neg (by omega)]
  refine ⟨fun x y h3 h4 h5 => ?_, fun x y h3 h4 h5 => ?_, fun x y h3 h4 h5 => ?_, fun x y h3 h4 h5 => ?_, fun x y h3 h4 h5 h6 => ?_, fun x y h3 h4 h5 h6 => ?_, fun x y h3 h4 h5 h6 => ?_⟩
  · rw [p1 x (by omega), p1 y h5]
    exact h1 _ _ h3 h4 (by omega)
  · rw [p2 x h3 (by omega), p2 y (by omega) h5]
    exact h2 _ _ (by omega) (by omega) (by omega)
  · rw [p3 x h3 (by omega), p3 y (by omega) h5]
    exact h1 _ _ (by omega) (by omega) (by omega)
  · rw [p4 x h3, p4 y (by omega)]
    exact h2 _ _ (by omega) h4 h5
  · rw [p1 x h4, p2 y h5 h6]
    exact hl _ _ h3 (by omega) (by omega) (by omega)
  · rw [p3 x h3 h4, p4 y h5]
    exact hl _ _ (by omega) (by omega) (by omega) h6
  · by_cases c1 : x < s
    · rw [p1 x c1]
      by_cases c2 : y < e
      · rw [p3 y h5 c2]
        exact h1 _ _ h3 (by omega) (by omega)
      · rw [p4 y (by omega)]
        -- the left's first part, the right's last
        refine h1.le h3 (show x ≤ s - 1 by omega) (by omega) (h2.ge (show m ≤ e by omega) (show e ≤ y by omega) h6 ?_)
        have := hl (s - 1) e (by omega) (by omega) hme (by omega)
        unfold lx
        rcases hlo with h7 | h7 | h7 <;> omega
    · rw [p2 x (by omega) h4]
      by_cases c2 : y < e
      · rw [p3 y h5 c2]
        refine h2.le (show m ≤ x + (m - s) by omega) (show x + (m - s) ≤ e - 1 by omega) (by omega) (h1.ge (show a ≤ s by omega) (show s ≤ y - (e - m) by omega) (by omega) ?_)
        unfold lx
        rcases hhi with h7 | h7 | h7 <;> omega
      · rw [p4 y (by omega)]
        exact h2 _ _ (by omega) (by omega) h6
theorem rot_none {d : Array Nat} {s m e : Nat} (hsm : s ≤ m) (hme : m ≤ e) (h : s = m ∨ m = e) : Rot d d s m e := by
  refine ⟨rfl, fun x => ?_⟩
  (repeat' split) <;> first | omega | exact congrArg (fun z => d[z]!) (by omega)
theorem rot_sub {d d1 : Array Nat} {a s m e b : Nat} (has : a ≤ s) (hsm : s ≤ m) (hme : m ≤ e) (heb : e ≤ b) (hr : Rot d d1 s m e) : ∀ x, a ≤ x → x < b → ∃ y, a ≤ y ∧ y < b ∧ d1[x]! = d[y]! := by
  intro x h1 h2
  rw [hr.at_ x]
  by_cases c1 : s ≤ x ∧ x < s + (e - m)
  · rw [if_pos c1]
    exact ⟨_, by omega, by omega, rfl⟩
  · rw [if_neg c1]
    by_cases c2 : s + (e - m) ≤ x ∧ x < e
    · rw [if_pos c2]
      exact ⟨_, by omega, by omega, rfl⟩
    · rw [if_neg c2]
      exact ⟨x, h1, h2, rfl⟩
/-- Both halves, merged: the whole. -/
theorem Half.whole {key : Nat → Int} {d d1 d2 d3 : Array Nat} {a s m mid e b : Nat} (h : Half key d1 a s mid e b) (has : a ≤ s) (hsm : s ≤ m) (hme : m ≤ e) (heb : e ≤ b) (ham : a ≤ mid) (hmb : mid ≤ b) (hr : Rot d d1 s m e) (h2 : Mrg key d1 d2 a mid) (h3 : Mrg key d2 d3 mid b) : Mrg key d d3 a b := by
  have hs := rot_sub has hsm hme heb hr
  refine ⟨h3.size.trans (h2.size.trans hr.size), fun x hx => ?_, fun x h4 h5 => ?_, fun x y h4 h5 h6 => ?_⟩
  · rw [h3.out x (by omega), h2.out x (by omega), hr.at_ x, if_neg (by omega), if_neg (by omega)]
  · by_cases c : x < mid
    · obtain ⟨y, h6, h7, h8⟩ := h2.sub x h4 c
      obtain ⟨z, h9, h10, h11⟩ := hs y h6 (by omega)
      exact ⟨z, h9, h10, by rw [h3.out x (.inl c), h8, h11]⟩
    · obtain ⟨y, h6, h7, h8⟩ := h3.sub x (by omega) h5
      obtain ⟨z, h9, h10, h11⟩ := hs y (by omega) h7
      exact ⟨z, h9, h10, by rw [h8, h2.out y (.inr h6), h11]⟩
  · by_cases c : y < mid
    · rw [h3.out x (.inl (by omega)), h3.out y (.inl c)]
      exact h2.srt _ _ h4 h5 c
    · by_cases c1 : x < mid
      · obtain ⟨x', h7, h8, h9⟩ := h2.sub x h4 c1
        obtain ⟨y', h10, h11, h12⟩ := h3.sub y (by omega) h6
        rw [h3.out x (.inl c1), h9, h12, h2.out y' (.inr h10)]
        exact h.cross _ _ h7 h8 h10 h11
      · exact h3.srt _ _ (by omega) h5 h6
/-- Where the left half has one part alone, it is in order already; the right one likewise. -/
theorem Half.left {key : Nat → Int} {d1 : Array Nat} {a s mid e b : Nat} (h : Half key d1 a s mid e b) (hn : ¬ (a < s ∧ s < mid)) (has : a ≤ s) (hsm : s ≤ mid) : Srt key d1 a mid := by
  by_cases c : a = s
  · subst c
    exact h.lr
  · rw [show mid = s by omega]
    exact h.ll
theorem Half.right {key : Nat → Int} {d1 d2 : Array Nat} {a s mid e b : Nat} (h : Half key d1 a s mid e b) (hn : ¬ (mid < e ∧ e < b)) (hme : mid ≤ e) (heb : e ≤ b) (ho : ∀ x, mid ≤ x → d2[x]! = d1[x]!) : Srt key d2 mid b := by
  intro x y h1 h2 h3
  rw [ho x h1, ho y (by omega)]
  by_cases c : mid = e
  · subst c
    exact h.rr _ _ h1 h2 h3
  · rw [show b = e by omega] at h3
    exact h.rl _ _ h1 h2 h3
section
variable {P : Program} {k : Nat} {enc : Nat → List Value} {cf : Nat → Nat → Int} {key : Nat → Int} {g : Nat} {cb : Array Value} {blk off cap : Nat} {d0 : Array Nat} {w0 : World}
set_option maxHeartbeats 8000000 in
set_option maxRecDepth 1000000 in
theorem symMerge_first (L : StabL P k) (hcf : ∀ x y, cf x y < 0 ↔ key x < key y) (eg : ∀ args w, (callFunc g args).run P w = .ok (.enter g args) w) (hcmp : CmpLays P g cb enc k cf blk off d0.size w0) (R : RowK enc k w0 blk off d0) (hsz : d0.size < 4611686018427387904)
    (a m b : Nat) (d : Array Nat) (w : World) (ham : m = a + 1) (hmb : m < b) (hb : b ≤ d.size) (hds : d.size = d0.size) (h2 : Srt key d m b) (hl : Lows d a m b) (S : SWK enc k w0 blk off d w) :
    Calls P 73 #[.slice (some ⟨blk, off, none⟩) d0.size cap, .int .i64 a, .int .i64 m, .int .i64 b, .func (.func g) #[] cb] w fun e w' => e = .returned (.tuple #[]) ∧ ∃ d', Mrg key d d' a b ∧ SWK enc k w0 blk off d' w' := by
  have mixed := L.mixed; have t0 := L.t0; have a0 := L.a0; have z0 := L.z0; have v0 := L.v0; have t3 := L.t3; have a3 := L.a3; have z3 := L.z3; have v3 := L.v3; have t4 := L.t4; have a4 := L.a4; have z4 := L.z4; have v4 := L.v4; have t45 := L.t45; have a45 := L.a45; have z45 := L.z45; have t117 := L.t117; have a117 := L.a117; have z117 := L.z117; have aE := L.aE; have zE := L.zE; have t131 := L.t131; have a131 := L.a131; have z131 := L.z131
  have S0 : Aside (SWK enc k w0 blk off d w) := S
  have HC : Aside _ := hcmp
  have HCF := Lib.hid hcf
  clear hcf
  have H2 := Lib.hid h2
  have HL := Lib.hid hl
  have q1 : ((m : Int) - (a : Int) == 1) = true := by simp; omega
  have hm1 : m ≤ a + 1 := by omega
  have hm2 : a + 1 ≤ m := by omega
  have hd1 : d.size ≤ d0.size := by omega
  have hd2 : d0.size ≤ d.size := by omega
  clear S hcmp h2 hl ham hds
  go_enter L.f135, Try.ntmps73
  go_wp2
  go_loopg [10, 11] (b - m) (fun kx s10 s11 wr => ∃ i j : Nat, s10 = .int .i64 i ∧ s11 = .int .i64 j ∧ m ≤ i ∧ i ≤ j ∧ j ≤ b ∧ j - i ≤ kx ∧ Aside (SWK enc k w0 blk off d wr) ∧ Hid (i = m ∨ key d[i - 1]! < key d[a]!) ∧ Hid (j = b ∨ ¬ key d[j]! < key d[a]!))
  case atStart => exact ⟨m, b, rfl, rfl, Nat.le_refl _, by omega, Nat.le_refl _, Nat.le_refl _, S0, Lib.hid (.inl rfl), Lib.hid (.inl rfl)⟩
  case round =>
    clear S0
    obtain ⟨i, j, rfl, rfl, hmi, hij, hjb, hkx, S1, HI, HJ⟩ := hrel
    by_cases hlt : i < j
    · have hltz : (i : Int) < (j : Int) := by omega
      go_upto_region 5 with (fail)
      obtain ⟨h, hh⟩ : ∃ h : Nat, ((i : Int) + (j : Int)) / 2 = h := ⟨(i + j) / 2, by omega⟩
      rw [hh]
      have hh1 : i ≤ h := by omega
      have hh2 : h < j := by omega
      clear hh
      by_cases hq : key d[h]! < key d[a]!
      · have HQ := Lib.hid hq
        have ea1 : ((h : Int)).toNat = h := by omega
        have pa1 : (0 : Int) ≤ (h : Int) := by omega
        have ba1 : (h : Int) < (d0.size : Int) := by omega
        have ra1 : IntKind.i64.wrap ((h : Int)) = (h : Int) := by rw [IntKind.wrap_i64]; omega
        have ec1 : ((a : Int)).toNat = a := by omega
        have pc1 : (0 : Int) ≤ (a : Int) := by omega
        have bc1 : (a : Int) < (d0.size : Int) := by omega
        have rc1 : IntKind.i64.wrap ((a : Int)) = (a : Int) := by rw [IntKind.wrap_i64]; omega
        obtain ⟨x1, hx1⟩ : ∃ x, x = d[h]! := ⟨_, rfl⟩
        obtain ⟨y1, hy1⟩ : ∃ x, x = d[a]! := ⟨_, rfl⟩
        have l1a := S1.out.ld R (by omega) P (h) (by omega)
        have l1b := S1.out.ld R (by omega) P (a) (by omega)
        rw [← hx1] at l1a
        rw [← hy1] at l1b
        have hc1 := S1.out.cmp HC.out (by omega) x1 y1
        have hv1 : cf x1 y1 < 0 := by rw [hx1, hy1]; exact (HCF.out _ _).2 hq
        have hd1 : decide (cf x1 y1 < 0) = true := decide_eq_true hv1
        clear hq
        have HX1 := Lib.hid hx1
        have HY1 := Lib.hid hy1
        clear hx1 hy1
        go_wp2_with fail
        go_quiet_grown (first | (go_at_fn g; refine Calls.grown_of (hc1 _ _)))
        have S2 : Aside (SWK enc k w0 blk off d (grow (wr.drewN nq) osq)) := S1.out.grown nq osq
        clear l1a l1b hc1 S1
        generalize grow (wr.drewN nq) osq = w2 at S2 ⊢
        clear nq osq
        go_wp2
        go_roundg (j - (h + 1))
        case measure => omega
        case rel => exact ⟨h + 1, j, by go_num, rfl, by omega, by omega, hjb, Nat.le_refl _, S2, Lib.hid (.inr (by rw [Nat.add_sub_cancel]; exact HQ.out)), HJ⟩
      · have HQ := Lib.hid hq
        have ea2 : ((h : Int)).toNat = h := by omega
        have pa2 : (0 : Int) ≤ (h : Int) := by omega
        have ba2 : (h : Int) < (d0.size : Int) := by omega
        have ra2 : IntKind.i64.wrap ((h : Int)) = (h : Int) := by rw [IntKind.wrap_i64]; omega
        have ec2 : ((a : Int)).toNat = a := by omega
        have pc2 : (0 : Int) ≤ (a : Int) := by omega
        have bc2 : (a : Int) < (d0.size : Int) := by omega
        have rc2 : IntKind.i64.wrap ((a : Int)) = (a : Int) := by rw [IntKind.wrap_i64]; omega
        obtain ⟨x2, hx2⟩ : ∃ x, x = d[h]! := ⟨_, rfl⟩
        obtain ⟨y2, hy2⟩ : ∃ x, x = d[a]! := ⟨_, rfl⟩
        have l2a := S1.out.ld R (by omega) P (h) (by omega)
        have l2b := S1.out.ld R (by omega) P (a) (by omega)
        rw [← hx2] at l2a
        rw [← hy2] at l2b
        have hc2 := S1.out.cmp HC.out (by omega) x2 y2
        have hv2 : ¬ cf x2 y2 < 0 := by rw [hx2, hy2]; exact fun h => hq ((HCF.out _ _).1 h)
        have hd2 : decide (cf x2 y2 < 0) = false := decide_eq_false hv2
        clear hq
        have HX2 := Lib.hid hx2
        have HY2 := Lib.hid hy2
        clear hx2 hy2
        go_wp2_with fail
        go_quiet_grown (first | (go_at_fn g; refine Calls.grown_of (hc2 _ _)))
        have S2 : Aside (SWK enc k w0 blk off d (grow (wr.drewN nq) osq)) := S1.out.grown nq osq
        clear l2a l2b hc2 S1
        generalize grow (wr.drewN nq) osq = w2 at S2 ⊢
        clear nq osq
        go_wp2
        go_roundg (h - i)
        case measure => omega
        case rel => exact ⟨i, h, rfl, rfl, hmi, by omega, by omega, Nat.le_refl _, S2, HI, Lib.hid (.inr HQ.out)⟩
    · obtain rfl : i = j := by omega
      go_wp2
      go_loopg [13] (i - 1 - a) (fun kx s13 wr => ∃ (x : Nat) (dk : Array Nat), s13 = .int .i64 x ∧ a ≤ x ∧ x ≤ i - 1 ∧ i - 1 - x ≤ kx ∧ dk.size ≤ d0.size ∧ d0.size ≤ dk.size ∧ Aside (SWK enc k w0 blk off dk wr) ∧ Hid (∀ z, dk[z]! = if a ≤ z ∧ z < x then d[z + 1]! else if z = x then d[a]! else d[z]!))
      case atStart => exact ⟨a, d, rfl, Nat.le_refl _, by omega, Nat.le_refl _, hd1, hd2, S1, Lib.hid (fun z => by rw [if_neg (by omega)]; split <;> first | rfl | (subst_vars; rfl))⟩
      case round =>
        clear S1
        obtain ⟨x, dk, rfl, hax, hxi, hkx2, hk1, hk2, S1, HD⟩ := hrel
        by_cases hlt2 : x < i - 1
        · have hltz : (x : Int) < (i : Int) - 1 := by omega
          have ea3 : ((x : Int)).toNat = x := by omega
          have pa3 : (0 : Int) ≤ (x : Int) := by omega
          have ba3 : (x : Int) < (d0.size : Int) := by omega
          have ra3 : IntKind.i64.wrap ((x : Int)) = (x : Int) := by rw [IntKind.wrap_i64]; omega
          have ec3 : ((x : Int) + 1).toNat = x + 1 := by omega
          have pc3 : (0 : Int) ≤ (x : Int) + 1 := by omega
          have bc3 : (x : Int) + 1 < (d0.size : Int) := by omega
          have rc3 : IntKind.i64.wrap ((x : Int) + 1) = (x : Int) + 1 := by rw [IntKind.wrap_i64]; omega
          have S2 : Aside (SWK enc k w0 blk off (swp dk (x) (x + 1)) ((wr.drew.setCells blk (off + (x) * k) (enc dk[x + 1]!)).setCells blk (off + (x + 1) * k) (enc dk[x]!))) := S1.out.swapped R (x) (x + 1) (by omega) (by omega)
          have l3a := S1.out.ld1 R (by omega) P (x) (by omega)
          have l3b := S1.out.ld1 R (by omega) P (x + 1) (by omega)
          have s3a := S1.out.st1 R (by omega) P (x) (by omega) dk[x + 1]!
          have s3b := S1.out.st2 R (by omega) P (x) (x + 1) (by omega) (by omega) dk[x + 1]! dk[x]!
          have n3a : (enc dk[x]!).length = k := R.hk _
          have n3b : (enc dk[x + 1]!).length = k := R.hk _
          generalize enc dk[x]! = cI3 at S2 l3a s3b n3a
          generalize enc dk[x + 1]! = cJ3 at S2 l3b s3a s3b n3b
          clear S1
          go_wp2_with fail
          go_big_region_o
          clear l3a l3b s3a s3b
          generalize (wr.drew.setCells blk (off + (x) * k) cJ3).setCells blk (off + (x + 1) * k) cI3 = w2 at S2 ⊢
          go_wp2
          go_roundg (i - 1 - (x + 1))
          case measure => omega
          case rel =>
            refine ⟨x + 1, _, by go_num, by omega, by omega, Nat.le_refl _, by rw [size_swp]; exact hk1, by rw [size_swp]; exact hk2, S2, Lib.hid (fun z => ?_)⟩
            rw [swp_get _ (by omega) (by omega), HD.out, HD.out, HD.out]
            (repeat' split) <;> first | omega | exact congrArg (fun z => d[z]!) (by omega)
        · have hltz : ¬ (x : Int) < (i : Int) - 1 := by omega
          go_wp2
          refine bodyPost_ret (results_none rfl _ _ _) rfl ?_
          refine ⟨rfl, dk, ins_first (by rw [show a + 1 = m by omega]; exact H2.out) (by rw [show a + 1 = m by omega]; exact HL.out) (i := i) (by omega) hjb (by rw [show a + 1 = m by omega]; exact HI.out) (by rcases HJ.out with h | h <;> first | exact .inl h | exact .inr (by omega)) (by omega) (fun z => ?_), S1.out⟩
          rw [HD.out]
          (repeat' split) <;> first | omega | rfl
set_option maxHeartbeats 8000000 in
set_option maxRecDepth 1000000 in
theorem symMerge_last (L : StabL P k) (hcf : ∀ x y, cf x y < 0 ↔ key x < key y) (eg : ∀ args w, (callFunc g args).run P w = .ok (.enter g args) w) (hcmp : CmpLays P g cb enc k cf blk off d0.size w0) (R : RowK enc k w0 blk off d0) (hsz : d0.size < 4611686018427387904)
    (a m b : Nat) (d : Array Nat) (w : World) (ham : a + 1 < m) (hmb : b = m + 1) (hb : b ≤ d.size) (hds : d.size = d0.size) (h1 : Srt key d a m) (hl : Lows d a m b) (S : SWK enc k w0 blk off d w) :
    Calls P 73 #[.slice (some ⟨blk, off, none⟩) d0.size cap, .int .i64 a, .int .i64 m, .int .i64 b, .func (.func g) #[] cb] w fun e w' => e = .returned (.tuple #[]) ∧ ∃ d', Mrg key d d' a b ∧ SWK enc k w0 blk off d' w' := by
  have mixed := L.mixed; have t0 := L.t0; have a0 := L.a0; have z0 := L.z0; have v0 := L.v0; have t3 := L.t3; have a3 := L.a3; have z3 := L.z3; have v3 := L.v3; have t4 := L.t4; have a4 := L.a4; have z4 := L.z4; have v4 := L.v4; have t45 := L.t45; have a45 := L.a45; have z45 := L.z45; have t117 := L.t117; have a117 := L.a117; have z117 := L.z117; have aE := L.aE; have zE := L.zE; have t131 := L.t131; have a131 := L.a131; have z131 := L.z131
  have S0 : Aside (SWK enc k w0 blk off d w) := S
  have HC : Aside _ := hcmp
  have HCF := Lib.hid hcf
  clear hcf
  have H1 := Lib.hid h1
  have HL := Lib.hid (hmb ▸ hl : Lows d a m (m + 1))
  have q1 : ((m : Int) - (a : Int) == 1) = false := by simp; omega
  have q2 : ((b : Int) - (m : Int) == 1) = true := by simp; omega
  have hm1 : b ≤ m + 1 := by omega
  have hm2 : m + 1 ≤ b := by omega
  have hd1 : d.size ≤ d0.size := by omega
  have hd2 : d0.size ≤ d.size := by omega
  clear S hcmp h1 hl hmb hds
  go_enter L.f135, Try.ntmps73
  go_wp2
  go_loopg [14, 15] (m - a) (fun kx s10 s11 wr => ∃ i j : Nat, s10 = .int .i64 i ∧ s11 = .int .i64 j ∧ a ≤ i ∧ i ≤ j ∧ j ≤ m ∧ j - i ≤ kx ∧ Aside (SWK enc k w0 blk off d wr) ∧ Hid (i = a ∨ ¬ key d[m]! < key d[i - 1]!) ∧ Hid (j = m ∨ key d[m]! < key d[j]!))
  case atStart => exact ⟨a, m, rfl, rfl, Nat.le_refl _, by omega, Nat.le_refl _, Nat.le_refl _, S0, Lib.hid (.inl rfl), Lib.hid (.inl rfl)⟩
  case round =>
    clear S0
    obtain ⟨i, j, rfl, rfl, hmi, hij, hjb, hkx, S1, HI, HJ⟩ := hrel
    by_cases hlt : i < j
    · have hltz : (i : Int) < (j : Int) := by omega
      go_upto_region 17 with (fail)
      obtain ⟨h, hh⟩ : ∃ h : Nat, ((i : Int) + (j : Int)) / 2 = h := ⟨(i + j) / 2, by omega⟩
      rw [hh]
      have hh1 : i ≤ h := by omega
      have hh2 : h < j := by omega
      clear hh
      by_cases hq : key d[m]! < key d[h]!
      · have HQ := Lib.hid hq
        have ea1 : ((m : Int)).toNat = m := by omega
        have pa1 : (0 : Int) ≤ (m : Int) := by omega
        have ba1 : (m : Int) < (d0.size : Int) := by omega
        have ra1 : IntKind.i64.wrap ((m : Int)) = (m : Int) := by rw [IntKind.wrap_i64]; omega
        have ec1 : ((h : Int)).toNat = h := by omega
        have pc1 : (0 : Int) ≤ (h : Int) := by omega
        have bc1 : (h : Int) < (d0.size : Int) := by omega
        have rc1 : IntKind.i64.wrap ((h : Int)) = (h : Int) := by rw [IntKind.wrap_i64]; omega
        obtain ⟨x1, hx1⟩ : ∃ x, x = d[m]! := ⟨_, rfl⟩
        obtain ⟨y1, hy1⟩ : ∃ x, x = d[h]! := ⟨_, rfl⟩
        have l1a := S1.out.ld R (by omega) P (m) (by omega)
        have l1b := S1.out.ld R (by omega) P (h) (by omega)
        rw [← hx1] at l1a
        rw [← hy1] at l1b
        have hc1 := S1.out.cmp HC.out (by omega) x1 y1
        have hv1 : cf x1 y1 < 0 := by rw [hx1, hy1]; exact (HCF.out _ _).2 hq
        have hd1 : decide (cf x1 y1 < 0) = true := decide_eq_true hv1
        clear hq
        have HX1 := Lib.hid hx1
        have HY1 := Lib.hid hy1
        clear hx1 hy1
        go_wp2_with fail
        go_quiet_grown (first | (go_at_fn g; refine Calls.grown_of (hc1 _ _)))
        have S2 : Aside (SWK enc k w0 blk off d (grow (wr.drewN nq) osq)) := S1.out.grown nq osq
        clear l1a l1b hc1 S1
        generalize grow (wr.drewN nq) osq = w2 at S2 ⊢
        clear nq osq
        go_wp2
        go_roundg (h - i)
        case measure => omega
        case rel => exact ⟨i, h, rfl, rfl, hmi, by omega, by omega, Nat.le_refl _, S2, HI, Lib.hid (.inr HQ.out)⟩
      · have HQ := Lib.hid hq
        have ea2 : ((m : Int)).toNat = m := by omega
        have pa2 : (0 : Int) ≤ (m : Int) := by omega
        have ba2 : (m : Int) < (d0.size : Int) := by omega
        have ra2 : IntKind.i64.wrap ((m : Int)) = (m : Int) := by rw [IntKind.wrap_i64]; omega
        have ec2 : ((h : Int)).toNat = h := by omega
        have pc2 : (0 : Int) ≤ (h : Int) := by omega
        have bc2 : (h : Int) < (d0.size : Int) := by omega
        have rc2 : IntKind.i64.wrap ((h : Int)) = (h : Int) := by rw [IntKind.wrap_i64]; omega
        obtain ⟨x2, hx2⟩ : ∃ x, x = d[m]! := ⟨_, rfl⟩
        obtain ⟨y2, hy2⟩ : ∃ x, x = d[h]! := ⟨_, rfl⟩
        have l2a := S1.out.ld R (by omega) P (m) (by omega)
        have l2b := S1.out.ld R (by omega) P (h) (by omega)
        rw [← hx2] at l2a
        rw [← hy2] at l2b
        have hc2 := S1.out.cmp HC.out (by omega) x2 y2
        have hv2 : ¬ cf x2 y2 < 0 := by rw [hx2, hy2]; exact fun h => hq ((HCF.out _ _).1 h)
        have hd2 : decide (cf x2 y2 < 0) = false := decide_eq_false hv2
        clear hq
        have HX2 := Lib.hid hx2
        have HY2 := Lib.hid hy2
        clear hx2 hy2
        go_wp2_with fail
        go_quiet_grown (first | (go_at_fn g; refine Calls.grown_of (hc2 _ _)))
        have S2 : Aside (SWK enc k w0 blk off d (grow (wr.drewN nq) osq)) := S1.out.grown nq osq
        clear l2a l2b hc2 S1
        generalize grow (wr.drewN nq) osq = w2 at S2 ⊢
        clear nq osq
        go_wp2
        go_roundg (j - (h + 1))
        case measure => omega
        case rel => exact ⟨h + 1, j, by go_num, rfl, by omega, by omega, hjb, Nat.le_refl _, S2, Lib.hid (.inr (by rw [Nat.add_sub_cancel]; exact HQ.out)), HJ⟩
    · obtain rfl : i = j := by omega
      go_wp2
      go_loopg [17] (m - i) (fun kx s13 wr => ∃ (x : Nat) (dk : Array Nat), s13 = .int .i64 x ∧ i ≤ x ∧ x ≤ m ∧ x - i ≤ kx ∧ dk.size ≤ d0.size ∧ d0.size ≤ dk.size ∧ Aside (SWK enc k w0 blk off dk wr) ∧ Hid (∀ z, dk[z]! = if x < z ∧ z ≤ m then d[z - 1]! else if z = x then d[m]! else d[z]!))
      case atStart => exact ⟨m, d, rfl, hjb, Nat.le_refl _, Nat.le_refl _, hd1, hd2, S1, Lib.hid (fun z => by rw [if_neg (by omega)]; split <;> first | rfl | (subst_vars; rfl))⟩
      case round =>
        clear S1
        obtain ⟨x, dk, rfl, hax, hxi, hkx2, hk1, hk2, S1, HD⟩ := hrel
        by_cases hlt2 : i < x
        · have hltz : (x : Int) > (i : Int) := by omega
          have hltz' : (i : Int) < (x : Int) := by omega
          have ea3 : ((x : Int)).toNat = x := by omega
          have pa3 : (0 : Int) ≤ (x : Int) := by omega
          have ba3 : (x : Int) < (d0.size : Int) := by omega
          have ra3 : IntKind.i64.wrap ((x : Int)) = (x : Int) := by rw [IntKind.wrap_i64]; omega
          have ec3 : ((x : Int) - 1).toNat = x - 1 := by omega
          have pc3 : (0 : Int) ≤ (x : Int) - 1 := by omega
          have bc3 : (x : Int) - 1 < (d0.size : Int) := by omega
          have rc3 : IntKind.i64.wrap ((x : Int) - 1) = (x : Int) - 1 := by rw [IntKind.wrap_i64]; omega
          have S2 : Aside (SWK enc k w0 blk off (swp dk (x) (x - 1)) ((wr.drew.setCells blk (off + (x) * k) (enc dk[x - 1]!)).setCells blk (off + (x - 1) * k) (enc dk[x]!))) := S1.out.swapped R (x) (x - 1) (by omega) (by omega)
          have l3a := S1.out.ld1 R (by omega) P (x) (by omega)
          have l3b := S1.out.ld1 R (by omega) P (x - 1) (by omega)
          have s3a := S1.out.st1 R (by omega) P (x) (by omega) dk[x - 1]!
          have s3b := S1.out.st2 R (by omega) P (x) (x - 1) (by omega) (by omega) dk[x - 1]! dk[x]!
          have n3a : (enc dk[x]!).length = k := R.hk _
          have n3b : (enc dk[x - 1]!).length = k := R.hk _
          generalize enc dk[x]! = cI3 at S2 l3a s3b n3a
          generalize enc dk[x - 1]! = cJ3 at S2 l3b s3a s3b n3b
          clear S1
          go_wp2_with fail
          go_big_region_o
          clear l3a l3b s3a s3b
          generalize (wr.drew.setCells blk (off + (x) * k) cJ3).setCells blk (off + (x - 1) * k) cI3 = w2 at S2 ⊢
          go_wp2
          go_roundg (x - 1 - i)
          case measure => omega
          case rel =>
            refine ⟨x - 1, _, by go_num, by omega, by omega, Nat.le_refl _, by rw [size_swp]; exact hk1, by rw [size_swp]; exact hk2, S2, Lib.hid (fun z => ?_)⟩
            rw [swp_get _ (by omega) (by omega), HD.out, HD.out, HD.out]
            (repeat' split) <;> first | omega | exact congrArg (fun z => d[z]!) (by omega)
        · have hltz : ¬ (x : Int) > (i : Int) := by omega
          have hltz' : ¬ (i : Int) < (x : Int) := by omega
          go_wp2
          refine bodyPost_ret (results_none rfl _ _ _) rfl ?_
          refine ⟨rfl, dk, ?_, S1.out⟩
          rw [show b = m + 1 by omega]
          refine ins_last H1.out HL.out (i := i) hmi hjb (by rcases HI.out with h | h <;> first | exact .inl h | exact .inr (by omega)) HJ.out (by omega) (fun z => ?_)
          rw [HD.out]
          (repeat' split) <;> first | omega | rfl
end
section
variable {P : Program} {k : Nat} {enc : Nat → List Value} {cf : Nat → Nat → Int} {key : Nat → Int} {g : Nat} {cb : Array Value} {blk off cap : Nat} {d0 : Array Nat} {w0 : World}
set_option maxHeartbeats 8000000 in
set_option maxRecDepth 1000000 in
theorem symMerge_mid (L : StabL P k) (hcf : ∀ x y, cf x y < 0 ↔ key x < key y) (eg : ∀ args w, (callFunc g args).run P w = .ok (.enter g args) w) (hcmp : CmpLays P g cb enc k cf blk off d0.size w0) (R : RowK enc k w0 blk off d0) (hsz : d0.size < 4611686018427387904)
    (a m b : Nat) (d : Array Nat) (w : World) (ham : a + 1 < m) (hmb : m + 1 < b) (hb : b ≤ d.size) (hds : d.size = d0.size) (h1 : Srt key d a m) (h2 : Srt key d m b) (hl : Lows d a m b) (S : SWK enc k w0 blk off d w)
    (ih : ∀ (a' m' b' : Nat) (d' : Array Nat) (w' : World) (A M B : Int), (a' : Int) = A → (m' : Int) = M → (b' : Int) = B → b' - a' < b - a → a' < m' → m' < b' → b' ≤ d'.size → d'.size = d0.size → Srt key d' a' m' → Srt key d' m' b' → Lows d' a' m' b' → SWK enc k w0 blk off d' w' →
      Calls P 73 #[.slice (some ⟨blk, off, none⟩) d0.size cap, .int .i64 A, .int .i64 M, .int .i64 B, .func (.func g) #[] cb] w' fun e w2 => e = .returned (.tuple #[]) ∧ ∃ d2, Mrg key d' d2 a' b' ∧ SWK enc k w0 blk off d2 w2) :
    Calls P 73 #[.slice (some ⟨blk, off, none⟩) d0.size cap, .int .i64 a, .int .i64 m, .int .i64 b, .func (.func g) #[] cb] w fun e w' => e = .returned (.tuple #[]) ∧ ∃ d', Mrg key d d' a b ∧ SWK enc k w0 blk off d' w' := by
  have mixed := L.mixed; have t0 := L.t0; have a0 := L.a0; have z0 := L.z0; have v0 := L.v0; have t3 := L.t3; have a3 := L.a3; have z3 := L.z3; have v3 := L.v3; have t4 := L.t4; have a4 := L.a4; have z4 := L.z4; have v4 := L.v4; have t45 := L.t45; have a45 := L.a45; have z45 := L.z45; have t117 := L.t117; have a117 := L.a117; have z117 := L.z117; have aE := L.aE; have zE := L.zE; have t131 := L.t131; have a131 := L.a131; have z131 := L.z131
  have S0 : Aside (SWK enc k w0 blk off d w) := S
  have HC : Aside _ := hcmp
  have HCF := Lib.hid hcf
  clear hcf
  have H1 := Lib.hid h1
  have H2 := Lib.hid h2
  have HL := Lib.hid hl
  have IH := Lib.hid ih
  have e135 : ∀ args w, (callFunc 73 args).run P w = .ok (.enter 73 args) w := enters_of L.f135 (by kernel_rfl) rfl
  have e141 : ∀ args w, (callFunc 85 args).run P w = .ok (.enter 85 args) w := enters_of L.f141 (by kernel_rfl) rfl
  have hrot : ∀ (s m e : Nat) (A M B : Int) (dk : Array Nat) (W : World), (s : Int) = A → (m : Int) = M → (e : Int) = B → s < m → m < e → e ≤ dk.size → dk.size = d0.size → SWK enc k w0 blk off dk W →
      Calls P 85 #[.slice (some ⟨blk, off, none⟩) d0.size cap, .int .i64 A, .int .i64 M, .int .i64 B, .func (.func g) #[] cb] W fun e' w' => e' = .returned (.tuple #[]) ∧ ∃ d', Rot dk d' s m e ∧ SWK enc k w0 blk off d' w' := by
    intro s m e A M B dk W h1 h2 h3 h4 h5 h6 h7 h8
    subst h1 h2 h3
    have := rotate_calls L enc g cb blk off cap s m e d0 dk w0 W R h7.symm h8 h4 h5 h6 (by omega)
    rw [h7] at this
    exact this
  have HROT := Lib.hid hrot
  have q1 : ((m : Int) - (a : Int) == 1) = false := by simp; omega
  have q2 : ((b : Int) - (m : Int) == 1) = false := by simp; omega
  have hd1 : d.size ≤ d0.size := by omega
  have hd2 : d0.size ≤ d.size := by omega
  clear S hcmp h1 h2 hl ih hrot hds
  go_enter L.f135, Try.ntmps73
  go_upto_region 25 with (fail)
  obtain ⟨mid, hh⟩ : ∃ mid : Nat, ((a : Int) + (b : Int)) / 2 = mid := ⟨(a + b) / 2, by omega⟩
  rw [hh]
  have hh1 : a + b ≤ mid + mid + 1 := by omega
  have hh2 : mid + mid ≤ a + b := by omega
  clear hh
  go_upto_if 140 with (fail)
  go_cut [20, 21] from 138 (fun v20 v21 wx => ∃ s0 r0 : Nat, v20 = .int .i64 s0 ∧ v21 = .int .i64 r0 ∧ Aside (SWK enc k w0 blk off d wx) ∧ a ≤ s0 ∧ s0 ≤ r0 ∧ r0 ≤ m ∧ r0 ≤ mid ∧ mid + m ≤ s0 + b ∧ Hid (mid + m = s0 + b ∨ s0 = a) ∧ Hid (r0 = mid ∨ r0 = m))
  case first =>
    by_cases cM : mid < m
    · have cM' : (m : Int) > (mid : Int) := by omega
      have cM'' : (mid : Int) < (m : Int) := by omega
      go_wp2
      go_meet
      case rel => exact ⟨mid + m - b, mid, by first | rfl | (congr 1; omega), rfl, S0, by omega, by omega, by omega, by omega, by omega, Lib.hid (by omega), Lib.hid (.inl rfl)⟩
    · have cM' : ¬ (m : Int) > (mid : Int) := by omega
      have cM'' : ¬ (mid : Int) < (m : Int) := by omega
      go_wp2
      go_meet
      case rel => exact ⟨a, m, rfl, rfl, S0, by omega, by omega, by omega, by omega, by omega, Lib.hid (.inr rfl), Lib.hid (.inr rfl)⟩
  case rest =>
    clear S0
    obtain ⟨s0, r0, rfl, rfl, S0, has0, hs0r, hr0m, hr0d, hs0b, HS, HR0⟩ := hcut
    go_wp2
    go_loopg [20, 21] (r0 - s0) (fun kx s10 s11 wr => ∃ i j : Nat, s10 = .int .i64 i ∧ s11 = .int .i64 j ∧ s0 ≤ i ∧ i ≤ j ∧ j ≤ r0 ∧ j - i ≤ kx ∧ Aside (SWK enc k w0 blk off d wr) ∧ Hid (i = s0 ∨ ¬ key d[mid + m - i]! < key d[i - 1]!) ∧ Hid (j = r0 ∨ key d[mid + m - 1 - j]! < key d[j]!))
    case atStart => exact ⟨s0, r0, rfl, rfl, Nat.le_refl _, by omega, Nat.le_refl _, Nat.le_refl _, S0, Lib.hid (.inl rfl), Lib.hid (.inl rfl)⟩
    case round =>
      clear S0
      obtain ⟨i, j, rfl, rfl, hmi, hij, hjb, hkx, S1, HI, HJ⟩ := hrel
      by_cases hlt : i < j
      · have hltz : (i : Int) < (j : Int) := by omega
        go_upto_region 35 with (fail)
        obtain ⟨h, hh⟩ : ∃ h : Nat, ((i : Int) + (j : Int)) / 2 = h := ⟨(i + j) / 2, by omega⟩
        rw [hh]
        have hh3 : i ≤ h := by omega
        have hh4 : h < j := by omega
        clear hh
        obtain ⟨q, hqe⟩ : ∃ q : Nat, (mid : Int) + (m : Int) - 1 - (h : Int) = q := ⟨mid + m - 1 - h, by omega⟩
        have hq1 : mid + m - 1 - h = q := by omega
        have hq2 : q < d.size := by omega
        have HQ1 := Lib.hid hq1
        clear hq1
        by_cases hq : key d[q]! < key d[h]!
        · have HQ := Lib.hid hq
          have ea1 : ((q : Int)).toNat = q := by omega
          have pa1 : (0 : Int) ≤ (q : Int) := by omega
          have ba1 : (q : Int) < (d0.size : Int) := by omega
          have ra1 : IntKind.i64.wrap ((q : Int)) = (q : Int) := by rw [IntKind.wrap_i64]; omega
          have ec1 : ((h : Int)).toNat = h := by omega
          have pc1 : (0 : Int) ≤ (h : Int) := by omega
          have bc1 : (h : Int) < (d0.size : Int) := by omega
          have rc1 : IntKind.i64.wrap ((h : Int)) = (h : Int) := by rw [IntKind.wrap_i64]; omega
          obtain ⟨x1, hx1⟩ : ∃ x, x = d[q]! := ⟨_, rfl⟩
          obtain ⟨y1, hy1⟩ : ∃ x, x = d[h]! := ⟨_, rfl⟩
          have l1a := S1.out.ld R (by omega) P (q) (by omega)
          have l1b := S1.out.ld R (by omega) P (h) (by omega)
          rw [← hx1] at l1a
          rw [← hy1] at l1b
          have hc1 := S1.out.cmp HC.out (by omega) x1 y1
          have hv1 : cf x1 y1 < 0 := by rw [hx1, hy1]; exact (HCF.out _ _).2 hq
          have hd1 : decide (cf x1 y1 < 0) = true := decide_eq_true hv1
          clear hq
          have HX1 := Lib.hid hx1
          have HY1 := Lib.hid hy1
          clear hx1 hy1
          go_wp2_with fail
          go_quiet_grown (first | (go_at_fn g; refine Calls.grown_of (hc1 _ _)))
          have S2 : Aside (SWK enc k w0 blk off d (grow (wr.drewN nq) osq)) := S1.out.grown nq osq
          clear l1a l1b hc1 S1
          generalize grow (wr.drewN nq) osq = w2 at S2 ⊢
          clear nq osq
          go_wp2
          go_roundg (h - i)
          case measure => omega
          case rel => exact ⟨i, h, rfl, rfl, hmi, by omega, by omega, Nat.le_refl _, S2, HI, Lib.hid (.inr (by rw [HQ1.out]; exact HQ.out))⟩
        · have HQ := Lib.hid hq
          have ea2 : ((q : Int)).toNat = q := by omega
          have pa2 : (0 : Int) ≤ (q : Int) := by omega
          have ba2 : (q : Int) < (d0.size : Int) := by omega
          have ra2 : IntKind.i64.wrap ((q : Int)) = (q : Int) := by rw [IntKind.wrap_i64]; omega
          have ec2 : ((h : Int)).toNat = h := by omega
          have pc2 : (0 : Int) ≤ (h : Int) := by omega
          have bc2 : (h : Int) < (d0.size : Int) := by omega
          have rc2 : IntKind.i64.wrap ((h : Int)) = (h : Int) := by rw [IntKind.wrap_i64]; omega
          obtain ⟨x2, hx2⟩ : ∃ x, x = d[q]! := ⟨_, rfl⟩
          obtain ⟨y2, hy2⟩ : ∃ x, x = d[h]! := ⟨_, rfl⟩
          have l2a := S1.out.ld R (by omega) P (q) (by omega)
          have l2b := S1.out.ld R (by omega) P (h) (by omega)
          rw [← hx2] at l2a
          rw [← hy2] at l2b
          have hc2 := S1.out.cmp HC.out (by omega) x2 y2
          have hv2 : ¬ cf x2 y2 < 0 := by rw [hx2, hy2]; exact fun h => hq ((HCF.out _ _).1 h)
          have hd2 : decide (cf x2 y2 < 0) = false := decide_eq_false hv2
          clear hq
          have HX2 := Lib.hid hx2
          have HY2 := Lib.hid hy2
          clear hx2 hy2
          go_wp2_with fail
          go_quiet_grown (first | (go_at_fn g; refine Calls.grown_of (hc2 _ _)))
          have S2 : Aside (SWK enc k w0 blk off d (grow (wr.drewN nq) osq)) := S1.out.grown nq osq
          clear l2a l2b hc2 S1
          generalize grow (wr.drewN nq) osq = w2 at S2 ⊢
          clear nq osq
          go_wp2
          go_roundg (j - (h + 1))
          case measure => omega
          case rel => exact ⟨h + 1, j, by go_num, rfl, by omega, by omega, hjb, Nat.le_refl _, S2, Lib.hid (.inr (by rw [Nat.add_sub_cancel, show mid + m - (h + 1) = mid + m - 1 - h by omega, HQ1.out]; exact HQ.out)), HJ⟩
      · obtain rfl : i = j := by omega
        go_upto_region 39 with (fail)
        obtain ⟨e, he⟩ : ∃ e : Nat, (mid : Int) + (m : Int) - (i : Int) = e := ⟨mid + m - i, by omega⟩
        rw [he]
        have he1 : e + i ≤ mid + m := by omega
        have he2 : mid + m ≤ e + i := by omega
        clear he
        clear hkx hlt
        obtain ⟨c1, hc1⟩ : ∃ c : Bool, c = (decide (i < m) && decide (m < e)) := ⟨_, rfl⟩
        have C1 := Lib.hid hc1
        clear hc1
        go_cut [185] from 178 (fun v185 wx => v185 = .bool c1 ∧ Aside (SWK enc k w0 blk off d wx))
        case first =>
          by_cases z1 : i < m
          · have z1' : (i : Int) < (m : Int) := by omega
            by_cases z2 : m < e
            · have z2' : (m : Int) < (e : Int) := by omega
              have cc : c1 = true := by rw [C1.out, decide_eq_true z1, decide_eq_true z2]; rfl
              go_wp2
              go_meet
              case rel => exact ⟨by rw [cc], S1⟩
            · have z2' : ¬ (m : Int) < (e : Int) := by omega
              have cc : c1 = false := by rw [C1.out, decide_eq_true z1, decide_eq_false z2]; rfl
              go_wp2
              go_meet
              case rel => exact ⟨by rw [cc], S1⟩
          · have z1' : ¬ (i : Int) < (m : Int) := by omega
            have cc : c1 = false := by rw [C1.out, decide_eq_false z1]; rfl
            go_wp2
            go_meet
            case rel => exact ⟨by rw [cc], S1⟩
        case rest =>
          clear S1
          obtain ⟨rfl, S1⟩ := hcut
          go_upto_if 185 with (fail)
          go_cut [24] from 186 (fun v24 wx => v24 = .int .i64 e ∧ ∃ d1 : Array Nat, Hid (Rot d d1 i m e) ∧ d1.size ≤ d0.size ∧ d0.size ≤ d1.size ∧ Aside (SWK enc k w0 blk off d1 wx))
          case first =>
            cases hcc : c1 with
            | true =>
              have hb := C1.out
              rw [hcc] at hb
              simp only [Bool.true_eq, Bool.and_eq_true, decide_eq_true_eq] at hb
              obtain ⟨z1, z2⟩ := hb
              subst hcc
              go_wp2_with (go_at_fn 85; refine (HROT.out i m e _ _ _ d _ rfl rfl rfl z1 z2 (by omega) (by omega) S1.out).mono ?_; rintro e' w' ⟨rfl, dr, hr, hS⟩; have S2 : Aside (SWK enc k w0 blk off dr w') := hS; have HR := Lib.hid hr; clear hr hS)
              go_meet
              case rel => exact ⟨rfl, dr, HR, by have := HR.out.size; omega, by have := HR.out.size; omega, S2⟩
            | false =>
              have hb := C1.out
              rw [hcc] at hb
              subst hcc
              have HBF := Lib.hid hb
              clear hb
              go_wp2
              go_meet
              case rel =>
                refine ⟨rfl, d, Lib.hid (rot_none (by omega) (by omega) ?_), hd1, hd2, S1⟩
                have hb := HBF.out
                simp at hb
                omega
          case rest =>
            clear S1
            obtain ⟨rfl, d1, HR, hs1, hs2, S1⟩ := hcut
            have hhalf : Half key d1 a i mid e b := rot_half (by omega) (by omega) (by omega) (by omega) (by omega) H1.out H2.out HL.out
              (by have h1 := HI.out; have h2 := HS.out; by_cases c : i = s0
                  · rcases h2 with h2 | h2
                    · exact .inl (by omega)
                    · exact .inr (.inl (by omega))
                  · rcases h1 with h1 | h1
                    · exact absurd h1 c
                    · rw [show mid + m - i = e by omega] at h1
                      exact .inr (.inr (by omega)))
              (by have h1 := HJ.out; have h2 := HR0.out; by_cases c : i = r0
                  · rcases h2 with h2 | h2
                    · exact .inl (by omega)
                    · exact .inr (.inl (by omega))
                  · rcases h1 with h1 | h1
                    · exact absurd h1 c
                    · rw [show mid + m - 1 - i = e - 1 by omega] at h1
                      exact .inr (.inr h1)) HR.out
            have HH := Lib.hid hhalf
            clear hhalf HI HJ HS HR0 H1 H2 HL
            go_upto_region 41 with (fail)
            obtain ⟨c2, hc2⟩ : ∃ c : Bool, c = (decide (a < i) && decide (i < mid)) := ⟨_, rfl⟩
            have C2 := Lib.hid hc2
            clear hc2
            go_cut [199] from 192 (fun v185 wx => v185 = .bool c2 ∧ Aside (SWK enc k w0 blk off d1 wx))
            case first =>
              by_cases z1 : a < i
              · have z1' : (a : Int) < (i : Int) := by omega
                by_cases z2 : i < mid
                · have z2' : (i : Int) < (mid : Int) := by omega
                  have cc : c2 = true := by rw [C2.out, decide_eq_true z1, decide_eq_true z2]; rfl
                  go_wp2
                  go_meet
                  case rel => exact ⟨by rw [cc], S1⟩
                · have z2' : ¬ (i : Int) < (mid : Int) := by omega
                  have cc : c2 = false := by rw [C2.out, decide_eq_true z1, decide_eq_false z2]; rfl
                  go_wp2
                  go_meet
                  case rel => exact ⟨by rw [cc], S1⟩
              · have z1' : ¬ (a : Int) < (i : Int) := by omega
                have cc : c2 = false := by rw [C2.out, decide_eq_false z1]; rfl
                go_wp2
                go_meet
                case rel => exact ⟨by rw [cc], S1⟩
            case rest =>
              clear S1
              obtain ⟨rfl, S1⟩ := hcut
              go_upto_if 199 with (fail)
              go_cut [24] from 200 (fun v24 wx => v24 = .int .i64 e ∧ ∃ d2 : Array Nat, Hid (Mrg key d1 d2 a mid) ∧ d2.size ≤ d0.size ∧ d0.size ≤ d2.size ∧ Aside (SWK enc k w0 blk off d2 wx))
              case first =>
                cases hcc : c2 with
                | true =>
                  have hb := C2.out
                  rw [hcc] at hb
                  simp only [Bool.true_eq, Bool.and_eq_true, decide_eq_true_eq] at hb
                  obtain ⟨z1, z2⟩ := hb
                  subst hcc
                  go_wp2_with (go_at_fn 73; refine (IH.out a i mid d1 _ _ _ _ rfl rfl rfl (by omega) z1 z2 (by omega) (by omega) HH.out.ll HH.out.lr HH.out.lowl S1.out).mono ?_; rintro e' w' ⟨rfl, dr, hr, hS⟩; have S2 : Aside (SWK enc k w0 blk off dr w') := hS; have HM := Lib.hid hr; clear hr hS)
                  go_meet
                  case rel => exact ⟨rfl, dr, HM, by have := HM.out.size; omega, by have := HM.out.size; omega, S2⟩
                | false =>
                  have hb := C2.out
                  rw [hcc] at hb
                  subst hcc
                  have HBF := Lib.hid hb
                  clear hb
                  go_wp2
                  go_meet
                  case rel =>
                    refine ⟨rfl, d1, Lib.hid (Mrg.same (HH.out.left ?_ (by omega) (by omega))), hs1, hs2, S1⟩
                    have hb := HBF.out
                    simp at hb
                    omega
              case rest =>
                clear S1
                obtain ⟨rfl, d2, HM, hs3, hs4, S1⟩ := hcut
                go_upto_region 43 with (fail)
                obtain ⟨c3, hc3⟩ : ∃ c : Bool, c = (decide (mid < e) && decide (e < b)) := ⟨_, rfl⟩
                have C3 := Lib.hid hc3
                clear hc3
                go_cut [213] from 206 (fun v185 wx => v185 = .bool c3 ∧ Aside (SWK enc k w0 blk off d2 wx))
                case first =>
                  by_cases z1 : mid < e
                  · have z1' : (mid : Int) < (e : Int) := by omega
                    by_cases z2 : e < b
                    · have z2' : (e : Int) < (b : Int) := by omega
                      have cc : c3 = true := by rw [C3.out, decide_eq_true z1, decide_eq_true z2]; rfl
                      go_wp2
                      go_meet
                      case rel => exact ⟨by rw [cc], S1⟩
                    · have z2' : ¬ (e : Int) < (b : Int) := by omega
                      have cc : c3 = false := by rw [C3.out, decide_eq_true z1, decide_eq_false z2]; rfl
                      go_wp2
                      go_meet
                      case rel => exact ⟨by rw [cc], S1⟩
                  · have z1' : ¬ (mid : Int) < (e : Int) := by omega
                    have cc : c3 = false := by rw [C3.out, decide_eq_false z1]; rfl
                    go_wp2
                    go_meet
                    case rel => exact ⟨by rw [cc], S1⟩
                case rest =>
                  clear S1
                  obtain ⟨rfl, S1⟩ := hcut
                  have hsame : ∀ x, mid ≤ x → d2[x]! = d1[x]! := fun x hx => HM.out.out x (.inr hx)
                  have HSA := Lib.hid hsame
                  clear hsame
                  cases hcc : c3 with
                  | true =>
                    have hb := C3.out
                    rw [hcc] at hb
                    simp only [Bool.true_eq, Bool.and_eq_true, decide_eq_true_eq] at hb
                    obtain ⟨z1, z2⟩ := hb
                    subst hcc
                    go_wp2_with (go_at_fn 73; refine (IH.out mid e b d2 _ _ _ _ rfl rfl rfl (by omega) z1 z2 (by omega) (by omega) (fun x y h1 h2 h3 => by rw [HSA.out x (by omega), HSA.out y (by omega)]; exact HH.out.rl x y h1 h2 h3) (fun x y h1 h2 h3 => by rw [HSA.out x (by omega), HSA.out y (by omega)]; exact HH.out.rr x y h1 h2 h3) (fun x y h1 h2 h3 h4 => by rw [HSA.out x (by omega), HSA.out y (by omega)]; exact HH.out.lowr x y h1 h2 h3 h4) S1.out).mono ?_; rintro e' w' ⟨rfl, dr, hr, hS⟩; have S2 : Aside (SWK enc k w0 blk off dr w') := hS; have HN := Lib.hid hr; clear hr hS)
                    go_end0
                    exact ⟨rfl, dr, HH.out.whole (by omega) (by omega) (by omega) (by omega) (by omega) (by omega) HR.out HM.out HN.out, S2.out⟩
                  | false =>
                    have hb := C3.out
                    rw [hcc] at hb
                    subst hcc
                    have HBF := Lib.hid hb
                    clear hb
                    go_wp2
                    go_end0
                    refine ⟨rfl, d2, HH.out.whole (by omega) (by omega) (by omega) (by omega) (by omega) (by omega) HR.out HM.out (Mrg.same (HH.out.right ?_ (by omega) (by omega) HSA.out)), S1.out⟩
                    have hb := HBF.out
                    simp at hb
                    omega
end
section
variable {cf : Nat → Nat → Int} {key : Nat → Int}
/-- The insertion's inner loop: the element goes to its place among those ahead. -/
theorem inner_place (hcf : ∀ x y, cf x y < 0 ↔ key x < key y) (d : Array Nat) (a i : Nat) (hid : i < d.size) : ∀ (j : Nat) (dj : Array Nat), dj.size = d.size → (∀ z, dj[z]! = if j < z ∧ z ≤ i then d[z - 1]! else if z = j then d[i]! else d[z]!) → (j = i ∨ key d[i]! < key d[j]!) → a ≤ j → j ≤ i →
    ∃ p, a ≤ p ∧ p ≤ i ∧ (insInner (ltOf cf) a j dj).size = d.size ∧ (∀ z, (insInner (ltOf cf) a j dj)[z]! = if p < z ∧ z ≤ i then d[z - 1]! else if z = p then d[i]! else d[z]!) ∧ (p = a ∨ ¬ key d[i]! < key d[p - 1]!) ∧ (p = i ∨ key d[i]! < key d[p]!)
  | 0, dj, hs, h, hk, ha, hj => by
    rw [insInner]
    exact ⟨0, ha, hj, hs, h, .inl (by omega), hk⟩
  | j + 1, dj, hs, h, hk, ha, hj => by
    by_cases c : a < j + 1 ∧ key d[i]! < key d[j]!
    · obtain ⟨c1, c2⟩ := c
      have e1 : dj[j + 1]! = d[i]! := by rw [h, if_neg (by omega), if_pos rfl]
      have e2 : dj[j]! = d[j]! := by rw [h, if_neg (by omega), if_neg (by omega)]
      have hl : ltOf cf dj[j + 1]! dj[j]! = true := by
        unfold ltOf
        rw [e1, e2]
        exact decide_eq_true ((hcf _ _).2 c2)
      rw [insInner_go (ltOf cf) a (j + 1) dj c1 (by simpa using hl)]
      refine inner_place hcf d a i hid j _ (by rw [size_swp]; exact hs) (fun z => ?_) (.inr c2) (by omega) (by omega)
      rw [Nat.add_sub_cancel, swp_get _ (by omega) (by omega), h, h, h]
      by_cases z1 : z = j
      · subst z1
        (repeat' split) <;> first | omega | rfl | exact congrArg (fun z => d[z]!) (by omega)
      · by_cases z2 : z = j + 1
        · subst z2
          (repeat' split) <;> first | omega | rfl | exact congrArg (fun z => d[z]!) (by omega)
        · (repeat' split) <;> first | omega | rfl | exact congrArg (fun z => d[z]!) (by omega)
    · rw [insInner_stop]
      · refine ⟨j + 1, ha, hj, hs, h, ?_, hk⟩
        by_cases c1 : a < j + 1
        · exact .inr (fun h2 => c ⟨c1, by simpa using h2⟩)
        · exact .inl (by omega)
      · by_cases c1 : a < j + 1
        · refine .inr ?_
          have e1 : dj[j + 1]! = d[i]! := by rw [h, if_neg (by omega), if_pos rfl]
          have e2 : dj[j]! = d[j]! := by rw [h, if_neg (by omega), if_neg (by omega)]
          rw [Nat.add_sub_cancel]
          unfold ltOf
          rw [e1, e2]
          exact decide_eq_false (fun h2 => c ⟨c1, (hcf _ _).1 h2⟩)
        · exact .inl (by omega)
/-- Numbers that ascend. -/
def Asc (d : Array Nat) (a b : Nat) : Prop := ∀ x y, a ≤ x → x < y → y < b → d[x]! < d[y]!
theorem outer_stable (hcf : ∀ x y, cf x y < 0 ↔ key x < key y) (d : Array Nat) (a b : Nat) (hb : b ≤ d.size) (ha : Asc d a b) : ∀ (n i : Nat) (dk : Array Nat), b - i ≤ n → a < i → i ≤ b → Mrg key d dk a i → Mrg key d (insOuter (ltOf cf) a b i dk) a b
  | 0, i, dk, h1, h2, h3, h => by
    rw [insOuter_stop _ _ _ _ _ (by omega)]
    rw [show i = b by omega] at h
    exact h
  | n + 1, i, dk, h1, h2, h3, h => by
    by_cases c : i < b
    · rw [insOuter_go _ _ _ _ _ c]
      refine outer_stable hcf d a b hb ha n (i + 1) _ (by omega) (by omega) c ?_
      obtain ⟨p, hp1, hp2, hp3, hp4, hp5, hp6⟩ := inner_place hcf dk a i (by have := h.size; omega) i dk rfl (fun z => by rw [if_neg (by omega)]; split <;> first | rfl | (subst_vars; rfl)) (.inl rfl) (by omega) (Nat.le_refl _)
      have hlow : Lows dk a i (i + 1) := by
        intro x y h4 h5 h6 h7
        obtain ⟨z, h8, h9, h10⟩ := h.sub x h4 h5
        rw [h10, h.out y (.inr h6), show y = i by omega]
        exact ha _ _ h8 h9 c
      have hm := ins_last h.srt hlow hp1 hp2 hp5 hp6 hp3 hp4
      refine ⟨hm.size.trans h.size, fun x hx => ?_, fun x h4 h5 => ?_, hm.srt⟩
      · rw [hm.out x hx, h.out x (by omega)]
      · obtain ⟨y, h6, h7, h8⟩ := hm.sub x h4 h5
        by_cases c2 : y < i
        · obtain ⟨z, h9, h10, h11⟩ := h.sub y h6 c2
          exact ⟨z, h9, by omega, h8.trans h11⟩
        · exact ⟨y, h6, h7, by rw [h8, h.out y (.inr (by omega))]⟩
    · rw [insOuter_stop _ _ _ _ _ c]
      rw [show i = b by omega] at h
      exact h
theorem insertion_stable (hcf : ∀ x y, cf x y < 0 ↔ key x < key y) (d : Array Nat) (a b : Nat) (hab : a ≤ b) (hb : b ≤ d.size) (ha : Asc d a b) : Mrg key d (insertionSort (ltOf cf) d a b) a b := by
  unfold Sort.insertionSort
  by_cases c : a < b
  · exact outer_stable hcf d a b hb ha (b - a) (a + 1) d (by omega) (by omega) c ⟨rfl, fun _ _ => rfl, fun x h1 h2 => ⟨x, h1, h2, rfl⟩, fun x y h1 h2 h3 => by omega⟩
  · rw [insOuter_stop _ _ _ _ _ (by omega)]
    exact ⟨rfl, fun _ _ => rfl, fun x h1 h2 => ⟨x, h1, h2, rfl⟩, fun x y h1 h2 h3 => by omega⟩
/-- Blocks of s elements, in order each, of the numbers that lay in it. -/
structure Blk (key : Nat → Int) (d : Array Nat) (n s lo hi : Nat) : Prop where
  num : ∀ x, lo ≤ x → x < hi → d[x]! < n ∧ d[x]! / s = x / s
  srt : ∀ x y, lo ≤ x → x < y → y < hi → x / s = y / s → lx key d[x]! d[y]!
theorem div_of {s q x : Nat} (h1 : q * s ≤ x) (h2 : x < q * s + s) : x / s = q := by
  have hs : 0 < s := by omega
  refine Nat.div_eq_of_lt_le h1 ?_
  rw [Nat.succ_mul]
  exact h2
theorem of_div {s q x : Nat} (hs : 0 < s) (h : x / s = q) : q * s ≤ x ∧ x < q * s + s := by
  subst h
  have h1 := Nat.div_mul_le_self x s
  have h2 := Nat.lt_div_mul_add (a := x) (b := s) hs
  exact ⟨h1, h2⟩
theorem Blk.step {d d' : Array Nat} {n S a b q : Nat} (h : Blk key d n S 0 a) (ha : a = q * S) (hab : a ≤ b) (hbS : b ≤ a + S) (hm : Mrg key d d' a b) (hnum : ∀ y, a ≤ y → y < b → d[y]! < n ∧ d[y]! / S = q) : Blk key d' n S 0 b := by
  refine ⟨fun x _ hx => ?_, fun x y _ hxy hy he => ?_⟩
  · by_cases c : x < a
    · rw [hm.out x (.inl c)]
      exact h.num x (Nat.zero_le _) c
    · obtain ⟨y, h1, h2, h3⟩ := hm.sub x (by omega) hx
      rw [h3]
      obtain ⟨h4, h5⟩ := hnum y h1 h2
      exact ⟨h4, by rw [h5, div_of (q := q) (by omega) (by omega)]⟩
  · by_cases c : y < a
    · rw [hm.out x (.inl (by omega)), hm.out y (.inl c)]
      exact h.srt x y (Nat.zero_le _) hxy c he
    · by_cases c1 : a ≤ x
      · exact hm.srt x y c1 hxy hy
      · exfalso
        have h1 : y / S = q := div_of (by omega) (by omega)
        have h2 := of_div (s := S) (by omega) (he.trans h1)
        omega
theorem Blk.keep {d d' : Array Nat} {n s lo lo' hi : Nat} (h : Blk key d n s lo hi) (hl : lo ≤ lo') (ho : ∀ x, lo' ≤ x → x < hi → d'[x]! = d[x]!) : Blk key d' n s lo' hi := by
  refine ⟨fun x h1 h2 => ?_, fun x y h1 h2 h3 h4 => ?_⟩
  · rw [ho x h1 h2]
    exact h.num x (by omega) h2
  · rw [ho x h1 (by omega), ho y (by omega) h3]
    exact h.srt x y (by omega) h2 h3 h4
theorem twice (q s : Nat) : q * (2 * s) = (2 * q) * s ∧ (2 * q + 1) * s = q * (2 * s) + s := by
  constructor
  · rw [← Nat.mul_assoc, Nat.mul_comm q 2]
  · rw [Nat.succ_mul, ← Nat.mul_assoc, Nat.mul_comm q 2]
/-- What a merge of two blocks wants. -/
theorem Blk.pre {d : Array Nat} {n s a m b q : Nat} (h : Blk key d n s a n) (ha : a = q * (2 * s)) (hm : m = a + s) (hmb : m < b) (hb : b ≤ a + 2 * s) (hbn : b ≤ n) : Srt key d a m ∧ Srt key d m b ∧ Lows d a m b ∧ ∀ y, a ≤ y → y < b → d[y]! < n ∧ d[y]! / (2 * s) = q := by
  obtain ⟨t1, t2⟩ := twice q s
  have e1 : ∀ x, a ≤ x → x < m → x / s = 2 * q := fun x h1 h2 => div_of (by omega) (by omega)
  have e2 : ∀ x, m ≤ x → x < b → x / s = 2 * q + 1 := fun x h1 h2 => div_of (by omega) (by omega)
  have hs : 0 < s := by omega
  refine ⟨fun x y h1 h2 h3 => h.srt x y h1 h2 (by omega) (by rw [e1 x h1 (by omega), e1 y (by omega) h3]), fun x y h1 h2 h3 => h.srt x y (by omega) h2 (by omega) (by rw [e2 x h1 (by omega), e2 y (by omega) h3]), fun x y h1 h2 h3 h4 => ?_, fun y h1 h2 => ?_⟩
  · have a1 := of_div hs ((h.num x h1 (by omega)).2.trans (e1 x h1 h2))
    have a2 := of_div hs ((h.num y (by omega) (by omega)).2.trans (e2 y h3 h4))
    omega
  · obtain ⟨h3, h4⟩ := h.num y h1 (by omega)
    refine ⟨h3, ?_⟩
    by_cases c : y < m
    · have a1 := of_div hs (h4.trans (e1 y h1 c))
      exact div_of (by omega) (by omega)
    · have a1 := of_div hs (h4.trans (e2 y (by omega) h2))
      exact div_of (by omega) (by omega)
/-- .. and what there is, where one block alone is left. -/
theorem Blk.one {d : Array Nat} {n s a q : Nat} (h : Blk key d n s a n) (ha : a = q * (2 * s)) (hs : 0 < s) (hn : n ≤ a + s) : Srt key d a n ∧ ∀ y, a ≤ y → y < n → d[y]! < n ∧ d[y]! / (2 * s) = q := by
  obtain ⟨t1, t2⟩ := twice q s
  have e1 : ∀ x, a ≤ x → x < n → x / s = 2 * q := fun x h1 h2 => div_of (by omega) (by omega)
  refine ⟨fun x y h1 h2 h3 => h.srt x y h1 h2 h3 (by rw [e1 x h1 (by omega), e1 y (by omega) h3]), fun y h1 h2 => ?_⟩
  obtain ⟨h3, h4⟩ := h.num y h1 h2
  have a1 := of_div hs (h4.trans (e1 y h1 h2))
  exact ⟨h3, div_of (by omega) (by omega)⟩
end
section
variable {P : Program} {ρ : Ren} {k : Nat} {enc : Nat → List Value} {cf : Nat → Nat → Int} {key : Nat → Int} {g : Nat} {cb : Array Value} {blk off cap : Nat} {d0 : Array Nat} {w0 : World}
theorem symMerge_calls (L : StabL P k) (hcf : ∀ x y, cf x y < 0 ↔ key x < key y) (eg : ∀ args w, (callFunc g args).run P w = .ok (.enter g args) w) (hcmp : CmpLays P g cb enc k cf blk off d0.size w0) (R : RowK enc k w0 blk off d0) (hsz : d0.size < 4611686018427387904) : ∀ (N a m b : Nat) (d : Array Nat) (w : World) (A M B : Int), (a : Int) = A → (m : Int) = M → (b : Int) = B → b - a ≤ N → a < m → m < b → b ≤ d.size → d.size = d0.size → Srt key d a m → Srt key d m b → Lows d a m b → SWK enc k w0 blk off d w →
    Calls P 73 #[.slice (some ⟨blk, off, none⟩) d0.size cap, .int .i64 A, .int .i64 M, .int .i64 B, .func (.func g) #[] cb] w fun e w' => e = .returned (.tuple #[]) ∧ ∃ d', Mrg key d d' a b ∧ SWK enc k w0 blk off d' w'
  | 0, a, m, b, d, w, A, M, B, _, _, _, h4, h5, h6, _, _, _, _, _, _ => absurd h4 (by omega)
  | N + 1, a, m, b, d, w, A, M, B, h1, h2, h3, h4, h5, h6, h7, h8, h9, h10, h11, S => by
    subst h1 h2 h3
    by_cases c1 : m = a + 1
    · exact symMerge_first L hcf eg hcmp R hsz a m b d w c1 h6 h7 h8 h10 h11 S
    · by_cases c2 : b = m + 1
      · exact symMerge_last L hcf eg hcmp R hsz a m b d w (by omega) c2 h7 h8 h9 h11 S
      · exact symMerge_mid L hcf eg hcmp R hsz a m b d w (by omega) (by omega) h7 h8 h9 h10 h11 S
          (fun a' m' b' d' w' A M B g1 g2 g3 g4 g5 g6 g7 g8 g9 g10 g11 g12 => symMerge_calls L hcf eg hcmp R hsz N a' m' b' d' w' A M B g1 g2 g3 (by omega) g5 g6 g7 g8 g9 g10 g11 g12)
set_option maxHeartbeats 8000000 in
set_option maxRecDepth 1000000 in
theorem stable_calls (L : StabL P k) (hcf : ∀ x y, cf x y < 0 ↔ key x < key y) (eg : ∀ args w, (callFunc g args).run P w = .ok (.enter g args) w) (hcmp : CmpLays P g cb enc k cf blk off d0.size w0) (R : RowK enc k w0 blk off d0) (hsz : d0.size < 4611686018427387904) (LI : SlLaysF0.n20 P ρ) (hi : ρ.f 20 = 72) (aI : ∀ w, (isAgg (ρ.t 24)).run P w = .ok true w) (zI : ∀ w, (Go.sizeOf (ρ.t 24)).run P w = .ok k w) (hO : SWO (ltOf cf))
    (hid : ∀ x, x < d0.size → d0[x]! = x) (w : World) (S : SWK enc k w0 blk off d0 w) :
    Calls P 62 #[.slice (some ⟨blk, off, none⟩) d0.size cap, .int .i64 d0.size, .func (.func g) #[] cb] w fun e w' => e = .returned (.tuple #[]) ∧ ∃ d' : Array Nat, d'.size = d0.size ∧ Srt key d' 0 d0.size ∧ (∀ x, x < d0.size → d'[x]! < d0.size) ∧ SWK enc k w0 blk off d' w' := by
  have mixed := L.mixed; have t0 := L.t0; have a0 := L.a0; have z0 := L.z0; have v0 := L.v0; have t3 := L.t3; have a3 := L.a3; have z3 := L.z3; have v3 := L.v3; have t4 := L.t4; have a4 := L.a4; have z4 := L.z4; have v4 := L.v4; have t45 := L.t45; have a45 := L.a45; have z45 := L.z45; have t117 := L.t117; have a117 := L.a117; have z117 := L.z117
  have e135 : ∀ args w, (callFunc 73 args).run P w = .ok (.enter 73 args) w := enters_of L.f135 (by kernel_rfl) rfl
  have e134 : ∀ args w, (callFunc 72 args).run P w = .ok (.enter 72 args) w := by
    have := LI.f20.enters rfl
    rw [hi] at this
    exact this
  have hINS : ∀ (a b : Nat) (dk : Array Nat) (W : World) (A B : Int), (a : Int) = A → (b : Int) = B → a ≤ b → b ≤ dk.size → dk.size = d0.size → SWK enc k w0 blk off dk W → Asc dk a b →
      Calls P 72 #[.slice (some ⟨blk, off, none⟩) d0.size cap, .int .i64 A, .int .i64 B, .func (.func g) #[] cb] W fun e w' => e = .returned (.tuple #[]) ∧ ∃ d', Mrg key dk d' a b ∧ SWK enc k w0 blk off d' w' := by
    intro a b dk W A B h1 h2 h3 h4 h5 h6 h7
    subst h1 h2
    have := AnyQ.insertionSortCmpFunc_w LI k aI zI enc cf g cb blk off cap a b d0 dk w0 W eg hcmp R h5.symm h6 hO h3 h4 (by omega)
    rw [h5, hi] at this
    exact this.mono fun e w' ⟨he, hS⟩ => ⟨he, _, insertion_stable hcf dk a b h3 h4 h7, hS⟩
  have hSM := symMerge_calls (cap := cap) L hcf eg hcmp R hsz
  have HINS := Lib.hid hINS
  have HSM := Lib.hid hSM
  have HID := Lib.hid hid
  have S0 : Aside (SWK enc k w0 blk off d0 w) := S
  clear hINS hSM hid S hcmp hcf hi aI zI
  obtain ⟨n, hn⟩ : ∃ n, d0.size = n := ⟨_, rfl⟩
  rw [hn]
  have hn1 : n ≤ d0.size := by omega
  have hn2 : d0.size ≤ n := by omega
  have HN := Lib.hid hn
  rw [hn] at HINS HSM HID hsz
  clear hn
  go_enter L.f120, Try.ntmps62
  go_wp2
  go_loopg [7, 8] n (fun kx s7 s8 wr => ∃ (a b q : Nat) (dk : Array Nat), s7 = .int .i64 a ∧ s8 = .int .i64 b ∧ a ≤ n ∧ b ≤ a + 20 ∧ a + 20 ≤ b ∧ n - a ≤ kx ∧ dk.size ≤ n ∧ n ≤ dk.size ∧ Aside (SWK enc k w0 blk off dk wr) ∧ Hid (a = q * 20 ∧ Blk key dk n 20 0 a ∧ ∀ x, a ≤ x → x < n → dk[x]! = x))
  case atStart => exact ⟨0, 20, 0, d0, rfl, rfl, Nat.zero_le _, by omega, by omega, by omega, hn2, hn1, S0, Lib.hid ⟨by omega, ⟨fun x _ h => by omega, fun x y _ _ h => by omega⟩, fun x _ h => HID.out x h⟩⟩
  case round =>
    clear S0
    obtain ⟨a, b, q, dk, rfl, rfl, han, hb1, hb2, hkx, hk1, hk2, S1, HB⟩ := hrel
    have hasc : ∀ c, c ≤ n → Asc dk a c := fun c hc x y h1 h2 h3 => by rw [HB.out.2.2 x h1 (by omega), HB.out.2.2 y (by omega) (by omega)]; exact h2
    have HASC := Lib.hid hasc
    clear hasc
    by_cases hlt : b ≤ n
    · have hltz : (b : Int) ≤ (n : Int) := by omega
      go_wp2_with (go_at_fn 72; refine (HINS.out a b dk _ _ _ rfl rfl (by omega) (by omega) (by have := HN.out; omega) S1.out (HASC.out b hlt)).mono ?_; rintro e' w' ⟨rfl, dr, hr, hS⟩; have S2 : Aside (SWK enc k w0 blk off dr w') := hS; have HM := Lib.hid hr; clear hr hS)
      go_roundg (n - b)
      case measure => omega
      case rel =>
        obtain ⟨h1, h2, h3⟩ := HB.out
        refine ⟨b, b + 20, q + 1, dr, rfl, by go_num, hlt, Nat.le_refl _, Nat.le_refl _, Nat.le_refl _, by have := HM.out.size; omega, by have := HM.out.size; omega, S2, Lib.hid ⟨by omega, h2.step h1 (by omega) hb1 HM.out (fun y g1 g2 => ?_), fun x g1 g2 => by rw [HM.out.out x (.inr g1)]; exact h3 x (by omega) g2⟩⟩
        rw [h3 y g1 (by omega)]
        exact ⟨by omega, div_of (by omega) (by omega)⟩
    · have hltz : ¬ (b : Int) ≤ (n : Int) := by omega
      go_wp2_with (go_at_fn 72; refine (HINS.out a n dk _ _ _ rfl rfl (by omega) (by omega) (by have := HN.out; omega) S1.out (HASC.out n (Nat.le_refl _))).mono ?_; rintro e' w' ⟨rfl, dr, hr, hS⟩; have S2 : Aside (SWK enc k w0 blk off dr w') := hS; have HM := Lib.hid hr; clear hr hS)
      have hB0 : Blk key dr n 20 0 n := by
        obtain ⟨h1, h2, h3⟩ := HB.out
        refine h2.step h1 (by omega) (by omega) HM.out (fun y g1 g2 => ?_)
        rw [h3 y g1 (by omega)]
        exact ⟨by omega, div_of (by omega) (by omega)⟩
      have HB0 := Lib.hid hB0
      have hr1 : dr.size ≤ n := by have := HM.out.size; omega
      have hr2 : n ≤ dr.size := by have := HM.out.size; omega
      clear hB0 HB HASC HM S1
      go_loopg [6] n (fun kx s6 wr => ∃ (s : Nat) (dk : Array Nat), s6 = .int .i64 s ∧ 20 ≤ s ∧ s ≤ 2 * n + 20 ∧ n - s ≤ kx ∧ dk.size ≤ n ∧ n ≤ dk.size ∧ Aside (SWK enc k w0 blk off dk wr) ∧ Hid (Blk key dk n s 0 n))
      case atStart => exact ⟨20, dr, rfl, by omega, by omega, by omega, hr1, hr2, S2, HB0⟩
      case round =>
        clear S2 HB0 hr1 hr2
        obtain ⟨s, dk, rfl, hs1, hs2, hkx, hk1, hk2, S1, HB⟩ := hrel
        by_cases hlt2 : s < n
        · have hltz2 : (s : Int) < (n : Int) := by omega
          go_wp2
          go_loopg [7, 8] n (fun kx2 s7 s8 wr => ∃ (a b q : Nat) (dk : Array Nat), s7 = .int .i64 a ∧ s8 = .int .i64 b ∧ a ≤ n ∧ b ≤ a + 2 * s ∧ a + 2 * s ≤ b ∧ n - a ≤ kx2 ∧ dk.size ≤ n ∧ n ≤ dk.size ∧ Aside (SWK enc k w0 blk off dk wr) ∧ Hid (a = q * (2 * s) ∧ Blk key dk n (2 * s) 0 a ∧ Blk key dk n s a n))
          case atStart => exact ⟨0, 2 * s, 0, dk, rfl, by go_num, Nat.zero_le _, by omega, by omega, by omega, hk1, hk2, S1, Lib.hid ⟨by omega, ⟨fun x _ h => by omega, fun x y _ _ h => by omega⟩, HB.out⟩⟩
          case round =>
            clear S1 HB hk1 hk2
            obtain ⟨a, b, q, dk, rfl, rfl, han, hb1, hb2, hkx2, hk1, hk2, S1, HB⟩ := hrel
            by_cases hlt3 : b ≤ n
            · have hltz3 : (b : Int) ≤ (n : Int) := by omega
              have hpre := Lib.hid (HB.out.2.2.pre HB.out.1 (m := a + s) rfl (b := b) (by omega) hb1 hlt3)
              go_wp2_with (go_at_fn 73; refine (HSM.out (b - a) a (a + s) b dk _ (a : Int) ((a : Int) + (s : Int)) (b : Int) rfl (by omega) rfl (Nat.le_refl _) (by omega) (by omega) (by omega) (by omega) hpre.out.1 hpre.out.2.1 hpre.out.2.2.1 S1.out).mono ?_; rintro e' w' ⟨rfl, dr, hr, hS⟩; have S2 : Aside (SWK enc k w0 blk off dr w') := hS; have HM := Lib.hid hr; clear hr hS)
              go_roundg (n - b)
              case measure => omega
              case rel =>
                obtain ⟨h1, h2, h3⟩ := HB.out
                exact ⟨b, b + 2 * s, q + 1, dr, rfl, by go_num, hlt3, Nat.le_refl _, Nat.le_refl _, Nat.le_refl _, by have := HM.out.size; omega, by have := HM.out.size; omega, S2, Lib.hid ⟨by rw [Nat.succ_mul]; omega, h2.step h1 (by omega) hb1 HM.out hpre.out.2.2.2, h3.keep (by omega) (fun x g1 g2 => HM.out.out x (.inr g1))⟩⟩
            · have hltz3 : ¬ (b : Int) ≤ (n : Int) := by omega
              by_cases hlt4 : a + s < n
              · have hltz4 : (a : Int) + (s : Int) < (n : Int) := by omega
                have hpre := Lib.hid (HB.out.2.2.pre HB.out.1 (m := a + s) rfl (b := n) hlt4 (by omega) (Nat.le_refl _))
                go_wp2_with (go_at_fn 73; refine (HSM.out (n - a) a (a + s) n dk _ (a : Int) ((a : Int) + (s : Int)) (n : Int) rfl (by omega) rfl (Nat.le_refl _) (by omega) (by omega) (by omega) (by omega) hpre.out.1 hpre.out.2.1 hpre.out.2.2.1 S1.out).mono ?_; rintro e' w' ⟨rfl, dr, hr, hS⟩; have S2 : Aside (SWK enc k w0 blk off dr w') := hS; have HM := Lib.hid hr; clear hr hS)
                go_roundg (n - s * 2)
                case measure => omega
                case rel =>
                  obtain ⟨h1, h2, h3⟩ := HB.out
                  exact ⟨s * 2, dr, by go_num, by omega, by omega, Nat.le_refl _, by have := HM.out.size; omega, by have := HM.out.size; omega, S2, Lib.hid (by rw [Nat.mul_comm s 2]; exact h2.step h1 han (by omega) HM.out hpre.out.2.2.2)⟩
              · have hltz4 : ¬ (a : Int) + (s : Int) < (n : Int) := by omega
                go_wp2
                go_roundg (n - s * 2)
                case measure => omega
                case rel =>
                  obtain ⟨h1, h2, h3⟩ := HB.out
                  obtain ⟨g1, g2⟩ := h3.one h1 (by omega) (by omega)
                  exact ⟨s * 2, dk, by go_num, by omega, by omega, Nat.le_refl _, hk1, hk2, S1, Lib.hid (by rw [Nat.mul_comm s 2]; exact h2.step h1 han (by omega) (Mrg.same g1) g2)⟩
        · have hltz2 : ¬ (s : Int) < (n : Int) := by omega
          go_wp2
          go_end0
          have hz : ∀ x, x < n → x / s = 0 := fun x hx => Nat.div_eq_of_lt (by omega)
          exact ⟨rfl, dk, by omega, fun x y h1 h2 h3 => HB.out.srt x y h1 h2 h3 (by rw [hz x (by omega), hz y h3]), fun x hx => (HB.out.num x (Nat.zero_le _) hx).1, S1.out⟩
set_option maxHeartbeats 4000000 in
set_option maxRecDepth 1000000 in
/-- slices.SortStableFunc. -/
theorem sortStable_calls (L : StabL P k) (hcf : ∀ x y, cf x y < 0 ↔ key x < key y) (eg : ∀ args w, (callFunc g args).run P w = .ok (.enter g args) w) (hcmp : CmpLays P g cb enc k cf blk off d0.size w0) (R : RowK enc k w0 blk off d0) (hsz : d0.size < 4611686018427387904) (LI : SlLaysF0.n20 P ρ) (hi : ρ.f 20 = 72) (aI : ∀ w, (isAgg (ρ.t 24)).run P w = .ok true w) (zI : ∀ w, (Go.sizeOf (ρ.t 24)).run P w = .ok k w) (hO : SWO (ltOf cf))
    (hid : ∀ x, x < d0.size → d0[x]! = x) (w : World) (S : SWK enc k w0 blk off d0 w) :
    Calls P 38 #[.slice (some ⟨blk, off, none⟩) d0.size cap, .func (.func g) #[] cb] w fun e w' => e = .returned (.tuple #[]) ∧ ∃ d' : Array Nat, d'.size = d0.size ∧ Srt key d' 0 d0.size ∧ (∀ x, x < d0.size → d'[x]! < d0.size) ∧ SWK enc k w0 blk off d' w' := by
  have mixed := L.mixed; have t0 := L.t0; have a0 := L.a0; have z0 := L.z0; have v0 := L.v0; have t3 := L.t3; have a3 := L.a3; have z3 := L.z3; have v3 := L.v3; have t4 := L.t4; have a4 := L.a4; have z4 := L.z4; have v4 := L.v4; have t45 := L.t45; have a45 := L.a45; have z45 := L.z45; have t117 := L.t117; have a117 := L.a117; have z117 := L.z117
  have e120 : ∀ args w, (callFunc 62 args).run P w = .ok (.enter 62 args) w := enters_of L.f120 (by kernel_rfl) rfl
  have h := stable_calls (cap := cap) L hcf eg hcmp R hsz LI hi aI zI hO hid w S
  have HS := Lib.hid h
  clear h hcf hcmp hi aI zI hid S
  go_enter L.f99, Try.ntmps38
  go_wp2_with (go_at_fn 62; refine HS.out.mono ?_; rintro e w' ⟨rfl, hr⟩; have HR := Lib.hid hr; clear hr)
  go_end0
  exact ⟨rfl, HR.out⟩
end
/-! What a stable sort leaves, as a list. -/
theorem lx_irrefl {key : Nat → Int} {x : Nat} : ¬ lx key x x := by unfold lx; omega
theorem eq_of_lx {key : Nat → Int} {l l' : List Nat} (h : l.Pairwise (lx key)) (h' : l'.Pairwise (lx key)) (hm : ∀ i, i ∈ l ↔ i ∈ l') : l = l' := by
  have nd : ∀ {m : List Nat}, m.Pairwise (lx key) → m.Nodup := fun hp => hp.imp (fun {a b} hab e => by subst e; exact lx_irrefl hab)
  exact List.Perm.eq_of_pairwise (le := lx key) (fun a b _ _ h1 h2 => absurd (lx_trans h1 h2) lx_irrefl) h h' ((List.perm_ext_iff_of_nodup (nd h) (nd h')).2 hm)
theorem srt_pairwise {key : Nat → Int} {d : Array Nat} {n : Nat} (hs : d.size = n) (h : Srt key d 0 n) : d.toList.Pairwise (lx key) := by
  rw [List.pairwise_iff_getElem]
  intro i j hi hj hij
  have h1 := h i j (Nat.zero_le _) hij (by simpa [hs] using hj)
  rw [getElem!_pos d i (by simpa using hi), getElem!_pos d j (by simpa using hj)] at h1
  simpa using h1
/-- Numbers below n that are all different, n of them: all. -/
theorem all_of_nodup {l : List Nat} {n : Nat} (hn : l.Nodup) (hb : ∀ x ∈ l, x < n) (hl : n ≤ l.length) (i : Nat) (hi : i < n) : i ∈ l := by
  by_cases c : i ∈ l
  · exact c
  · exfalso
    have hsub : l ⊆ (List.range n).erase i := by
      intro x hx
      rw [List.Nodup.mem_erase_iff List.nodup_range]
      exact ⟨fun e => c (e ▸ hx), List.mem_range.2 (hb x hx)⟩
    have h1 := hn.length_le_of_subset hsub
    rw [List.length_erase_of_mem (List.mem_range.2 hi), List.length_range] at h1
    omega
theorem srt_mem {key : Nat → Int} {d : Array Nat} {n : Nat} (hs : d.size = n) (h : Srt key d 0 n) (hb : ∀ x, x < n → d[x]! < n) (i : Nat) : i ∈ d.toList ↔ i < n := by
  have hin : ∀ x ∈ d.toList, x < n := by
    intro x hx
    obtain ⟨j, hj, e⟩ := List.mem_iff_getElem.1 hx
    have h1 := hb j (by simpa [hs] using hj)
    rw [getElem!_pos d j (by simpa using hj)] at h1
    rw [← e]
    simpa using h1
  refine ⟨hin i, fun hi => all_of_nodup ?_ hin (by simp [hs]) i hi⟩
  exact (srt_pairwise hs h).imp (fun {a b} hab e => by subst e; exact lx_irrefl hab)
/-- The numbers below n, key by key, from key c0 on, so many keys. -/
def blocks (key : Nat → Int) (n : Nat) (c0 : Int) (m : Nat) : List Nat := (List.range m).flatMap (fun c : Nat => (List.range n).filter (fun i => key i == c0 + (c : Int)))
theorem blocks_mem {key : Nat → Int} {n m : Nat} {c0 : Int} (hm : ∀ i, i < n → key i < c0 + m) (i : Nat) : i ∈ blocks key n c0 m ↔ i < n ∧ c0 ≤ key i := by
  unfold blocks
  simp only [List.mem_flatMap, List.mem_range, List.mem_filter, beq_iff_eq]
  constructor
  · rintro ⟨c, _, h1, h2⟩
    exact ⟨h1, by omega⟩
  · rintro ⟨h1, h2⟩
    have := hm i h1
    exact ⟨(key i - c0).toNat, by omega, h1, by omega⟩
theorem blocks_pairwise {key : Nat → Int} {n m : Nat} {c0 : Int} : (blocks key n c0 m).Pairwise (lx key) := by
  unfold blocks
  rw [List.pairwise_flatMap]
  refine ⟨fun c _ => ?_, ?_⟩
  · rw [List.pairwise_filter]
    exact List.pairwise_lt_range.imp (fun {a b} hab h1 h2 => by
      rw [beq_iff_eq] at h1 h2
      exact .inr ⟨by omega, hab⟩)
  · refine List.Pairwise.imp (R := fun a b => a < b) ?_ List.pairwise_lt_range
    intro a b hab x hx y hy
    simp only [List.mem_filter, beq_iff_eq] at hx hy
    exact .inl (by omega)
theorem sorted_blocks {key : Nat → Int} {d : Array Nat} {n m : Nat} {c0 : Int} (hs : d.size = n) (h : Srt key d 0 n) (hb : ∀ x, x < n → d[x]! < n) (hm : ∀ i, i < n → key i < c0 + m) : d.toList.filter (fun i => decide (c0 ≤ key i)) = blocks key n c0 m := by
  refine eq_of_lx (key := key) ((srt_pairwise hs h).filter _) blocks_pairwise (fun i => ?_)
  rw [List.mem_filter, srt_mem hs h hb, blocks_mem hm, decide_eq_true_eq]
/-- A row of cells that lie one behind the other is what the sort takes. -/
theorem holds_range {α : Type} (g : α → List Value) (z : α) (sz : Nat) (hs : 0 < sz) (hg : ∀ x, (g x).length = sz) {W : World} {b : Nat} {l : List α} (hc : ∀ j, j < l.length → ∀ i u, (g (l[j]?.getD z))[i]? = some u → W.cell? ⟨b, j * sz + i, none⟩ = some u) (hf : ∀ j, W.frozen? ⟨b, j, none⟩ = false) :
    Sort.HoldsK (fun i => g (l[i]?.getD z)) sz W b 0 (Array.range l.length) := by
  intro j hj
  rw [Sort.size_flatK] at hj
  have hj' : j < l.length * sz := by simpa using hj
  rw [Nat.zero_add]
  refine ⟨?_, hf j⟩
  rw [Sort.get_flatK _ _ _ _ hj]
  have hq : j / sz < l.length := Nat.div_lt_of_lt_mul (by rwa [Nat.mul_comm] at hj')
  have hm := Nat.mod_lt j hs
  have e : j / sz * sz + j % sz = j := Nat.div_add_mod' j sz
  have h2 := hc (j / sz) hq (j % sz) _ (List.getElem?_eq_getElem (by rw [hg]; exact hm))
  rw [e] at h2
  rw [h2]
  have e3 : (Array.range l.length)[j / sz]! = j / sz := by simp [hq]
  rw [e3, getElem!_pos _ _ (by rw [hg]; exact hm)]
  rfl
/-- What the sort leaves beside its row. -/
theorem swk_blk {α : Type} [Inhabited α] {enc : α → List Value} {k : Nat} {w0 W : World} {g off : Nat} {d : Array α} (h : SWK enc k w0 g off d W) {b : Nat} {o : Obj} (hb : w0.heap[b]? = some o) (hne : b ≠ g) : W.heap[b]? = some o := by
  obtain ⟨n, os, rfl⟩ := h
  unfold sortWorldK
  have h1 : (Sort.putRowK enc k (Sort.ahead w0 n) g off d).heap[b]? = some o := by
    unfold Sort.putRowK Sort.putRow Sort.mapBlock
    show (w0.heap.modify g _)[b]? = some o
    rw [Array.getElem?_modify, if_neg (Ne.symm hne)]
    exact hb
  show (_ ++ os)[b]? = some o
  rw [Array.getElem?_append_left (Array.getElem?_eq_some_iff.1 h1).1]
  exact h1
theorem swk_below {α : Type} [Inhabited α] {enc : α → List Value} {k : Nat} {w0 W : World} {g off n₀ : Nat} {d : Array α} (h : SWK enc k w0 g off d W) (h0 : n₀ ≤ g) (hg : g < w0.heap.size) : Below n₀ w0 W := by
  have hs := h.le
  have h2 : ∀ b o, w0.heap[b]? = some o → b ≠ g → W.heap[b]? = some o := fun b o hb hne => swk_blk h hb hne
  obtain ⟨n, os, rfl⟩ := h
  exact ⟨rfl, rfl, rfl, hs, fun k hk => by
    have hk' : k < w0.heap.size := by omega
    rw [Array.getElem?_eq_getElem hk']
    exact h2 k _ (Array.getElem?_eq_getElem hk') (by omega)⟩
/-- .. and this program holds it. -/
theorem stabL : StabL Try.prog 9 := ⟨by kernel_rfl, by kernel_rfl, by kernel_rfl, by kernel_rfl, by kernel_rfl, by kernel_rfl, by kernel_rfl, fun _ => by kernel_rfl, fun _ => by kernel_rfl, fun _ => by kernel_rfl, by kernel_rfl, fun _ => by kernel_rfl, fun _ => by kernel_rfl, fun _ => by kernel_rfl, by kernel_rfl, fun _ => by kernel_rfl, fun _ => by kernel_rfl, fun _ => by kernel_rfl, by kernel_rfl, fun _ => by kernel_rfl, fun _ => by kernel_rfl, by kernel_rfl, fun _ => by kernel_rfl, fun _ => by kernel_rfl, by kernel_rfl, fun _ => by kernel_rfl, fun _ => by kernel_rfl, fun _ => by kernel_rfl, fun _ => by kernel_rfl⟩
/-! .. of no elements. -/
theorem insNil (A : Option Addr) (c g : Nat) (cb : Array Value) (w : World) : Calls Try.prog 72 #[.slice A 0 c, .int .i64 0, .int .i64 0, .func (.func g) #[] cb] w fun e w' => e = .returned (.tuple #[]) ∧ w = w' := by
  go_enter Try.func72, Try.ntmps72
  go_wp2
  go_loop [8] (fun s8 => s8 = .int .i64 1) (fun _ => 0)
  case atStart => rfl
  case round =>
    obtain rfl := hrel
    go_wp2
    go_end0
    exact ⟨rfl, rfl⟩
theorem stableNil (A : Option Addr) (c g : Nat) (cb : Array Value) (w : World) : Calls Try.prog 62 #[.slice A 0 c, .int .i64 0, .func (.func g) #[] cb] w fun e w' => e = .returned (.tuple #[]) ∧ w = w' := by
  have h := fun W => insNil A c g cb W
  have H := Lib.hid h
  clear h
  go_enter Try.func62, Try.ntmps62
  go_wp2
  go_loop [7, 8] (fun s7 s8 => s7 = .int .i64 0 ∧ s8 = .int .i64 20) (fun _ _ => 0)
  case atStart => exact ⟨rfl, rfl⟩
  case round =>
    obtain ⟨rfl, rfl⟩ := hrel
    go_wp2_with (go_at_call 72; refine (H.out _).mono ?_; rintro e w' ⟨rfl, rfl⟩)
    go_loop [6] (fun s6 => s6 = .int .i64 20) (fun _ => 0)
    case atStart => rfl
    case round =>
      obtain rfl := hrel
      go_wp2
      go_end0
      exact ⟨rfl, rfl⟩
theorem sortNil (A : Option Addr) (c g : Nat) (cb : Array Value) (w : World) : Calls Try.prog 38 #[.slice A 0 c, .func (.func g) #[] cb] w fun e w' => e = .returned (.tuple #[]) ∧ w = w' := by
  have h := fun W => stableNil A c g cb W
  have H := Lib.hid h
  clear h
  go_enter Try.func38, Try.ntmps38
  go_wp2_with (go_at_call 62; refine (H.out _).mono ?_; rintro e w' ⟨rfl, rfl⟩)
  go_end0
  exact ⟨rfl, rfl⟩
end StabNeed

end Go.Proofs.Ytpoboffdlnnbmaa.PA
