/- Texts of this session for the law TableBack, one behind the other: Hrange, Hbox, Hfielditer, tablewhole, Htabdeep, Psmall, Htabkeys, Htabfind, Hbuilder, Htabmake, interchangelaw03shown, interchangeref02Strings. -/
import Derived.RangeFuncNested
import Derived.RangeFuncBox
import Derived.RangeFuncCalls
import Derived.OwnWalkIn
import Derived.TacticsInMore
import Derived.LoopIn
import Derived.WalkKit
import Derived.Shelf.RegionOpen
import Derived.Maps.AppendAt
import Derived.Shelf.Lays
import Derived.Shelf.Strings.Builder1
import Derived.Test.YthdkmohelampbaaDoorBTableBacka
namespace Go.Proofs.YthdkmohelampbaaDoor.F
open Go.RowKit Go.Proofs.YthdkmohelampbaaDoorW.PrintWords Go.Proofs.YthdkmohelampbaaDoorW.PrintLast Go.Proofs.YthdkmohelampbaaDoorW.PrintMore
set_option linter.unusedVariables false
set_option linter.unusedSimpArgs false

/-- How the body of a round may be left. -/
def sharedPost {σ : Type} (B : Nat) (J2 : σ → World → Prop) (Jx : Code → σ → World → Prop) (s : σ) (W : World) : Exit → Act → World → Prop
  | .normal, _, W' => KeepsFrom B W W' ∧ J2 s W'
  | .ret, _, W' => KeepsFrom B W W' ∧ Jx .ret s W'
  | .exit id, _, W' => KeepsFrom B W W' ∧ Jx (.exit id) s W'
  | .goto t, _, W' => KeepsFrom B W W' ∧ Jx (.goto t) s W'
  | .panic _, _, _ => False
  | .outgrown, _, _ => False

section
variable {F : Fence} {n : Nat} {P : Program}
/-- THE STATEMENT. J s: as yield is called with encs s · J1 s a: behind the assignment · J2 s: behind the round · Jx c s: the round has left by c · E: the iterator has come to its end. -/
theorem wpIn_rangeFunc_shared {σ : Type} {g : Operand} {ps : Array Tmp} {assign body : Code} {Q : Exit → Act → World → Prop} {a : Act} {w : World}
    (hro : F.round = none) (h1 : 1 ≤ n) {gf : Nat} {lb : Array Value} (hg : a.eval g = .func (.func gf) #[] lb) (hFg : F.fn gf) (eg : ∀ args w, (callFunc gf args).run P w = .ok (.enter gf args) w)
    (encs : σ → Array Value) (hps : ∀ s, (encs s).size = ps.size)
    (J : σ → World → Prop) (J1 : σ × Act → World → Prop) (J2 : σ → World → Prop) (Jx : Code → σ → World → Prop) (E : Unit → World → Prop)
    (hJ1 : OwnFrom w.heap.size J1) (hJ2 : OwnFrom w.heap.size J2) (hJx : ∀ c, OwnFrom w.heap.size (Jx c)) (hE : OwnFrom w.heap.size E)
    (hseq : ∀ (l : Nat) (B : World → Prop) (X : σ → World → Prop) (o1 o2 : Obj) (W1 : World), (w.alloc o1).alloc o2 = W1 → l = w.heap.size + 1 → (∀ W W', KeepsFrom w.heap.size W W' → B W → B W') → B W1 →
      (∀ s W, J s W → B W → YieldAt F (n - 1 - 1) P l (encs s) W fun e W' => (e = .returned (.bool true) ∧ J2 s W' ∧ B W') ∨ (e = .returned (.bool false) ∧ X s W')) →
      CallsIn F (n - 1) P gf (#[.func (.yield l) #[] #[]] ++ lb) W1 fun e W' => (∃ v, e = .returned v) ∧ ((E () W' ∧ B W') ∨ ∃ s, X s W'))
    (hassign : ∀ (l : Nat) (s : σ) (W : World) (K : Act → World → Prop), w.heap.size + 1 < W.heap.size → J s W → (∀ a' W', KeepsFrom w.heap.size W W' → J1 (s, a') W' → K a' W') →
      assign.wpIn (F.inRound l) (n - 1 - 1) P (Exit.then K (fun _ _ _ => False)) { tmps := (ps.zip (encs s)).foldl (fun t (p, v) => t.setIfInBounds p v) a.tmps, defers := [] } W)
    (hbody : ∀ (l : Nat) (s : σ) (a' : Act) (W : World), w.heap.size + 1 < W.heap.size → J1 (s, a') W → body.wpIn (F.inRound l) (n - 1 - 1) P (sharedPost w.heap.size J2 Jx s W) a' W)
    (hdone : ∀ (D : Nat) (W : World), w.heap.size ≤ D → E () W → W.heap[D]? = some (.deferred (some [])) → Q .normal { a with defers := { target := .collected D, args := #[] } :: a.defers } W)
    (hstop : ∀ (D : Nat) (c : Code) (s : σ) (W : World), w.heap.size ≤ D → Jx c s W → W.heap[D]? = some (.deferred (some [])) → c.wpIn F n P Q { a with defers := { target := .collected D, args := #[] } :: a.defers } W) :
    (Code.rangeFunc g ps assign body).wpIn F n P Q a w := by
  refine wpIn_rangeFunc ?_
  intro fn hfn
  rw [hro]
  obtain ⟨rec, hrec⟩ : ∃ rec : LoopState → Option Code → Loop, rec = fun st pe => { state := st, pending := pe, fn, tmps := a.tmps, params := ps, assign, body, defers := w.heap.size } := ⟨_, rfl⟩
  obtain ⟨W1, hW1⟩ : ∃ W1, (w.alloc (.deferred (some []))).alloc (.loop (rec .ready none)) = W1 := ⟨_, rfl⟩
  have hL1 : W1.heap[w.heap.size + 1]? = some (.loop (rec .ready none)) := by
    rw [← hW1]; have := World.alloc_heap_new (w.alloc (.deferred (some []))) (.loop (rec .ready none)); rwa [World.size_alloc] at this
  have hK1 : W1.heap[w.heap.size]? = some (.deferred (some [])) := by
    rw [← hW1]; exact (Below.heap_alloc _ _ _ (by simp)).trans (World.alloc_heap_new w _)
  refine ⟨w.heap.size + 1, [{ target := .collected w.heap.size, args := #[] }], W1, { target := .fn (.func gf) lb, args := #[.func (.yield (w.heap.size + 1)) #[] #[]] }, W1, gf,
    #[.func (.yield (w.heap.size + 1)) #[] #[]] ++ lb, W1, ?_, ?_, ?_, ?_, fun _ => h1, ?_⟩
  · rw [← hW1, hrec]; exact run_enterLoop_outer _ _ _ _ _
  · simp only [resolve, hg]
    simp [go_sem]
  · intro f' hf'; simp [Target.leads] at hf'; subst hf'; exact hFg
  · simp [invoke, go_sem, eg]
  · refine (hseq (w.heap.size + 1)
      (fun W => W.heap[w.heap.size + 1]? = some (.loop (rec .ready none)) ∧ W.heap[w.heap.size]? = some (.deferred (some [])))
      (fun s W => ∃ c, Jx c s W ∧ W.heap[w.heap.size + 1]? = some (.loop (rec .done (some c))) ∧ W.heap[w.heap.size]? = some (.deferred (some [])))
      _ _ W1 hW1 rfl
      (fun W W' hk hs => ⟨hk.same _ _ (by omega) hs.1 rfl, hk.same _ _ (Nat.le_refl _) hs.2 rfl⟩) ⟨hL1, hK1⟩ ?_).mono ?_
    · -- one round
      rintro s W hi ⟨hl, hk⟩
      have hlt : w.heap.size + 1 < W.heap.size := (Array.getElem?_eq_some_iff.1 hl).1
      have hy := run_yield (P := P) (args := encs s) hl (by rw [hrec]; exact hps s)
      rw [hrec] at hy
      refine ⟨fn, _, assign, body, hy, roundIn_of_wpIn hfn (hassign _ s W _ hlt hi fun a1 Wa hka hi1 => ?_)⟩
      have hla := hka.same _ _ (by omega) hl rfl
      have hda := hka.same _ _ (Nat.le_refl _) hk rfl
      have hlta : w.heap.size + 1 < Wa.heap.size := (Array.getElem?_eq_some_iff.1 hla).1
      refine ⟨_, run_beginRound hla (by rw [hrec]), ?_⟩
      have hl2 : (Wa.putObj (w.heap.size + 1) (.loop { rec .ready none with state := .busy })).heap[w.heap.size + 1]? = some (.loop { rec .ready none with state := .busy }) := World.putObj_heap_same hlta
      have hk2 : (Wa.putObj (w.heap.size + 1) (.loop { rec .ready none with state := .busy })).heap[w.heap.size]? = some (.deferred (some [])) := (World.putObj_heap_other (by omega)).trans hda
      refine wpIn_mono (hbody _ s a1 _ (by rw [World.putObj_size]; exact hlta) (hJ1.putObj (s := (s, a1)) _ hi1 (by omega) hla rfl)) ?_
      have fin : ∀ (jump : Option Code) (W3 : World), KeepsFrom w.heap.size (Wa.putObj (w.heap.size + 1) (.loop { rec .ready none with state := .busy })) W3 →
          (Instr.endRound (w.heap.size + 1) jump).run P W3 = .ok (.bool jump.isNone) (W3.putObj (w.heap.size + 1) (.loop (rec (if jump.isNone then .ready else .done) jump))) ∧
          W3.heap[w.heap.size + 1]? = some (.loop { rec .ready none with state := .busy }) ∧
          (W3.putObj (w.heap.size + 1) (.loop (rec (if jump.isNone then .ready else .done) jump))).heap[w.heap.size + 1]? = some (.loop (rec (if jump.isNone then .ready else .done) jump)) ∧
          (W3.putObj (w.heap.size + 1) (.loop (rec (if jump.isNone then .ready else .done) jump))).heap[w.heap.size]? = some (.deferred (some [])) := fun jump W3 hk3 => by
        have hl3 := hk3.same _ _ (by omega) hl2 rfl
        have := run_endRound (P := P) jump hl3
        rw [hrec] at this ⊢
        exact ⟨this, by rw [hrec] at hl3; exact hl3, World.putObj_heap_same (Array.getElem?_eq_some_iff.1 hl3).1, (World.putObj_heap_other (by omega)).trans (hk3.same _ _ (Nat.le_refl _) hk2 rfl)⟩
      rintro e a3 W3 hp
      cases e with
      | normal =>
        obtain ⟨hk3, hi3⟩ := hp
        obtain ⟨hr, hl3, hl4, hk4⟩ := fin none W3 hk3
        exact ⟨_, _, hr, .inl ⟨rfl, hJ2.putObj _ hi3 (by omega) hl3 rfl, hl4, hk4⟩⟩
      | ret =>
        obtain ⟨hk3, hi3⟩ := hp
        obtain ⟨hr, hl3, hl4, hk4⟩ := fin (some .ret) W3 hk3
        exact ⟨_, _, hr, .inr ⟨rfl, .ret, (hJx _).putObj _ hi3 (by omega) hl3 rfl, hl4, hk4⟩⟩
      | exit id =>
        obtain ⟨hk3, hi3⟩ := hp
        obtain ⟨hr, hl3, hl4, hk4⟩ := fin (some (.exit id)) W3 hk3
        exact ⟨_, _, hr, .inr ⟨rfl, .exit id, (hJx _).putObj _ hi3 (by omega) hl3 rfl, hl4, hk4⟩⟩
      | goto t =>
        obtain ⟨hk3, hi3⟩ := hp
        obtain ⟨hr, hl3, hl4, hk4⟩ := fin (some (.goto t)) W3 hk3
        exact ⟨_, _, hr, .inr ⟨rfl, .goto t, (hJx _).putObj _ hi3 (by omega) hl3 rfl, hl4, hk4⟩⟩
      | panic ch => exact hp.elim
      | outgrown => exact hp.elim
    · -- behind the iterator
      rintro e W2 ⟨⟨v, rfl⟩, (⟨hi, hl, hk⟩ | ⟨s, c, hi, hl, hk⟩)⟩
      · exact ⟨none, _, by have := run_endLoop (P := P) hl (by rw [hrec]; simp); rw [hrec] at this; exact this, hdone _ _ (Nat.le_refl _) (hE.putObj _ hi (by omega) hl rfl) ((World.putObj_heap_other (by omega)).trans hk)⟩
      · exact ⟨some c, _, by have := run_endLoop (P := P) hl (by rw [hrec]; simp); rw [hrec] at this; exact this, hstop _ c s _ (Nat.le_refl _) ((hJx c).putObj _ hi (by omega) hl rfl) ((World.putObj_heap_other (by omega)).trans hk)⟩
end
end Go.Proofs.YthdkmohelampbaaDoor.F
namespace Go.Proofs.YthdkmohelampbaaDoor.F
open Go.RowKit Go.Proofs.YthdkmohelampbaaDoorW.PrintWords Go.Proofs.YthdkmohelampbaaDoorW.PrintLast Go.Proofs.YthdkmohelampbaaDoorW.PrintMore
set_option linter.unusedVariables false
set_option linter.unusedSimpArgs false

theorem boxed_below {W W' : World} {B : Nat} {t : TypeId} {v : Value} (h : Boxed W B t v) (hb : Below W.heap.size W W') : Boxed W' B t v := (hb.block B h.lt).trans h
theorem R_other {α : Type} {d : Kd α} {e base : Nat} {ok : Nat → Prop} {W W' : World} {v : Value} {xs : List α} (h : d.R e W base ok v xs) {row : Option Nat} (hg : W.grownBy W' row) (hr : ∀ r, row = some r → ∃ o : Obj, W.heap[r]? = some o ∧ o.isCells = false) : d.R e W' base ok v xs := by
  refine Kd.R_mono (Kd.R_grown (Kd.R_bound h) hg fun k hk e => ?_) (fun k hk => hk.1)
  obtain ⟨_, _, _, q, _, cells, hc⟩ := hk
  obtain ⟨o, ho, hn⟩ := hr k e.symm
  rw [hc] at ho; cases ho; cases hn
theorem boxed_other {W W' : World} {B : Nat} {t : TypeId} {v : Value} (h : Boxed W B t v) {row : Option Nat} (hg : W.grownBy W' row) (hr : ∀ r, row = some r → ∃ o : Obj, W.heap[r]? = some o ∧ o.isCells = false) : Boxed W' B t v :=
  h.kept hg fun e => by
    obtain ⟨o, ho, hn⟩ := hr B e.symm
    rw [show W.heap[B]? = _ from h] at ho; cases ho; cases hn
theorem keepsFrom_below {B : Nat} {W W' : World} (h : Below W.heap.size W W') : KeepsFrom B W W' :=
  ⟨h.size, fun k o _ hk _ => (h.block k (Array.getElem?_eq_some_iff.1 hk).1).trans hk⟩
theorem boxed_at (W : World) (m : Nat) (t : TypeId) (v : Value) (e : W.heap.size = m) : Boxed (W.alloc (.cells #[v] t)) m t v := e ▸ Boxed.new W t v
theorem row_lower {w : World} {base base' e size n : Nat} {v : Value} {xs : List Value} (h : w.ownsRow base e size v n xs) (hb : base' ≤ base) : w.ownsRow base' e size v n xs := by
  obtain ⟨h1, h2 | ⟨g, cap, cur, h3, h4, h5⟩⟩ := h
  · exact ⟨h1, .inl h2⟩
  · exact ⟨h1, .inr ⟨g, cap, cur, h3, Nat.le_trans hb h4, h5⟩⟩
theorem row_ne {w : World} {base e size n B : Nat} {v : Value} {xs : List Value} (h : w.ownsRow base e size v n xs) (hB : B < base) : some B ≠ v.ownBlock := by
  obtain ⟨_, ⟨rfl, _⟩ | ⟨g, cap, cur, rfl, h4, _⟩⟩ := h
  · simp [Value.ownBlock]
  · simp only [Value.ownBlock, ne_eq, Option.some.injEq]; omega
theorem row_below {w w' : World} {base e size n : Nat} {v : Value} {xs : List Value} (h : w.ownsRow base e size v n xs) (hb : Below w.heap.size w w') : w'.ownsRow base e size v n xs := by
  obtain ⟨h1, h2 | ⟨g, cap, cur, h3, h4, h5, h6⟩⟩ := h
  · exact ⟨h1, .inl h2⟩
  · exact ⟨h1, .inr ⟨g, cap, cur, h3, h4, (hb.block g (Array.getElem?_eq_some_iff.1 h5).1).trans h5, h6⟩⟩
theorem row_other {W W' : World} {base e size n : Nat} {v : Value} {xs : List Value} (h : W.ownsRow base e size v n xs) {row : Option Nat} (hg : W.grownBy W' row) (hr : ∀ r, row = some r → ∃ o : Obj, W.heap[r]? = some o ∧ o.isCells = false) : W'.ownsRow base e size v n xs := by
  obtain ⟨h1, h2 | ⟨g, cap, cur, h3, h4, h5, h6⟩⟩ := h
  · exact ⟨h1, .inl h2⟩
  · refine ⟨h1, .inr ⟨g, cap, cur, h3, h4, (hg.block g (Array.getElem?_eq_some_iff.1 h5).1 fun e => ?_).trans h5, h6⟩⟩
    obtain ⟨o, ho, hn⟩ := hr g e.symm
    rw [h5] at ho; cases ho; cases hn
theorem row_strs {w : World} {base e : Nat} {v : Value} {xs : List ByteArray} (h : w.ownsRow base e 1 v xs.length (xs.map Value.string)) : Kd.R Kd.string e w base (fun _ => True) v xs := by
  refine ⟨fun _ _ => trivial, xs.map Value.string, h, ⟨by simp [Kd.string, Kd.scalar], fun j p hp => ?_⟩⟩
  show ((xs.map Value.string).drop (j * 1)).take 1 = [Value.string p]
  have hj := (List.getElem?_eq_some_iff.1 hp).1
  have e := (List.getElem?_eq_some_iff.1 hp).2
  rw [Nat.mul_one, List.drop_eq_getElem_cons (by simpa using hj)]
  simp [e]
end Go.Proofs.YthdkmohelampbaaDoor.F
namespace Go.Proofs.YthdkmohelampbaaDoor.F
open Go.RowKit Go.Proofs.YthdkmohelampbaaDoorW.PrintWords Go.Proofs.YthdkmohelampbaaDoorW.PrintLast Go.Proofs.YthdkmohelampbaaDoorW.PrintMore
set_option linter.unusedVariables false
set_option linter.unusedSimpArgs false
attribute [local go_sem] Oper.semAt_some

/-! ### the fields, by definition -/
def keyAt (s : ByteArray) : ByteArray := (ltakeR 1 s).1
def taken1 (s : ByteArray) : ByteArray × ByteArray × Int := takenR (ltakeR 1 s).2.1 (tvalR (ltakeR 1 s).2.1)
def valAt (s : ByteArray) : ByteArray := (taken1 s).1
def leftAt (s : ByteArray) : ByteArray := (taken1 s).2.1
abbrev Fds := List (ByteArray × ByteArray)
def fldN : Nat → ByteArray → Fds
  | 0, _ => []
  | k + 1, s => if s.size = 0 then [] else (keyAt s, valAt s) :: fldN k (leftAt s)
def fldR (s : ByteArray) : Fds := fldN s.size s
theorem left_less {s : ByteArray} (h : ¬ s.size = 0) : (leftAt s).size < s.size := by
  unfold leftAt taken1 takenR
  have h1 := (ltake_size 1 s).2
  by_cases e : (tvalR (ltakeR 1 s).2.1).2.1 = 0
  · rw [if_pos e]
    have := tvalR_less _ e
    show (tvalR (ltakeR 1 s).2.1).1.size < s.size
    omega
  · rw [if_neg e]
    show 0 < s.size
    omega
theorem fldN_fuel : ∀ (k j : Nat) (s : ByteArray), s.size ≤ k → s.size ≤ j → fldN k s = fldN j s := by
  intro k
  induction k with
  | zero => intro j s h _; cases j with
    | zero => rfl
    | succ j => simp only [fldN]; rw [if_pos (by omega)]
  | succ k ih =>
    intro j s hk hj
    cases j with
    | zero => simp only [fldN]; rw [if_pos (by omega)]
    | succ j =>
      simp only [fldN]
      by_cases e : s.size = 0
      · rw [if_pos e, if_pos e]
      · have := left_less e
        rw [if_neg e, if_neg e, ih j _ (by omega) (by omega)]
theorem fldR_eq (s : ByteArray) : fldR s = if s.size = 0 then [] else (keyAt s, valAt s) :: fldR (leftAt s) := by
  by_cases e : s.size = 0
  · rw [if_pos e]; unfold fldR; rw [e]; rfl
  · rw [if_neg e]
    unfold fldR
    have := left_less e
    obtain ⟨k, hk⟩ : ∃ k, s.size = k + 1 := ⟨s.size - 1, by omega⟩
    rw [fldN_fuel s.size (k + 1) s (Nat.le_refl _) (by omega)]
    conv => lhs; simp only [fldN]
    rw [if_neg e, fldN_fuel k _ _ (by omega) (Nat.le_refl _)]

theorem fields_calls (s : ByteArray) (w : World) :
    Calls Tryd.prog 34 #[.string s] w fun e w' =>
      e = .returned (.func (.func 45) #[] #[.pointer (some ⟨w.heap.size, 0, none⟩)]) ∧ w' = w.alloc (.cells #[.string s] 9) := by
  go_enter Tryd.func34, Tryd.ntmps34
  go_wp2
  go_ret
  exact ⟨by simp, rfl⟩

/-- as yield is called -/
def FdJ (H : Fds → World → Prop) (tot : Fds) (big : Nat) (x : Fds × ByteArray) (W : World) : Prop :=
  H x.1 W ∧ x.2.size ≠ 0 ∧ tot = x.1 ++ fldR x.2 ∧ x.1.length + x.2.size ≤ big
/-- behind the round -/
def FdJ2 (H : Fds → World → Prop) (tot : Fds) (big : Nat) (x : Fds × ByteArray) (W : World) : Prop :=
  H (x.1 ++ [(keyAt x.2, valAt x.2)]) W ∧ x.2.size ≠ 0 ∧ tot = x.1 ++ fldR x.2 ∧ x.1.length + x.2.size ≤ big
def fdencs (x : Fds × ByteArray) : Array Value := #[.string (keyAt x.2), .string (valAt x.2)]
set_option maxHeartbeats 4000000 in
set_option maxRecDepth 100000 in
theorem fields_iter (f : Nat) (t : ByteArray) (b : Nat) (H : Fds → World → Prop) (hH : ∀ x W W', Below W.heap.size W W' → H x W → H x W') (hHt : ∀ x W, H x W → Boxed W b 9 (.string t)) (hHL : ∀ x W, H x W → Laid W)
    (tot : Fds) (big : Nat) (hbig : big ≤ 4611686018427387904) (l D : Nat) (B : World → Prop) (X : Fds × ByteArray → World → Prop) (W1 : World)
    (hB : ∀ W W', KeepsFrom D W W' → B W → B W') (h1 : B W1)
    (hY : ∀ s W, FdJ H tot big s W → B W → YieldAt Fence.wide f Tryd.prog l (fdencs s) W fun e W' =>
      (e = .returned (.bool true) ∧ FdJ2 H tot big s W' ∧ B W') ∨ (e = .returned (.bool false) ∧ X s W'))
    (h0 : H [] W1) (ht : tot = fldR (takeR t 4).2.1) (hz : t.size ≤ big) :
    CallsIn Fence.wide (f + 1) Tryd.prog 45 #[.func (.yield l) #[] #[], .pointer (some ⟨b, 0, none⟩)] W1
      fun e W' => (∃ v, e = .returned v) ∧ ((H tot W' ∧ B W') ∨ ∃ s, X s W') := by
  refine callsIn_of_wp Tryd.func45 rfl trivial ?_ rfl
  simp only [Tryd.ntmps45, List.size_toArray, List.length_cons, List.length_nil, Nat.reduceAdd, Nat.reduceSub, Array.replicate_succ, Array.replicate_zero, List.push_toArray, List.append_toArray, List.nil_append, List.cons_append]
  have c0 := (hHt _ _ h0).cell
  have hL0 := Aside0.mk (hHL _ _ h0)
  have htk := Aside0.mk (take_k (k := 12) (by decide) t 4)
  have hr := take_rest t 4
  generalize takeR t 4 = t4 at htk hr ht
  obtain ⟨n4, in0, e4⟩ := t4
  simp only at hr ht
  replace ht := Aside0.mk ht
  gi_wp2_with (refine ⟨trivial, ?_⟩; gi_at_call 37; refine (callsIn_wide.2 (num_Take.calls 12 t 4 n4 in0 e4 _ hL0.out htk.out)).mono ?_; rintro e w' ⟨rfl, ⟨nd, rfl⟩⟩)
  have hbd : ∀ (W : World) nd, Below W.heap.size W (W.drewN nd) := fun W nd => pw_below_drewN (Below.refl _ _) nd
  gi_loopw [4] (fun v4 wr => ∃ (pre : Fds) (s : ByteArray), v4 = .string s ∧ H pre wr ∧ Aside0 (tot = pre ++ fldR s) ∧ Aside0 (pre.length + s.size ≤ big) ∧ B wr) (fun v4 _ => match v4 with | .string s => s.size | _ => 0)
  case atStart =>
    exact ⟨[], in0, rfl, hH _ _ _ (hbd _ nd) h0, ht, ⟨by simp; omega⟩, hB _ _ (keepsFrom_below (hbd _ nd)) h1⟩
  case round =>
    obtain ⟨pre, s, rfl, hF, htot, hlen, hBw⟩ := hrel
    clear h0 h1 c0 ht htk hr
    by_cases he : s.size = 0
    · have hs0 : s = ⟨#[]⟩ := ba_empty he
      subst hs0
      have et : tot = pre := by rw [htot.out, fldR_eq, if_pos he, List.append_nil]
      gi_wp2
      go_end0
      rw [et]
      exact ⟨⟨_, rfl⟩, .inl ⟨hF, hBw⟩⟩
    · have hne2 : (!s.toList.isEmpty) = true := not_empty he
      have hEE := Aside0.mk (fldR_eq s)
      have hlf := Aside0.mk (left_less he)
      have htk := Aside0.mk (tshort_k (k := 12) (by decide) s (by have := hlen.out; omega))
      have hvl : table_Value.f (ltakeR 1 s).2.1 = some (valAt s, leftAt s, (taken1 s).2.2) := by
        unfold table_Value.f
        rw [if_pos (by have := (ltake_size 1 s).2; have := hlen.out; omega)]
        rfl
      have hYY := fun (W : World) (hw : H pre W) => hY (pre, s) W ⟨hw, he, htot.out, hlen.out⟩
      unfold FdJ2 fdencs at hYY
      unfold keyAt at hYY hEE
      simp only [] at hYY
      generalize valAt s = v at hvl hYY hEE
      generalize leftAt s = left at hvl hEE hlf
      generalize (taken1 s).2.2 = e3 at hvl
      generalize ltakeR 1 s = t at htk hYY hEE hvl
      obtain ⟨t1, t2, t3⟩ := t
      simp only at hYY hvl
      replace hvl := Aside0.mk hvl
      clear hY
      gi_wp2_with (first | (refine ⟨trivial, ?_⟩; gi_at_call 39; refine (callsIn_wide.2 (text_TakeShort.calls 12 s t1 t2 t3 _ (hHL _ _ hF) htk.out)).mono ?_; rintro e w' ⟨rfl, ⟨nd2, rfl⟩⟩) | (refine ⟨trivial, ?_⟩; gi_at_call 15; refine (callsIn_wide.2 (table_Value.calls t2 v left e3 _ ((hHL _ _ hF).below (hbd _ _)) hvl.out)).mono ?_; rintro e w2 ⟨rfl, hb⟩; have hb2 := (hbd wr nd2).trans hb; obtain ⟨yf, yt, ya, yb, hy, hR⟩ := hYY _ (hH _ _ _ hb2 hF) (hB _ _ (keepsFrom_below hb2) hBw)))
      refine hR.mono ?_
      rintro e W2 (⟨rfl, ⟨hF2, _, _, _⟩, hB2⟩ | ⟨rfl, hx⟩)
      · gi_wp2
        exact ⟨⟨pre ++ [(t1, v)], left, rfl, hF2, ⟨by rw [htot.out, hEE.out, if_neg he]; simp⟩, ⟨by rw [List.length_append, List.length_singleton]; have := hlen.out; have := hlf.out; omega⟩, hB2⟩, hlf.out⟩
      · gi_wp2
        refine bodyPost_ret (results_none rfl _ _ _) rfl ?_
        exact ⟨⟨_, rfl⟩, .inr ⟨_, hx⟩⟩
end Go.Proofs.YthdkmohelampbaaDoor.F
namespace Go.Proofs.YthdkmohelampbaaDoor.F
open Go.RowKit Go.Proofs.YthdkmohelampbaaDoorW.PrintWords Go.Proofs.YthdkmohelampbaaDoorW.PrintLast Go.Proofs.YthdkmohelampbaaDoorW.PrintMore
attribute [local go_sem] max2_int min2_int max_two min_two max_three min_three max_four min_four
set_option linter.unusedVariables false
set_option linter.unusedSimpArgs false

/-! ### table_whole: function 31 -/
def table_whole.f (a0 : ByteArray) : Option (Int) := (table_Take.f a0).bind fun bt117 => (if bt117.2.2 = 0 then (if bt117.2.1.toList = ([] : List UInt8) then (some bt117.2.2) else (some 3)) else (some bt117.2.2))
set_option maxHeartbeats 8000000 in
set_option maxRecDepth 100000 in
theorem table_whole.calls (a0 : ByteArray) (r : Int) (w : World) (hg : Laid w) (h : table_whole.f a0 = some r) :
    Calls Tryd.prog 31 #[.string a0] w fun e w' => e = .returned (.int .i64 r) ∧ Below w.heap.size w w' := by
  have HG := Aside0.mk hg
  clear hg
  have HB := Aside0.mk (Below.refl w.heap.size w)
  have H : ((table_Take.f a0).bind fun bt117 => (if bt117.2.2 = 0 then (if bt117.2.1.toList = ([] : List UInt8) then (some bt117.2.2) else (some 3)) else (some bt117.2.2))) = some r := h
  clear h
  replace H := Option.bind_eq_some_iff.mp H
  obtain ⟨⟨t117, t118, t119⟩, A20, H⟩ := H
  replace H : (if t119 = 0 then (if t118.toList = ([] : List UInt8) then (some t119) else (some 3)) else (some t119)) = some r := H
  have A2 := Aside0.mk A20
  clear A20
  by_cases c3 : t119 = 0
  · rw [if_pos c3] at H
    have c3b0 : (t119 == 0) = true := beq_iff_eq.mpr c3
    have c3b1 : (t119 != 0) = false := bne_eq_false_iff_eq.mpr c3
    clear c3
    by_cases c4 : t118.toList = ([] : List UInt8)
    · rw [if_pos c4] at H
      have c4b0 : (t118.toList == ([] : List UInt8)) = true := beq_iff_eq.mpr c4
      have c4b1 : (t118.toList != ([] : List UInt8)) = false := bne_eq_false_iff_eq.mpr c4
      clear c4
      obtain rfl := Option.some.inj H
      go_enter Tryd.func31, Tryd.ntmps31
      go_wp2_with (first | ((with_reducible refine gate_callee (f := 11) rfl ?_); refine goesL_ (some 8) rfl rfl Tryd.func11 (by kernel_rfl) rfl #[.string a0] rfl (by (try simp only [List.map_toArray, List.map_cons, List.map_nil]); first | done | rfl | (simp only [List.length_drop, List.length_take]; rfl)) ?_; (with_reducible refine (table_Take.calls a0 t117 t118 t119 _ ?lg A2.out).mono ?_); (case lg => exact (HG.out.below (by repeat (first | (with_reducible first | exact HB.out | apply below_alloc | apply pw_below_drewN | apply below_drew1) | exact HB.out)))); rintro e w5 ⟨rfl, hb⟩; refine ⟨_, rfl, ?_⟩; have n0_ := Aside0.mk (below_step (by repeat (first | (with_reducible first | exact HB.out | apply below_alloc | apply pw_below_drewN | apply below_drew1) | exact HB.out)) hb); clear HB; have HB := n0_; clear n0_; (try clear hb); (try clear hb2); (try clear hk); (try clear hi)))
      go_ret
      exact ⟨by first | rfl | (simp [errW_none, errW_some] <;> rfl) | (simp [*, errW_none, errW_some] <;> rfl), by repeat (first | (with_reducible first | exact HB.out | apply below_alloc | apply pw_below_drewN | apply below_drew1) | exact HB.out)⟩
    · rw [if_neg c4] at H
      have c4b0 : (t118.toList == ([] : List UInt8)) = false := beq_eq_false_iff_ne.mpr c4
      have c4b1 : (t118.toList != ([] : List UInt8)) = true := bne_iff_ne.mpr c4
      obtain rfl := Option.some.inj H
      go_enter Tryd.func31, Tryd.ntmps31
      go_wp2_with (first | ((with_reducible refine gate_callee (f := 11) rfl ?_); refine goesL_ (some 8) rfl rfl Tryd.func11 (by kernel_rfl) rfl #[.string a0] rfl (by (try simp only [List.map_toArray, List.map_cons, List.map_nil]); first | done | rfl | (simp only [List.length_drop, List.length_take]; rfl)) ?_; (with_reducible refine (table_Take.calls a0 t117 t118 t119 _ ?lg A2.out).mono ?_); (case lg => exact (HG.out.below (by repeat (first | (with_reducible first | exact HB.out | apply below_alloc | apply pw_below_drewN | apply below_drew1) | exact HB.out)))); rintro e w6 ⟨rfl, hb⟩; refine ⟨_, rfl, ?_⟩; have n0_ := Aside0.mk (below_step (by repeat (first | (with_reducible first | exact HB.out | apply below_alloc | apply pw_below_drewN | apply below_drew1) | exact HB.out)) hb); clear HB; have HB := n0_; clear n0_; (try clear hb); (try clear hb2); (try clear hk); (try clear hi)))
      go_ret
      exact ⟨by first | rfl | (simp [errW_none, errW_some] <;> rfl) | (simp [*, errW_none, errW_some] <;> rfl), by repeat (first | (with_reducible first | exact HB.out | apply below_alloc | apply pw_below_drewN | apply below_drew1) | exact HB.out)⟩
  · rw [if_neg c3] at H
    have c3b0 : (t119 == 0) = false := beq_eq_false_iff_ne.mpr c3
    have c3b1 : (t119 != 0) = true := bne_iff_ne.mpr c3
    obtain rfl := Option.some.inj H
    go_enter Tryd.func31, Tryd.ntmps31
    go_wp2_with (first | ((with_reducible refine gate_callee (f := 11) rfl ?_); refine goesL_ (some 8) rfl rfl Tryd.func11 (by kernel_rfl) rfl #[.string a0] rfl (by (try simp only [List.map_toArray, List.map_cons, List.map_nil]); first | done | rfl | (simp only [List.length_drop, List.length_take]; rfl)) ?_; (with_reducible refine (table_Take.calls a0 t117 t118 t119 _ ?lg A2.out).mono ?_); (case lg => exact (HG.out.below (by repeat (first | (with_reducible first | exact HB.out | apply below_alloc | apply pw_below_drewN | apply below_drew1) | exact HB.out)))); rintro e w7 ⟨rfl, hb⟩; refine ⟨_, rfl, ?_⟩; have n0_ := Aside0.mk (below_step (by repeat (first | (with_reducible first | exact HB.out | apply below_alloc | apply pw_below_drewN | apply below_drew1) | exact HB.out)) hb); clear HB; have HB := n0_; clear n0_; (try clear hb); (try clear hb2); (try clear hk); (try clear hi)))
    go_ret
    exact ⟨by first | rfl | (simp [errW_none, errW_some] <;> rfl) | (simp [*, errW_none, errW_some] <;> rfl), by repeat (first | (with_reducible first | exact HB.out | apply below_alloc | apply pw_below_drewN | apply below_drew1) | exact HB.out)⟩


end Go.Proofs.YthdkmohelampbaaDoor.F
namespace Go.Proofs.YthdkmohelampbaaDoor.F
open Go.RowKit Go.Proofs.YthdkmohelampbaaDoorW.PrintWords Go.Proofs.YthdkmohelampbaaDoorW.PrintLast Go.Proofs.YthdkmohelampbaaDoorW.PrintMore
set_option linter.unusedVariables false
set_option linter.unusedSimpArgs false
open Go.Maps
def wholeR (s : ByteArray) : Int := if (tabR s).2.1 = 0 then (if (tabR s).1.size = 0 then 0 else 3) else (tabR s).2.1
theorem whole_f (s : ByteArray) (hz : s.size ≤ 4611686018427387904) : table_whole.f s = some (wholeR s) := by
  unfold table_whole.f table_Take.f wholeR
  rw [if_pos hz, Option.bind_some]
  unfold takenR
  by_cases e : (tabR s).2.1 = 0
  · rw [if_pos e, if_pos e]
    simp only
    rw [if_pos trivial]
    by_cases e0 : (tabR s).1.size = 0
    · rw [if_pos e0, if_pos (by rw [ba_empty e0, toList_data])]
    · rw [if_neg e0, if_neg]
      intro h
      exact e0 (by rw [toList_data] at h; rw [← size_list, h]; rfl)
  · rw [if_neg e, if_neg e]
    simp only
    rw [if_neg e]
def deepR (s : ByteArray) : Int × Int := if wholeR s = 0 then ((tabR s).2.2, 0) else (0, wholeR s)
def table_Deep.f (a0 : ByteArray) : Option (Int × Int) := if a0.size ≤ 4611686018427387904 then some (deepR a0) else none
set_option maxHeartbeats 4000000 in
set_option maxRecDepth 100000 in
theorem table_Deep.calls (a0 : ByteArray) (r1 r2 : Int) (w : World) (hg : Laid w) (h : table_Deep.f a0 = some (r1, r2)) :
    Calls Tryd.prog 14 #[.string a0] w fun e w' => e = .returned (.tuple #[.int .i64 r1, .int .i64 r2]) ∧ Below w.heap.size w w' := by
  have hz : a0.size ≤ 4611686018427387904 := by
    unfold table_Deep.f at h
    by_cases e : a0.size ≤ 4611686018427387904
    · exact e
    · rw [if_neg e] at h; cases h
  have ht := Aside0.mk (whole_f a0 hz)
  unfold table_Deep.f at h
  rw [if_pos hz] at h
  have HW := Aside0.mk (fun (w0 w' : World) (hL : Laid w0) (hs : SizesAt w0.heap.size w') (hb : Below w0.heap.size w0 w') => tab_calls hL a0 hz (TK.make hs hb))
  replace h := Option.some.inj h
  unfold deepR at h
  have hwh := wholeR a0
  generalize wholeR a0 = q at ht h
  generalize tabR a0 = t at h HW
  obtain ⟨t1, t2, t3⟩ := t
  simp only at h
  by_cases e : q = 0
  · subst e
    rw [if_pos rfl] at h
    obtain ⟨rfl, rfl⟩ := Prod.mk.injEq .. ▸ h
    have HG := Aside0.mk hg
    clear hg
    go_enter Tryd.func14, Tryd.ntmps14
    go_wp2_with (first | (go_at_call 31; refine (table_whole.calls _ _ _ HG.out ht.out).mono ?_; rintro e w1 ⟨rfl, hb1⟩) | (go_at_call 23; refine (table_sizes.calls _).mono ?_; rintro e w' ⟨rfl, hsz, hb⟩) | (go_at_call 24; refine (HW.out _ _ (HG.out.below hb1) hsz hb).mono ?_; rintro e w2 ⟨rfl, hT⟩; have hc1 := hT.cell1))
    go_ret2
    exact ⟨rfl, hb1.trans (hT.2.2.2.2.mono hb1.size)⟩
  · rw [if_neg e] at h
    obtain ⟨rfl, rfl⟩ := Prod.mk.injEq .. ▸ h
    have e1 : (q != 0) = true := by simpa using e
    go_enter Tryd.func14, Tryd.ntmps14
    go_wp2_with (first | (go_at_call 31; refine (table_whole.calls _ _ _ hg ht.out).mono ?_; rintro e w1 ⟨rfl, hb1⟩))
    go_ret2
    exact ⟨rfl, hb1⟩
end Go.Proofs.YthdkmohelampbaaDoor.F
namespace Go.Proofs.YthdkmohelampbaaDoor.F
open Go.RowKit Go.Proofs.YthdkmohelampbaaDoorW.PrintWords Go.Proofs.YthdkmohelampbaaDoorW.PrintLast Go.Proofs.YthdkmohelampbaaDoorW.PrintMore
set_option linter.unusedVariables false
set_option linter.unusedSimpArgs false
theorem put4_small (v : Int) (e : (putR 4 v).2 = 0) : v < 4294967296 ∧ (putR 4 v).1.size = 4 := by
  obtain ⟨_, hv, hp⟩ := put_ok e
  have h4 : (256 : Int) ^ ((4 : Int).toNat) = 4294967296 := by decide
  rw [h4] at hv
  have h6 := congrArg ByteArray.size hp
  rw [toBA_size, be_length] at h6
  exact ⟨hv, h6⟩
theorem put1_small (v : Int) (e : (putR 1 v).2 = 0) : v < 256 ∧ (putR 1 v).1.size = 1 := by
  obtain ⟨_, hv, hp⟩ := put_ok e
  have h4 : (256 : Int) ^ ((1 : Int).toNat) = 256 := by decide
  rw [h4] at hv
  have h6 := congrArg ByteArray.size hp
  rw [toBA_size, be_length] at h6
  exact ⟨hv, h6⟩
theorem lay_gen (s : ByteArray) (P : ByteArray × Int) (n : Nat) (h : (if P.2 = 0 then (P.1 ++ s, 0) else ((⟨#[]⟩ : ByteArray), P.2)).2 = 0) (F : P.2 = 0 → P.1.size = n) : P.2 = 0 ∧ (if P.2 = 0 then (P.1 ++ s, 0) else ((⟨#[]⟩ : ByteArray), P.2)).1.size = s.size + n := by
  by_cases e3 : P.2 = 0
  · rw [if_pos e3]
    refine ⟨e3, ?_⟩
    show (P.1 ++ s).size = _
    rw [size_append, F e3, Nat.add_comm]
  · rw [if_neg e3] at h
    exact absurd h e3
theorem lay_small (s : ByteArray) (h : (layR 4 s).2 = 0) : s.size ≤ 4294967295 ∧ (layR 4 s).1.size = s.size + 4 := by
  obtain ⟨h1, h2⟩ := lay_gen s (putR 4 s.size) 4 h (fun e => (put4_small _ e).2)
  have h3 := (put4_small _ h1).1
  exact ⟨by omega, h2⟩
theorem lay1_small (s : ByteArray) (h : (layR 1 s).2 = 0) : (layR 1 s).1.size ≤ 256 := by
  obtain ⟨h1, h2⟩ := lay_gen s (putR 1 s.size) 1 h (fun e => (put1_small _ e).2)
  have h3 := (put1_small _ h1).1
  have h4 : (layR 1 s).1.size = s.size + 1 := h2
  omega
theorem four_small {t : ByteArray} (h : (ltakeR 4 t).2.2 = 0) : t.size ≤ 4294967299 + (ltakeR 4 t).2.1.size := by
  obtain ⟨h1, h2⟩ := take_lay h
  have hs := congrArg ByteArray.size h2
  obtain ⟨h3, h4⟩ := lay_small _ h1
  rw [size_append, h4] at hs
  omega
theorem within_small {one : ByteArray → Int → Int → Tk} {s : ByteArray} {depth d : Int} (h : (withinR one s depth d).2.1 = 0) : s.size ≤ 4294967299 + (withinR one s depth d).1.size := by
  unfold withinR at h ⊢
  by_cases e : (ltakeR 4 s).2.2 = 0
  · rw [if_pos e] at h ⊢
    by_cases e2 : depth ≤ 32
    · rw [if_pos e2]
      exact four_small e
    · rw [if_neg e2] at h
      exact absurd h (show ¬ (5 : Int) = 0 by decide)
  · rw [if_neg e] at h
    exact absurd h e
/-- a whole table -/
theorem whole_small {t : ByteArray} (h : wholeR t = 0) : t.size ≤ 4294967299 := by
  unfold wholeR at h
  by_cases e : (tabR t).2.1 = 0
  · rw [if_pos e] at h
    have hz : (tabR t).1.size = 0 := by
      by_cases q : (tabR t).1.size = 0
      · exact q
      · rw [if_neg q] at h; exact absurd h (by decide)
    have := within_small (show (withinR (fieldR (valR t.size)) t 1 0).2.1 = 0 from e)
    have hz' : (withinR (fieldR (valR t.size)) t 1 0).1.size = 0 := hz
    omega
  · rw [if_neg e] at h
    exact absurd h e
theorem sizeU_small {b n : Nat} (h : sizeU b = some n) : n ≤ 8 := by
  unfold sizeU at h
  repeat' split at h
  all_goals first | (cases h; decide) | (cases h)
/-- a value, with what stands behind it -/
theorem valR_small : ∀ (k : Nat) (s : ByteArray) (depth d : Int), (valR k s depth d).2.1 = 0 → s.size ≤ 4294967300 + (valR k s depth d).1.size
  | 0, _, _, _, h => absurd h (show ¬ (2 : Int) = 0 by decide)
  | k + 1, s, depth, d, h => by
    rw [valR] at h ⊢
    by_cases e : s.size = 0
    · omega
    · rw [if_neg e] at h ⊢
      have ht := tail_size e
      cases hu : sizeU (kindOf s) with
      | some n =>
        rw [hu] at h
        simp only at h ⊢
        have hn := sizeU_small hu
        unfold skipR at h ⊢
        by_cases e2 : (n : Int) ≤ ((tailOf s).size : Int)
        · rw [if_pos e2]
          simp only
          rw [extract_size', Int.toNat_natCast]
          omega
        · rw [if_neg e2] at h
          exact absurd h (show ¬ (2 : Int) = 0 by decide)
      | none =>
        rw [hu] at h
        simp only at h ⊢
        by_cases c1 : kindOf s = 83 ∨ kindOf s = 120
        · rw [if_pos c1] at h ⊢
          have := four_small h
          simp only
          omega
        · rw [if_neg c1] at h ⊢
          by_cases c2 : kindOf s = 65
          · rw [if_pos c2] at h ⊢
            have := within_small h
            omega
          · rw [if_neg c2] at h ⊢
            by_cases c3 : kindOf s = 70
            · rw [if_pos c3] at h ⊢
              have := within_small h
              omega
            · rw [if_neg c3] at h
              exact absurd h (show ¬ (3 : Int) = 0 by decide)
theorem val_small (v : ByteArray) (h : (takenR v (tvalR v)).2.2 = 0) (h2 : (takenR v (tvalR v)).2.1.size = 0) : v.size ≤ 4294967300 := by
  unfold takenR at h h2
  by_cases e : (tvalR v).2.1 = 0
  · rw [if_pos e] at h2
    have := valR_small (v.size + 1) v 0 0 e
    have h3 : (valR (v.size + 1) v 0 0).1.size = 0 := h2
    omega
  · rw [if_neg e] at h
    exact absurd h e
end Go.Proofs.YthdkmohelampbaaDoor.F
namespace Go.Proofs.YthdkmohelampbaaDoor.F
open Go.RowKit Go.Proofs.YthdkmohelampbaaDoorW.PrintWords Go.Proofs.YthdkmohelampbaaDoorW.PrintLast Go.Proofs.YthdkmohelampbaaDoorW.PrintMore
set_option linter.unusedVariables false
set_option linter.unusedSimpArgs false
attribute [local go_sem] Oper.semAt_some
def inR (t : ByteArray) : ByteArray := (takeR t 4).2.1
def keysR (t : ByteArray) : List ByteArray × Int := if wholeR t = 0 then ((fldR (inR t)).map (·.1), 0) else ([], wholeR t)
def table_Keys.f (a0 : ByteArray) : Option (List ByteArray × Int) := if a0.size ≤ 4611686018427387904 then some (keysR a0) else none
/-- What the blocks of a call of Keys hold between two rounds. -/
def KHeld (w0 : World) (t : ByteArray) (pre : Fds) (W : World) : Prop :=
  Boxed W (w0.heap.size + 1) 9 (.string t) ∧ (∃ v, Boxed W w0.heap.size 27 v ∧ W.ownsRow (w0.heap.size + 2) 9 1 v pre.length (pre.map fun p => Value.string p.1)) ∧ Below w0.heap.size w0 W
theorem KHeld.below {w0 : World} {t : ByteArray} {pre : Fds} {W W' : World} (hb : Below W.heap.size W W') (h : KHeld w0 t pre W) : KHeld w0 t pre W' := by
  obtain ⟨h1, ⟨v, h6, h7⟩, h8⟩ := h
  exact ⟨boxed_below h1 hb, ⟨v, boxed_below h6 hb, row_below h7 hb⟩, h8.trans (hb.mono (by have := h1.lt; omega))⟩
theorem KHeld.own {β : Type} {w0 : World} {B : Nat} {t : ByteArray} (hB : w0.heap.size ≤ B) (pre : β → Fds) : OwnFrom B (fun (x : β) W => KHeld w0 t (pre x) W) := by
  rintro x W W' row ⟨h1, ⟨v, h6, h7⟩, h8⟩ hg hr
  have hr' : ∀ r, row = some r → ∃ o : Obj, W.heap[r]? = some o ∧ o.isCells = false := fun r e => (hr r e).2
  exact ⟨boxed_other h1 hg hr', ⟨v, boxed_other h6 hg hr', row_other h7 hg hr'⟩, ownFrom_below (β := β) (Nat.le_refl _) hB x W W' row h8 hg hr⟩
theorem FdJ.own {H : Fds → World → Prop} {B : Nat} {tot : Fds} {big : Nat} (hH : OwnFrom B H) : OwnFrom B (FdJ H tot big) :=
  fun x W W' row h hg hr => ⟨hH x.1 W W' row h.1 hg hr, h.2⟩
theorem FdJ2.own {H : Fds → World → Prop} {B : Nat} {tot : Fds} {big : Nat} (hH : OwnFrom B H) : OwnFrom B (FdJ2 H tot big) :=
  fun x W W' row h hg hr => ⟨hH _ W W' row h.1 hg hr, h.2⟩
/-- behind the assignment -/
def FdJ1 (H : Fds → World → Prop) (tot : Fds) (big : Nat) (tm : Value → Value → Array Value) (x : (Fds × ByteArray) × Act) (W : World) : Prop :=
  x.2 = { tmps := tm (.string (keyAt x.1.2)) (.string (valAt x.1.2)), defers := [] } ∧ FdJ H tot big x.1 W
theorem FdJ1.own {H : Fds → World → Prop} {B : Nat} {tot : Fds} {big : Nat} {tm : Value → Value → Array Value} (hH : OwnFrom B H) : OwnFrom B (FdJ1 H tot big tm) :=
  fun x W W' row h hg hr => ⟨h.1, FdJ.own hH x.1 W W' row h.2 hg hr⟩
set_option maxHeartbeats 4000000 in
set_option maxRecDepth 100000 in
theorem table_Keys.calls (a0 : ByteArray) (r1 : List ByteArray) (r2 : Int) (w : World) (hg : Laid w) (h : table_Keys.f a0 = some (r1, r2)) :
    Calls Tryd.prog 17 #[.string a0] w fun e w' => ∃ v0_ : Value, e = .returned (.tuple #[v0_, .int .i64 r2]) ∧ Kd.R Kd.string 9 w' w.heap.size (fun _ => True) v0_ r1 ∧ Below w.heap.size w w' := by
  have hz : a0.size ≤ 4611686018427387904 := by
    unfold table_Keys.f at h
    split at h
    · assumption
    · cases h
  unfold table_Keys.f at h
  rw [if_pos hz] at h
  replace h := Option.some.inj h
  unfold keysR at h
  have ht := Aside0.mk (whole_f a0 (by omega))
  have hsm := whole_small (t := a0)
  generalize wholeR a0 = q at ht h hsm
  have HG := Aside0.mk hg
  clear hg
  by_cases e : q = 0
  · subst e
    rw [if_pos rfl] at h
    obtain ⟨hs, rfl⟩ := Prod.mk.inj h
    clear h
    have HS := Aside0.mk hs
    have HZ := Aside0.mk (hsm rfl)
    clear hs hz hsm
    refine (callsIn_wide (n := 4)).1 ?_
    refine callsIn_of_wp_marks Tryd.func17 rfl trivial ?_ rfl
    simp only [Tryd.ntmps17, List.size_toArray, List.length_cons, List.length_nil, Nat.reduceAdd, Nat.reduceSub, Array.replicate_succ, Array.replicate_zero, List.push_toArray, List.append_toArray, List.nil_append, List.cons_append]
    gi_wp2_with (first | (refine ⟨trivial, ?_⟩; gi_at_call 31; refine (callsIn_wide.2 (table_whole.calls _ _ _ HG.out ht.out)).mono ?_; rintro e w1 ⟨rfl, hb1⟩) | (refine ⟨trivial, ?_⟩; gi_at_call 34; refine (callsIn_wide.2 (fields_calls _ _)).mono ?_; rintro e w' ⟨rfl, rfl⟩))
    have hn2 : ∀ (o1 o2 : Obj), ((w1.alloc o1).alloc o2).heap.size = w1.heap.size + 2 := by intros; simp
    have hF0 : KHeld w1 a0 [] ((w1.alloc (.cells #[.slice none 0 0] 27)).alloc (.cells #[.string a0] 9)) := by
      refine ⟨boxed_at _ _ _ _ (by simp), ⟨.slice none 0 0, (Boxed.new w1 _ _).alloc _, ⟨rfl, .inl ⟨rfl, rfl⟩⟩⟩, ?_⟩
      exact ((Below.refl _ w1).alloc (Nat.le_refl _) _).alloc (by simp) _
    have hown : OwnFrom ((w1.alloc (.cells #[.slice none 0 0] 27)).alloc (.cells #[.string a0] 9)).heap.size (KHeld w1 a0) := KHeld.own (β := Fds) (by rw [hn2]; omega) (fun x => x)
    refine wpIn_rangeFunc_shared rfl (by decide) (gf := 45) (lb := #[.pointer (some ⟨w1.heap.size + 1, 0, none⟩)]) rfl trivial (enters_of Tryd.func45 (by kernel_rfl) rfl)
      fdencs (fun _ => rfl) (FdJ (KHeld w1 a0) (fldR (inR a0)) a0.size)
      (FdJ1 (KHeld w1 a0) (fldR (inR a0)) a0.size fun x y => #[.string a0, undef, .slice none 0 0, .int .i64 0, .int .i64 0, .pointer (some ⟨w1.heap.size, 0, none⟩), x, .string a0, .int .i64 0, .int .i64 0, .bool false, undef, .string a0,
        .func (.func 45) #[] #[.pointer (some ⟨w1.heap.size + 1, 0, none⟩)], x, y, undef, undef, undef, undef, undef])
      (FdJ2 (KHeld w1 a0) (fldR (inR a0)) a0.size) (fun _ _ _ => False) (fun _ W => KHeld w1 a0 (fldR (inR a0)) W)
      (FdJ1.own hown) (FdJ2.own hown) (fun _ _ _ _ _ hs _ _ => hs) (fun _ => hown _) ?seq ?assign ?body ?done ?stop
    case stop =>
      rintro D c s W _ h _
      exact h.elim
    case seq =>
      rintro l B X o1 o2 W1 hW1 _ hB h1 hY
      have hF1 : KHeld w1 a0 [] W1 := by
        rw [← hW1]
        exact hF0.below (((Below.refl _ _).alloc (Nat.le_refl _) _).alloc (by simp) _)
      exact fields_iter 2 a0 (w1.heap.size + 1) (KHeld w1 a0) (fun _ _ _ hb h => h.below hb) (fun _ _ h => h.1) (fun _ _ h => (HG.out.below hb1).below h.2.2) (fldR (inR a0)) a0.size (Nat.le_trans HZ.out (by decide)) l _ B X W1 hB h1 hY hF1 rfl (Nat.le_refl _)
    case assign =>
      rintro l s W K hlt hJ hK
      unfold fdencs
      gi_wp2
      apply hK
      · exact (KeepsOthers.refl _).from _
      · exact ⟨by simp, hJ⟩
    case done =>
      rintro D W hD ⟨e2, ⟨v, e3, e4⟩, e5⟩ hK
      have c3 := e3.cell
      gi_wp2
      rw [hn2] at hD
      refine ⟨by simp, .inl ⟨_, _, rfl, run_takeDeferred hK, ?_⟩⟩
      have hR := row_other e4 (grownBy_putObj' W D (.deferred none)) (fun r e => by cases e; exact ⟨_, hK, rfl⟩)
      have hBd := e5.trans (belowK_b (w := w1) (Nat.le_refl _) W D _ (.deferred none) (by omega) hK rfl rfl)
      have hR2 : (W.putObj D (.deferred none)).ownsRow (w1.heap.size + 2) 9 1 v r1.length (r1.map Value.string) := by
        rw [← HS.out, List.length_map, List.map_map]; exact hR
      exact ⟨_, results_tmp2 rfl _ _ _, v, rfl, row_strs (row_lower hR2 (by have := hb1.size; omega)), hb1.trans (hBd.mono hb1.size)⟩
    case body =>
      rintro l s a' W hlt ⟨ha', hJ⟩
      obtain ⟨⟨h1, ⟨v, h6, hrow0⟩, h8⟩, hJ'⟩ := hJ
      have hrow : W.ownsRow (w1.heap.size + 2) 9 1 v s.1.length (s.1.map fun p => Value.string p.1) := hrow0
      clear hrow0
      dsimp only at ha'
      subst ha'
      have hv := h6.cell
      have hvf := h6.frozen
      obtain ⟨i0, hi, hz0, hz1, hz2⟩ := info_parts info9
      have hle : w1.heap.size ≤ W.heap.size := h8.size
      have hle3 : w1.heap.size + 2 ≤ W.heap.size := h1.lt
      have hlen : s.1.length ≤ 4294967299 := Nat.le_trans (Nat.le_trans (Nat.le_add_right _ _) hJ'.2.2) HZ.out
      replace hJ' := Aside0.mk hJ'
      gi_wp2_with (gi_at_builtin; refine wpListIn_append_own _ rfl _ _ 27 rfl (w1.heap.size + 2) 9 i0 _ 1 16 Tryd.underlying27 hi hz0 hz1 hz2 rfl (by decide) _ _ _ rfl (hrow.alloc _) ⟨W.heap.size, 0, none⟩ 1 1 [.string (keyAt s.2)] rfl rfl (cell_one_new _ _ _) (by simp [Value.oneCell']) (by show _ ≤ 9223372036854775807; omega) (by omega) (by simp; omega) ?_; intro v' w3 hown' hgrow _; obtain ⟨g', cap', rfl⟩ := ownsRow_succ hown'; obtain ⟨hv1, hv2, hr2, hk2, hb2⟩ := h6.appended (by decide) (row_lower hrow (by omega : w1.heap.size ≤ w1.heap.size + 2)) hle (by omega) (row_lower hown' (by omega)) hgrow; have hc1 := hv1.cell; have hf1 := hv1.frozen)
      have kp : ∀ {B : Nat} {t : TypeId} {u : Value}, Boxed W B t u → B < w1.heap.size + 2 → some B ≠ some w1.heap.size → Boxed (w3.setCell ⟨w1.heap.size, 0, none⟩ (.slice (some ⟨g', 0, none⟩) (s.1.length + 1) cap')) B t u :=
        fun h ht hne => ((h.alloc _).kept hgrow (row_ne hrow ht)).kept (grownBy_setCell' w3 _ _) hne
      refine ⟨hk2.from _, ⟨⟨kp h1 (by omega) (by simp), ⟨_, hv2, ?_⟩, h8.trans hb2⟩, hJ'.out⟩⟩
      have := hown'.kept (grownBy_setCell' w3 w1.heap.size (.slice (some ⟨g', 0, none⟩) (s.1.length + 1) cap')) (.inr (row_ne hown' (by omega)).symm)
      rw [List.length_append, List.length_singleton, List.map_append]
      exact this
  · rw [if_neg e] at h
    obtain ⟨rfl, rfl⟩ := Prod.mk.inj h
    clear h
    have e1 : (q != 0) = true := by simpa using e
    go_enter Tryd.func17, Tryd.ntmps17
    go_wp2_with (first | (go_at_call 31; refine (table_whole.calls _ _ _ HG.out ht.out).mono ?_; rintro e w1 ⟨rfl, hb1⟩))
    go_ret2
    exact ⟨_, rfl, row_strs ⟨rfl, .inl ⟨rfl, rfl⟩⟩, hb1⟩
end Go.Proofs.YthdkmohelampbaaDoor.F
namespace Go.Proofs.YthdkmohelampbaaDoor.F
open Go.RowKit Go.Proofs.YthdkmohelampbaaDoorW.PrintWords Go.Proofs.YthdkmohelampbaaDoorW.PrintLast Go.Proofs.YthdkmohelampbaaDoorW.PrintMore
set_option linter.unusedVariables false
set_option linter.unusedSimpArgs false
attribute [local go_sem] Oper.semAt_some
def findF (key : ByteArray) : Fds → ByteArray × Bool
  | [] => (⟨#[]⟩, false)
  | p :: l => if p.1.toList = key.toList then (p.2, true) else findF key l
def findR (t key : ByteArray) : ByteArray × Bool := if wholeR t = 0 then findF key (fldR (inR t)) else (⟨#[]⟩, false)
def table_Find.f (a0 a1 : ByteArray) : Option (ByteArray × Bool) := if a0.size ≤ 4611686018427387904 then some (findR a0 a1) else none
theorem findF_app {key : ByteArray} : ∀ {pre : Fds} (l : Fds), (∀ p ∈ pre, ¬ p.1.toList = key.toList) → findF key (pre ++ l) = findF key l
  | [], _, _ => rfl
  | p :: pre, l, h => by
    rw [List.cons_append, findF, if_neg (h p (List.mem_cons_self ..)), findF_app l (fun q hq => h q (List.mem_cons_of_mem _ hq))]
theorem results_cell2 {P : Program} {fn : Func} {p q : Tmp} {ty ty2 : TypeId} {d d2 : TypeDesc} {v u : Value} (h : fn.results = #[.cell p ty, .cell q ty2]) (tmps : Array Value) (w : World) (a b : Addr) (hp : tmps.getD p undef = .pointer (some a)) (hq : tmps.getD q undef = .pointer (some b)) (hu : P.underlying ty = some d) (hu2 : P.underlying ty2 = some d2)
    (hd : (match d with | .struct _ | .array _ _ => true | _ => false) = false) (hd2 : (match d2 with | .struct _ | .array _ _ => true | _ => false) = false) (hc : w.cell? a = some v) (hc2 : w.cell? b = some u) : (results fn tmps).run P w = .ok (.tuple #[v, u]) w := by
  have hp' : tmps[p]?.getD undef = .pointer (some a) := by simpa using hp
  have hq' : tmps[q]?.getD undef = .pointer (some b) := by simpa using hq
  have ha : (isAgg ty).run P w = .ok false w := by cases d <;> simp_all [isAgg, run_underlying hu]
  have hb : (isAgg ty2).run P w = .ok false w := by cases d2 <;> simp_all [isAgg, run_underlying hu2]
  simp [results, h, hp', hq', asAddr, loadVar, ha, hb, go_sem, hc, hc2]
/-- What the blocks of a call of Find hold between two rounds. -/
def NHeld (w0 : World) (b : Nat) (t key : ByteArray) (pre : Fds) (W : World) : Prop :=
  Boxed W b 9 (.string t) ∧ Boxed W w0.heap.size 9 (.string key) ∧ Boxed W (w0.heap.size + 1) 9 (.string ⟨#[]⟩) ∧ Boxed W (w0.heap.size + 1 + 1) 4 (.bool false) ∧ (∀ p ∈ pre, ¬ p.1.toList = key.toList) ∧ Below w0.heap.size w0 W
theorem NHeld.below {w0 : World} {b : Nat} {t key : ByteArray} {pre : Fds} {W W' : World} (hb : Below W.heap.size W W') (h : NHeld w0 b t key pre W) : NHeld w0 b t key pre W' := by
  obtain ⟨h1, h2, h3, h4, h5, h8⟩ := h
  exact ⟨boxed_below h1 hb, boxed_below h2 hb, boxed_below h3 hb, boxed_below h4 hb, h5, h8.trans (hb.mono (by have := h2.lt; omega))⟩
theorem NHeld.own {w0 : World} {B b : Nat} {t key : ByteArray} (hB : w0.heap.size ≤ B) : OwnFrom B (NHeld w0 b t key) := by
  rintro x W W' row ⟨h1, h2, h3, h4, h5, h8⟩ hg hr
  have hr' : ∀ r, row = some r → ∃ o : Obj, W.heap[r]? = some o ∧ o.isCells = false := fun r e => (hr r e).2
  exact ⟨boxed_other h1 hg hr', boxed_other h2 hg hr', boxed_other h3 hg hr', boxed_other h4 hg hr', h5, ownFrom_below (β := Fds) (Nat.le_refl _) hB x W W' row h8 hg hr⟩
/-- where it was found -/
def NX (w0 : World) (key : ByteArray) (tot : Fds) (c : Code) (_ : Fds × ByteArray) (W : World) : Prop :=
  c = .ret ∧ (∃ v, Boxed W (w0.heap.size + 1) 9 (.string v) ∧ findF key tot = (v, true)) ∧ Boxed W (w0.heap.size + 1 + 1) 4 (.bool true) ∧ Below w0.heap.size w0 W
theorem NX.own {w0 : World} {B : Nat} {key : ByteArray} {tot : Fds} (hB : w0.heap.size ≤ B) (c : Code) : OwnFrom B (NX w0 key tot c) := by
  rintro x W W' row ⟨h1, ⟨v, h2, h3⟩, h4, h8⟩ hg hr
  have hr' : ∀ r, row = some r → ∃ o : Obj, W.heap[r]? = some o ∧ o.isCells = false := fun r e => (hr r e).2
  exact ⟨h1, ⟨v, boxed_other h2 hg hr', h3⟩, boxed_other h4 hg hr', ownFrom_below (β := Fds × ByteArray) (Nat.le_refl _) hB x W W' row h8 hg hr⟩
set_option maxHeartbeats 4000000 in
set_option maxRecDepth 100000 in
theorem table_Find.calls (a0 a1 : ByteArray) (r1 : ByteArray) (r2 : Bool) (w : World) (hg : Laid w) (h : table_Find.f a0 a1 = some (r1, r2)) :
    Calls Tryd.prog 16 #[.string a0, .string a1] w fun e w' => e = .returned (.tuple #[.string r1, .bool r2]) ∧ Below w.heap.size w w' := by
  have hz : a0.size ≤ 4611686018427387904 := by
    unfold table_Find.f at h
    split at h
    · assumption
    · cases h
  unfold table_Find.f at h
  rw [if_pos hz] at h
  replace h := Option.some.inj h
  unfold findR at h
  have ht := fun w hg => table_whole.calls a0 _ w hg (whole_f a0 (by omega))
  generalize wholeR a0 = q at ht h
  have HG := Aside0.mk hg
  clear hg
  by_cases e : q = 0
  · subst e
    rw [if_pos rfl] at h
    have HS := Aside0.mk h
    have HZ := Aside0.mk hz
    clear h hz
    refine (callsIn_wide (n := 4)).1 ?_
    refine callsIn_of_wp_marks Tryd.func16 rfl trivial ?_ rfl
    simp only [Tryd.ntmps16, List.size_toArray, List.length_cons, List.length_nil, Nat.reduceAdd, Nat.reduceSub, Array.replicate_succ, Array.replicate_zero, List.push_toArray, List.append_toArray, List.nil_append, List.cons_append]
    gi_wp2_with (first | (refine ⟨trivial, ?_⟩; gi_at_call 31; refine (callsIn_wide.2 (ht _ (HG.out.below (by repeat (first | exact Below.refl _ _ | refine Below.alloc ?_ (by simp; try omega) _))))).mono ?_; rintro e w1 ⟨rfl, hb1⟩) | (refine ⟨trivial, ?_⟩; gi_at_call 34; refine (callsIn_wide.2 (fields_calls _ _)).mono ?_; rintro e w' ⟨rfl, rfl⟩))
    have hB3 : Below w.heap.size w (((w.alloc (.cells #[.string a1] 9)).alloc (.cells #[.string ⟨#[]⟩] 9)).alloc (.cells #[.bool false] 4)) :=
      (((Below.refl _ w).alloc (Nat.le_refl _) _).alloc (by simp) _).alloc (by simp; omega) _
    have hn3 : ∀ (o1 o2 o3 : Obj), (((w.alloc o1).alloc o2).alloc o3).heap.size = w.heap.size + 3 := by intros; simp
    have hs1 : w.heap.size + 3 ≤ w1.heap.size := by have := hb1.size; rw [hn3] at this; exact this
    have hBw : Below w.heap.size w w1 := hB3.trans (hb1.mono (by rw [hn3]; omega))
    have hA : Below w1.heap.size w1 (w1.alloc (.cells #[.string a0] 9)) := (Below.refl _ _).alloc (Nat.le_refl _) _
    have hF0 : NHeld w w1.heap.size a0 a1 [] (w1.alloc (.cells #[.string a0] 9)) := by
      refine ⟨Boxed.new w1 _ _, boxed_below (boxed_below (((Boxed.new w _ _).alloc _).alloc _) hb1) hA, boxed_below (boxed_below ((boxed_at _ _ _ _ (by simp)).alloc _) hb1) hA, boxed_below (boxed_below (boxed_at _ _ _ _ (by simp)) hb1) hA, fun _ h => absurd h (List.not_mem_nil), ?_⟩
      exact hBw.trans (hA.mono (by omega))
    have hsz : (w1.alloc (.cells #[.string a0] 9)).heap.size = w1.heap.size + 1 := by simp
    have hown : OwnFrom (w1.alloc (.cells #[.string a0] 9)).heap.size (NHeld w w1.heap.size a0 a1) := NHeld.own (by rw [hsz]; omega)
    clear hB3 hb1
    refine wpIn_rangeFunc_shared rfl (by decide) (gf := 45) (lb := #[.pointer (some ⟨w1.heap.size, 0, none⟩)]) rfl trivial (enters_of Tryd.func45 (by kernel_rfl) rfl)
      fdencs (fun _ => rfl) (FdJ (NHeld w w1.heap.size a0 a1) (fldR (inR a0)) a0.size)
      (FdJ1 (NHeld w w1.heap.size a0 a1) (fldR (inR a0)) a0.size fun x y => #[.string a0, .string a1, undef, .pointer (some ⟨w.heap.size, 0, none⟩), .pointer (some ⟨w.heap.size + 1, 0, none⟩), .pointer (some ⟨w.heap.size + 1 + 1, 0, none⟩), x, y, .string a0, .int .i64 0, .bool false, .string a0,
        .func (.func 45) #[] #[.pointer (some ⟨w1.heap.size, 0, none⟩)], x, y, undef, undef, undef, undef])
      (FdJ2 (NHeld w w1.heap.size a0 a1) (fldR (inR a0)) a0.size) (NX w a1 (fldR (inR a0))) (fun _ W => NHeld w w1.heap.size a0 a1 (fldR (inR a0)) W)
      (FdJ1.own hown) (FdJ2.own hown) (fun c => NX.own (by rw [hsz]; omega) c) (fun _ => hown _) ?seq ?assign ?body ?done ?stop
    case stop =>
      rintro D c s W hD ⟨rfl, ⟨v, e2, hfd⟩, e3, e5⟩ hK
      rw [hsz] at hD
      have hBd := e5.trans (belowK_b (w := w) (Nat.le_refl _) W D _ (.deferred none) (by omega) hK rfl rfl)
      obtain ⟨rfl, rfl⟩ := Prod.mk.inj (HS.out.symm.trans hfd)
      gi_wp2
      refine ⟨by simp, .inl ⟨_, _, rfl, run_takeDeferred hK, ?_⟩⟩
      have d2 := (boxed_other e2 (grownBy_putObj' W D (.deferred none)) (fun r e => by cases e; exact ⟨_, hK, rfl⟩)).cell
      have d3 := (boxed_other e3 (grownBy_putObj' W D (.deferred none)) (fun r e => by cases e; exact ⟨_, hK, rfl⟩)).cell
      exact ⟨_, results_cell2 rfl _ _ _ _ rfl rfl Tryd.underlying9 Tryd.underlying4 rfl rfl d2 d3, rfl, hBd⟩
    case seq =>
      rintro l B X o1 o2 W1 hW1 _ hB h1 hY
      have hF1 : NHeld w w1.heap.size a0 a1 [] W1 := by
        rw [← hW1]
        exact hF0.below (((Below.refl _ _).alloc (Nat.le_refl _) _).alloc (by simp) _)
      exact fields_iter 2 a0 w1.heap.size (NHeld w w1.heap.size a0 a1) (fun _ _ _ hb h => h.below hb) (fun _ _ h => h.1) (fun _ _ h => HG.out.below h.2.2.2.2.2) (fldR (inR a0)) a0.size (Nat.le_trans HZ.out (by decide)) l _ B X W1 hB h1 hY hF1 rfl (Nat.le_refl _)
    case assign =>
      rintro l s W K hlt hJ hK
      unfold fdencs
      gi_wp2
      apply hK
      · exact (KeepsOthers.refl _).from _
      · exact ⟨by simp, hJ⟩
    case done =>
      rintro D W hD ⟨e1, e2, e3, e4, hni, e5⟩ hK
      have hfd := findF_app [] hni
      rw [List.append_nil] at hfd
      obtain ⟨rfl, rfl⟩ := Prod.mk.inj (HS.out.symm.trans hfd)
      rw [hsz] at hD
      obtain ⟨W2, hW2⟩ : ∃ W2, (W.setCell ⟨w.heap.size + 1, 0, none⟩ (.string ⟨#[]⟩)).setCell ⟨w.heap.size + 1 + 1, 0, none⟩ (.bool false) = W2 := ⟨_, rfl⟩
      have g1 := grownBy_setCell' W (w.heap.size + 1) (.string ⟨#[]⟩)
      have g2 := grownBy_setCell' (W.setCell ⟨w.heap.size + 1, 0, none⟩ (.string ⟨#[]⟩)) (w.heap.size + 1 + 1) (.bool false)
      have a3 := e3.set (.string ⟨#[]⟩)
      have a4 := e4.kept g1 (by simp)
      have b4 := a4.set (.bool false)
      have b3 := a3.kept g2 (by simp)
      have f3 := e3.frozen
      have f4 := a4.frozen
      have c3 := e3.cell
      have c4 := a4.cell
      have hK2 : W2.heap[D]? = some (.deferred (some [])) := by
        rw [← hW2]
        exact (KeepsOthers.setCell _ _ _).same D _ ((KeepsOthers.setCell _ _ _).same D _ hK rfl) rfl
      have hB2 : Below w.heap.size w W2 := by
        rw [← hW2]
        exact (e5.setCell (p := ⟨w.heap.size + 1, 0, none⟩) (by simp) (.string ⟨#[]⟩)).setCell (p := ⟨w.heap.size + 1 + 1, 0, none⟩) (by simp; omega) (.bool false)
      have hBd := hB2.trans (belowK_b (w := w) (Nat.le_refl _) W2 D _ (.deferred none) (by omega) hK2 rfl rfl)
      rw [hW2] at b3 b4
      clear g1 g2 a3 a4 e3 e4
      gi_wp2
      refine ⟨by simp, .inl ⟨_, _, rfl, run_takeDeferred hK2, ?_⟩⟩
      have d3 := (boxed_other b3 (grownBy_putObj' W2 D (.deferred none)) (fun r e => by cases e; exact ⟨_, hK2, rfl⟩)).cell
      have d4 := (boxed_other b4 (grownBy_putObj' W2 D (.deferred none)) (fun r e => by cases e; exact ⟨_, hK2, rfl⟩)).cell
      exact ⟨_, results_cell2 rfl _ _ _ _ rfl rfl Tryd.underlying9 Tryd.underlying4 rfl rfl d3 d4, rfl, hBd⟩
    case body =>
      rintro l s a' W hlt ⟨ha', hJ⟩
      obtain ⟨⟨h1, h2, h3, h4, h5, h8⟩, hne, hT, hlen⟩ := hJ
      dsimp only at ha'
      subst ha'
      have hv := h2.cell
      have hEE := fldR_eq s.2
      rw [if_neg hne] at hEE
      have hTT := Aside0.mk hT
      clear hT
      by_cases e1 : (keyAt s.2).toList = a1.toList
      · have d1 : ((keyAt s.2).toList == a1.toList) = true := beq_iff_eq.2 e1
        have hfd : findF a1 (fldR (inR a0)) = (valAt s.2, true) := by rw [hTT.out, findF_app _ h5, hEE, findF, if_pos e1]
        have HFD := Aside0.mk hfd
        have g1 := grownBy_setCell' W (w.heap.size + 1) (.string (valAt s.2))
        have g2 := grownBy_setCell' (W.setCell ⟨w.heap.size + 1, 0, none⟩ (.string (valAt s.2))) (w.heap.size + 1 + 1) (.bool true)
        have a3 := h3.set (.string (valAt s.2))
        have a4 := h4.kept g1 (by simp)
        have b4 := a4.set (.bool true)
        have b3 := a3.kept g2 (by simp)
        have f3 := h3.frozen
        have f4 := a4.frozen
        have c3 := h3.cell
        have c4 := a4.cell
        clear e1 hfd hEE
        gi_wp2
        exact ⟨((KeepsOthers.setCell _ _ _).from _).trans ((KeepsOthers.setCell _ _ _).from _), rfl, ⟨_, b3, HFD.out⟩, b4, (h8.setCell (p := ⟨w.heap.size + 1, 0, none⟩) (by simp) _).setCell (p := ⟨w.heap.size + 1 + 1, 0, none⟩) (by simp; omega) _⟩
      · have d1 : ((keyAt s.2).toList == a1.toList) = false := beq_eq_false_iff_ne.2 e1
        have h5' : ∀ p ∈ s.1 ++ [(keyAt s.2, valAt s.2)], ¬ p.1.toList = a1.toList := by
          intro p hp
          rcases List.mem_append.1 hp with h | h
          · exact h5 p h
          · rw [List.mem_singleton.1 h]; exact e1
        have H5 := Aside0.mk h5'
        clear e1 h5' hEE
        gi_wp2
        exact ⟨(KeepsOthers.refl _).from _, ⟨h1, h2, h3, h4, H5.out, h8⟩, hne, hTT.out, hlen⟩
  · rw [if_neg e] at h
    obtain ⟨rfl, rfl⟩ := Prod.mk.inj h
    clear h
    have e1 : (q != 0) = true := by simpa using e
    refine (callsIn_wide (n := 4)).1 ?_
    refine callsIn_of_wp_marks Tryd.func16 rfl trivial ?_ rfl
    simp only [Tryd.ntmps16, List.size_toArray, List.length_cons, List.length_nil, Nat.reduceAdd, Nat.reduceSub, Array.replicate_succ, Array.replicate_zero, List.push_toArray, List.append_toArray, List.nil_append, List.cons_append]
    have hB3 : Below w.heap.size w (((w.alloc (.cells #[.string a1] 9)).alloc (.cells #[.string ⟨#[]⟩] 9)).alloc (.cells #[.bool false] 4)) :=
      (((Below.refl _ w).alloc (Nat.le_refl _) _).alloc (by simp) _).alloc (by simp; omega) _
    have hn3 : ∀ (o1 o2 o3 : Obj), (((w.alloc o1).alloc o2).alloc o3).heap.size = w.heap.size + 3 := by intros; simp
    have x3 : Boxed (((w.alloc (.cells #[.string a1] 9)).alloc (.cells #[.string ⟨#[]⟩] 9)).alloc (.cells #[.bool false] 4)) (w.heap.size + 1) 9 (.string ⟨#[]⟩) := (boxed_at _ _ _ _ (by simp)).alloc _
    have x4 : Boxed (((w.alloc (.cells #[.string a1] 9)).alloc (.cells #[.string ⟨#[]⟩] 9)).alloc (.cells #[.bool false] 4)) (w.heap.size + 1 + 1) 4 (.bool false) := boxed_at _ _ _ _ (by simp)
    gi_wp2_with (first | (refine ⟨trivial, ?_⟩; gi_at_call 31; refine (callsIn_wide.2 (ht _ (HG.out.below (by repeat (first | exact Below.refl _ _ | refine Below.alloc ?_ (by simp; try omega) _))))).mono ?_; rintro e w1 ⟨rfl, hb1⟩; have e3 := boxed_below x3 hb1; have g1 := grownBy_setCell' w1 (w.heap.size + 1) (.string ⟨#[]⟩); have a4 := (boxed_below x4 hb1).kept g1 (by simp); have f3 := e3.frozen; have f4 := a4.frozen; have c3 := e3.cell; have c4 := a4.cell))
    have a3 := e3.set (.string ⟨#[]⟩)
    have g2 := grownBy_setCell' (w1.setCell ⟨w.heap.size + 1, 0, none⟩ (.string ⟨#[]⟩)) (w.heap.size + 1 + 1) (.bool false)
    have b4 := (a4.set (.bool false)).cell
    have b3 := (a3.kept g2 (by simp)).cell
    have hBw : Below w.heap.size w w1 := hB3.trans (hb1.mono (by rw [hn3]; omega))
    exact ⟨_, results_cell2 rfl _ _ _ _ rfl rfl Tryd.underlying9 Tryd.underlying4 rfl rfl b3 b4, rfl, (hBw.setCell (p := ⟨w.heap.size + 1, 0, none⟩) (by simp) (.string ⟨#[]⟩)).setCell (p := ⟨w.heap.size + 1 + 1, 0, none⟩) (by simp; omega) (.bool false)⟩
end Go.Proofs.YthdkmohelampbaaDoor.F
namespace Go.Proofs.YthdkmohelampbaaDoor.F
open Go.RowKit Go.Proofs.YthdkmohelampbaaDoorW.PrintWords Go.Proofs.YthdkmohelampbaaDoorW.PrintLast Go.Proofs.YthdkmohelampbaaDoorW.PrintMore
set_option linter.unusedVariables false
set_option linter.unusedSimpArgs false
open Go.Shelf
def renB : Go.Shelf.Ren := ⟨fun | 166 => 28 | 169 => 30 | 240 => 41 | 276 => 51 | n => n,
  fun | 70 => 56 | 72 => 59 | 37 => 57 | 127 => 81 | 164 => 89 | 75 => 62 | 80 => 65 | 20 => 20 | 9 => 9 | 5 => 5 | 4 => 4 | 3 => 3 | n => n, fun n => n⟩
theorem laysW : Lays.n166 Tryd.prog renB where
  mixed := by kernel_rfl
  f166 := Tryd.func28.trans (congrArg some (by kernel_rfl))
  f240 := Tryd.func41.trans (congrArg some (by kernel_rfl))
  f276 := Tryd.func51.trans (congrArg some (by kernel_rfl))
  t0 := Tryd.underlying0
  a0 := Tryd.isAgg0
  z0 := Tryd.sizeOf0
  v0 := Tryd.zeroValue0
  t3 := Tryd.underlying3
  a3 := Tryd.isAgg3
  z3 := Tryd.sizeOf3
  v3 := Tryd.zeroValue3
  t4 := Tryd.underlying4
  a4 := Tryd.isAgg4
  z4 := Tryd.sizeOf4
  v4 := Tryd.zeroValue4
  t9 := Tryd.underlying9
  a9 := Tryd.isAgg9
  z9 := Tryd.sizeOf9
  v9 := Tryd.zeroValue9
  t20 := Tryd.underlying20
  a20 := Tryd.isAgg20
  z20 := Tryd.sizeOf20
  v20 := Tryd.zeroValue20
  t37 := Tryd.underlying57
  a37 := Tryd.isAgg57
  z37 := Tryd.sizeOf57
  v37 := Tryd.zeroValue57
  t70 := Tryd.underlying56
  a70 := Tryd.isAgg56
  z70 := Tryd.sizeOf56
  v70 := Tryd.zeroValue56
  t72 := Tryd.underlying59
  a72 := Tryd.isAgg59
  z72 := Tryd.sizeOf59
  v72 := Tryd.zeroValue59
  t75 := Tryd.underlying62
  a75 := Tryd.isAgg62
  z75 := Tryd.sizeOf62
  v75 := Tryd.zeroValue62
  t164 := Tryd.underlying89
  a164 := Tryd.isAgg89
  z164 := Tryd.sizeOf89
  v164 := Tryd.zeroValue89
theorem laysS : Lays.n169 Tryd.prog renB where
  mixed := by kernel_rfl
  f169 := Tryd.func30.trans (congrArg some (by kernel_rfl))
  t0 := Tryd.underlying0
  a0 := Tryd.isAgg0
  z0 := Tryd.sizeOf0
  v0 := Tryd.zeroValue0
  t3 := Tryd.underlying3
  a3 := Tryd.isAgg3
  z3 := Tryd.sizeOf3
  v3 := Tryd.zeroValue3
  t9 := Tryd.underlying9
  a9 := Tryd.isAgg9
  z9 := Tryd.sizeOf9
  v9 := Tryd.zeroValue9
  t37 := Tryd.underlying57
  a37 := Tryd.isAgg57
  z37 := Tryd.sizeOf57
  v37 := Tryd.zeroValue57
  t70 := Tryd.underlying56
  a70 := Tryd.isAgg56
  z70 := Tryd.sizeOf56
  v70 := Tryd.zeroValue56
  t72 := Tryd.underlying59
  a72 := Tryd.isAgg59
  z72 := Tryd.sizeOf59
  v72 := Tryd.zeroValue59
  t127 := Tryd.underlying81
  a127 := Tryd.isAgg81
  z127 := Tryd.sizeOf81
  v127 := Tryd.zeroValue81
theorem extraB : Builder.Extra Tryd.prog renB where
  sizeBuilder := by kernel_rfl
  liesBuilder := by kernel_rfl
  t5 := Tryd.underlying5
  a5 := Tryd.isAgg5
  z5 := Tryd.sizeOf5
  v5 := Tryd.zeroValue5
  infoByte := by kernel_rfl
  cellsByte := by kernel_rfl
  sizeByte := by kernel_rfl
  neB5 := by decide
end Go.Proofs.YthdkmohelampbaaDoor.F
namespace Go.Proofs.YthdkmohelampbaaDoor.F
open Go.RowKit Go.Proofs.YthdkmohelampbaaDoorW.PrintWords Go.Proofs.YthdkmohelampbaaDoorW.PrintLast Go.Proofs.YthdkmohelampbaaDoorW.PrintMore
set_option linter.unusedVariables false
set_option linter.unusedSimpArgs false
open Go.Maps
attribute [local go_sem] Oper.semAt_some
def sumB (l : List ByteArray) : Nat := (l.map ByteArray.size).sum
def mkGo : List ByteArray → List ByteArray → ByteArray → ByteArray × Int
  | [], _, acc => (acc, 0)
  | _ :: _, [], _ => (⟨#[]⟩, 2)
  | key :: ks, val :: vs, acc => if (layR 1 key).2 = 0 then (if (takenR val (tvalR val)).2.2 = 0 then (if (takenR val (tvalR val)).2.1.size = 0 then mkGo ks vs (acc ++ ((layR 1 key).1 ++ val)) else (⟨#[]⟩, 3)) else (⟨#[]⟩, (takenR val (tvalR val)).2.2)) else (⟨#[]⟩, (layR 1 key).2)
/-- the text's length, and the text; is it a table? -/
def closeR (t : ByteArray × Int) : ByteArray × Int := if t.2 = 0 then (if wholeR t.1 = 0 then (t.1, 0) else (⟨#[]⟩, wholeR t.1)) else (⟨#[]⟩, t.2)
def makeR (ks vs : List ByteArray) : ByteArray × Int :=
  if ks.length = vs.length then (if (mkGo ks vs ⟨#[]⟩).2 = 0 then closeR (layR 4 (mkGo ks vs ⟨#[]⟩).1) else (⟨#[]⟩, (mkGo ks vs ⟨#[]⟩).2)) else (⟨#[]⟩, 1)
def makeOk (l0 l1 : List ByteArray) : Prop := l0.length ≤ 1000 ∧ (∀ x ∈ l0, x.size ≤ 140737488355328) ∧ ∀ x ∈ l1, x.size ≤ 140737488355328
instance (l0 l1 : List ByteArray) : Decidable (makeOk l0 l1) := inferInstanceAs (Decidable (_ ∧ _))
theorem sumB_mem : ∀ (l : List ByteArray), ∀ x ∈ l, x.size ≤ sumB l
  | y :: l, x, h => by
    have e : sumB (y :: l) = y.size + sumB l := by simp [sumB]
    rw [e]
    rcases List.mem_cons.1 h with rfl | h
    · omega
    · have := sumB_mem l x h; omega
theorem makeOk_sum {l0 l1 : List ByteArray} (h : l0.length ≤ 1000) (hs : sumB l0 + sumB l1 ≤ 140737488355328) : makeOk l0 l1 :=
  ⟨h, fun x hx => by have := sumB_mem l0 x hx; omega, fun x hx => by have := sumB_mem l1 x hx; omega⟩
theorem getD_size {l : List ByteArray} {B : Nat} (h : ∀ x ∈ l, x.size ≤ B) (k : Nat) : (l.getD k ⟨#[]⟩).size ≤ B := by
  by_cases e : k < l.length
  · have : l.getD k ⟨#[]⟩ = l[k] := by simp [e]
    rw [this]
    exact h _ (List.getElem_mem e)
  · have : l.getD k ⟨#[]⟩ = ⟨#[]⟩ := by simp [List.getElem?_eq_none (Nat.le_of_not_lt e)]
    rw [this]
    exact Nat.zero_le _
def table_Make.f (l0 l1 : List ByteArray) : Option (ByteArray × Int) := if makeOk l0 l1 then some (makeR l0 l1) else none
/-- a builder in block b that holds s -/
def Bld (B b : Nat) (s : ByteArray) (W : World) : Prop := Lib.IsBuilder 59 5 B b (Lib.strCells s) W
theorem strCells_app (s x : ByteArray) : Lib.strCells s ++ Lib.strCells x = Lib.strCells (s ++ x) := by
  unfold Lib.strCells
  rw [← List.map_append, append_data]
theorem Bld.below {B b : Nat} {s : ByteArray} {W W' : World} (h : Bld B b s W) (hb : Below W.heap.size W W') : Bld B b s W' := by
  have f : ∀ p, Lib.BuilderAt 59 5 B b p (Lib.strCells s) W → Lib.BuilderAt 59 5 B b p (Lib.strCells s) W' := by
    rintro p ⟨h1, v, h2, h3, h4⟩
    exact ⟨h1, v, (hb.block b (Array.getElem?_eq_some_iff.1 h2).1).trans h2, row_below h3 hb, h4⟩
  rcases h with h | h
  · exact .inl (f _ h)
  · exact .inr (f _ h)
theorem Bld.write {B b : Nat} {s x : ByteArray} {W : World} (h : Bld B b s W) (hlen : s.size + x.size ≤ 140737488355328) (hBw : B ≤ W.heap.size) :
    Calls Tryd.prog 28 #[.pointer (some ⟨b, 0, none⟩), .string x] W fun e w' => e = .returned (.tuple #[.int .i64 x.size, .nilIface]) ∧ Bld B b (s ++ x) w' ∧ Below B W w' := by
  refine (Any.Builder_WriteString laysW extraB B b (Lib.strCells s) x W h (by rw [Lib.strCells_length]; exact hlen) hBw).mono ?_
  rintro e w' ⟨rfl, h1, h2⟩
  exact ⟨rfl, .inr (by rw [← strCells_app]; exact h1), h2⟩
theorem Bld.string {B b : Nat} {s : ByteArray} {W : World} (h : Bld B b s W) (hBw : B ≤ W.heap.size) :
    Calls Tryd.prog 30 #[.pointer (some ⟨b, 0, none⟩)] W fun e w' => e = .returned (.string s) ∧ Below B W w' :=
  Any.Builder_String_any laysS extraB B b s.data.toList W h hBw
theorem Bld.new (w : World) : Bld w.heap.size w.heap.size ⟨#[]⟩ (w.alloc (.cells #[.pointer none, .slice none 0 0] 59)) := by
  refine .inl ⟨Nat.le_refl _, .slice none 0 0, Array.getElem?_push_size, ⟨rfl, .inl ⟨rfl, rfl⟩⟩, by simp [Value.ownBlock]⟩
theorem mkGo_cons (key val acc : ByteArray) (ks vs : List ByteArray) : mkGo (key :: ks) (val :: vs) acc = if (layR 1 key).2 = 0 then (if (takenR val (tvalR val)).2.2 = 0 then (if (takenR val (tvalR val)).2.1.size = 0 then mkGo ks vs (acc ++ ((layR 1 key).1 ++ val)) else (⟨#[]⟩, 3)) else (⟨#[]⟩, (takenR val (tvalR val)).2.2)) else (⟨#[]⟩, (layR 1 key).2) := rfl
theorem drop_getD (l : List ByteArray) (k : Nat) (h : k < l.length) : l.drop k = l.getD k ⟨#[]⟩ :: l.drop (k + 1) := by
  rw [List.drop_eq_getElem_cons h]
  congr 1
  simp [h]
theorem mk_ms (n k : Nat) (h : k < n) : n - ((k : Int) + 1).toNat < n - (k : Int).toNat := by omega
theorem mk_sz {acc k1 val : ByteArray} {a b n k key N : Nat} (hl : k1.size ≤ key + 8) (h : acc.size + (key + a) + (val.size + b) + 8 * (n - k) ≤ N) (hk : k < n) : (acc ++ (k1 ++ val)).size + a + b + 8 * (n - (k + 1)) ≤ N := by
  rw [size_append, size_append]; omega
theorem sumB_cons (x : ByteArray) (l : List ByteArray) : sumB (x :: l) = x.size + sumB l := by simp [sumB]
set_option maxHeartbeats 4000000 in
set_option maxRecDepth 100000 in
theorem table_Make.calls (A0 : Option Addr) (c0 : Nat) (l0 : List ByteArray) (A1 : Option Addr) (c1 : Nat) (l1 : List ByteArray) (r1 : ByteArray) (r2 : Int) (w : World) (hg : Laid w) (hr0 : Kd.C Kd.string w A0 l0.length l0) (hc0 : l0.length ≤ c0) (hr1 : Kd.C Kd.string w A1 l1.length l1) (hc1 : l1.length ≤ c1) (h : table_Make.f l0 l1 = some (r1, r2)) :
    Calls Tryd.prog 12 #[.slice A0 l0.length c0, .slice A1 l1.length c1] w fun e w' => e = .returned (.tuple #[.string r1, .int .i64 r2]) ∧ Below w.heap.size w w' := by
  have hz : makeOk l0 l1 := by
    unfold table_Make.f at h
    split at h
    · assumption
    · cases h
  unfold table_Make.f at h
  rw [if_pos hz] at h
  replace h := Option.some.inj h
  unfold makeR at h
  unfold makeOk at hz
  have HG := Aside0.mk hg
  have HR0 := Aside0.mk hr0
  have HR1 := Aside0.mk hr1
  clear hg hr0 hr1
  by_cases e : l0.length = l1.length
  · rw [if_pos e] at h
    have en : ((l0.length : Int) != (l1.length : Int)) = false := bne_eq_false_iff_eq.mpr (by omega)
    have H := Aside0.mk h
    have E := Aside0.mk e
    clear h e
    go_enter Tryd.func12, Tryd.ntmps12
    go_wp2
    go_loopw [23] (fun v wr => ∃ (k : Nat) (acc : ByteArray), v = .int .i64 k ∧ Aside0 (k ≤ l0.length) ∧ Aside0 (mkGo (l0.drop k) (l1.drop k) acc = mkGo l0 l1 ⟨#[]⟩) ∧ Aside0 (acc.size ≤ k * 4294967600) ∧ Bld w.heap.size w.heap.size acc wr ∧ Aside0 (Below w.heap.size w wr)) (fun v _ => l0.length - (intOf v).toNat)
    case atStart => exact ⟨0, ⟨#[]⟩, rfl, ⟨Nat.zero_le _⟩, ⟨rfl⟩, ⟨Nat.zero_le _⟩, Bld.new w, ⟨(Below.refl _ w).alloc (Nat.le_refl _) _⟩⟩
    case round =>
      obtain ⟨k, acc, rfl, hk, hgo, hsz, hB, hbw⟩ := hrel
      have hll := hz.1
      have hk0z := getD_size hz.2.1 k
      have hk1z := getD_size hz.2.2 k
      clear hz
      by_cases hlt : k < l0.length
      · have hlt' : decide ((k : Int) < (l0.length : Int)) = true := decide_eq_true (by omega)
        obtain ⟨ad0, hA0, -⟩ := Kd.at_string HR0.out (k : Int) (by omega) (by omega)
        obtain ⟨ad1, hA1, -⟩ := Kd.at_string HR1.out (k : Int) (by omega) (by have := E.out; omega)
        subst hA0 hA1
        have hAt0 : ∀ W', Below w.heap.size w W' → W'.cell? (ad0.add k) = some (.string (l0.getD k ⟨#[]⟩)) := by
          intro W' hb
          obtain ⟨ad, hA, hc⟩ := Kd.at_string (Kd.C_below HR0.out hb) (k : Int) (by omega) (by omega)
          cases hA
          rwa [Int.toNat_natCast] at hc
        have hAt1 : ∀ W', Below w.heap.size w W' → W'.cell? (ad1.add k) = some (.string (l1.getD k ⟨#[]⟩)) := by
          intro W' hb
          obtain ⟨ad, hA, hc⟩ := Kd.at_string (Kd.C_below HR1.out hb) (k : Int) (by omega) (by have := E.out; omega)
          cases hA
          rwa [Int.toNat_natCast] at hc
        have hlt1 : (k : Int) < (l1.length : Int) := by have := E.out; omega
        have hlt0 : (k : Int) < (l0.length : Int) := by omega
        have hk0 : (0 : Int) ≤ (k : Int) := by omega
        have hd0 : l0.drop k = l0.getD k ⟨#[]⟩ :: l0.drop (k + 1) := drop_getD l0 k hlt
        have hd1 : l1.drop k = l1.getD k ⟨#[]⟩ :: l1.drop (k + 1) := drop_getD l1 k (by have := E.out; omega)
        rw [hd0, hd1, mkGo_cons] at hgo
        have hc := hAt0 wr hbw.out
        generalize l0.getD k ⟨#[]⟩ = key at hAt0 hgo hc hk0z
        generalize l1.getD k ⟨#[]⟩ = val at hAt1 hgo hk1z
        have hs := hsz.out
        have hks := Aside0.mk (lay1_small key)
        have hvs := Aside0.mk (val_small val)
        have hms := Aside0.mk (mk_ms l0.length k hlt)
        have hsh := Aside0.mk (short_k (k := 12) (by decide) key (by omega))
        have hlz := lay_size 1 key
        have hvl : table_Value.f val = some (takenR val (tvalR val)) := by unfold table_Value.f; rw [if_pos (by omega)]
        generalize takenR val (tvalR val) = tv at hvl hgo hvs
        obtain ⟨v1, v2, v3⟩ := tv
        generalize layR 1 key = lk at hsh hlz hgo hks
        obtain ⟨k1, k2⟩ := lk
        simp only at hgo hlz hks hvs
        have HVL := Aside0.mk hvl
        have hcat : k1.size + val.size ≤ 9223372036854775807 := by omega
        have HLT := Aside0.mk hlt
        have HS := Aside0.mk hs
        clear hvl hd0 hd1 HR0 HR1 hs hlz hk0z hk1z
        by_cases e1 : k2 = 0
        · subst e1
          rw [if_pos rfl] at hgo
          by_cases e2 : v3 = 0
          · subst e2
            rw [if_pos rfl] at hgo
            by_cases e3 : v2.size = 0
            · rw [if_pos e3] at hgo
              have hv2 : v2 = ⟨#[]⟩ := ba_empty e3
              subst hv2
              have hb1' := hks.out rfl
              have hb2' := hvs.out rfl rfl
              have hs := HS.out
              have hnx : Aside0 ((acc ++ (k1 ++ val)).size ≤ (k + 1) * 4294967600) := ⟨by rw [size_append, size_append, Nat.add_mul]; omega⟩
              have hwl : Aside0 (acc.size + (k1 ++ val).size ≤ 140737488355328) := ⟨by rw [size_append]; omega⟩
              clear hb1' hb2' hs
              go_wp2_with (first | (go_at_call 27; (refine (text_Short.calls 12 key k1 0 _ (HG.out.below hbw.out) hsh.out).mono ?_); rintro e w1 ⟨rfl, hb1⟩; have hbw1 := hbw.out.trans (hb1.mono hbw.out.size); have hx1 := hAt1 _ hbw1) | (go_at_call 15; (refine (table_Value.calls val v1 ⟨#[]⟩ 0 _ (HG.out.below hbw1) HVL.out).mono ?_); rintro e w2 ⟨rfl, hb2⟩; have hbw2 := hbw1.trans (hb2.mono hbw1.size); have hx2 := hAt1 _ hbw2) | (go_at_call 28; (refine (((hB.below hb1).below hb2).write (x := k1 ++ val) hwl.out hbw2.size).mono ?_); rintro e w3 ⟨rfl, hB3, hb3⟩))
              have hw1 : wrap64 ((k : Int) + 1) = (k : Int) + 1 := wrap64_of (by omega) (by omega)
              go_roundw
              case measure => exact hms.out
              case rel => exact ⟨k + 1, acc ++ (k1 ++ val), by go_num, HLT, hgo, hnx, hB3, ⟨hbw2.trans hb3⟩⟩
            · rw [if_neg e3] at hgo
              have hne : (!v2.toList.isEmpty) = true := not_empty e3
              go_wp2_with (first | (go_at_call 27; (refine (text_Short.calls 12 key k1 0 _ (HG.out.below hbw.out) hsh.out).mono ?_); rintro e w1 ⟨rfl, hb1⟩; have hbw1 := hbw.out.trans (hb1.mono hbw.out.size); have hx1 := hAt1 _ hbw1) | (go_at_call 15; (refine (table_Value.calls val v1 v2 0 _ (HG.out.below hbw1) HVL.out).mono ?_); rintro e w2 ⟨rfl, hb2⟩; have hbw2 := hbw1.trans (hb2.mono hbw1.size); have hx2 := hAt1 _ hbw2))
              go_ret2
              have hR := H.out
              rw [← hgo.out] at hR
              simp only at hR
              rw [if_neg (show ¬ (3 : Int) = 0 by decide)] at hR
              obtain ⟨rfl, rfl⟩ := Prod.mk.inj hR
              exact ⟨rfl, hbw2⟩
          · rw [if_neg e2] at hgo
            have e2' : (v3 != 0) = true := by simpa using e2
            go_wp2_with (first | (go_at_call 27; (refine (text_Short.calls 12 key k1 0 _ (HG.out.below hbw.out) hsh.out).mono ?_); rintro e w1 ⟨rfl, hb1⟩; have hbw1 := hbw.out.trans (hb1.mono hbw.out.size); have hx1 := hAt1 _ hbw1) | (go_at_call 15; (refine (table_Value.calls val v1 v2 v3 _ (HG.out.below hbw1) HVL.out).mono ?_); rintro e w2 ⟨rfl, hb2⟩; have hbw2 := hbw1.trans (hb2.mono hbw1.size); have hx2 := hAt1 _ hbw2))
            go_ret2
            have hR := H.out
            rw [← hgo.out] at hR
            simp only at hR
            rw [if_neg e2] at hR
            obtain ⟨rfl, rfl⟩ := Prod.mk.inj hR
            exact ⟨rfl, hbw2⟩
        · have e1' : (k2 != 0) = true := by simpa using e1
          rw [if_neg e1] at hgo
          go_wp2_with (first | (go_at_call 27; (refine (text_Short.calls 12 key k1 k2 _ (HG.out.below hbw.out) hsh.out).mono ?_); rintro e w1 ⟨rfl, hb1⟩; have hbw1 := hbw.out.trans (hb1.mono hbw.out.size); have hx1 := hAt1 _ hbw1))
          go_ret2
          have hR := H.out
          rw [← hgo.out] at hR
          simp only at hR
          rw [if_neg e1] at hR
          obtain ⟨rfl, rfl⟩ := Prod.mk.inj hR
          exact ⟨rfl, hbw1⟩
      · obtain rfl : k = l0.length := by have := hk.out; omega
        have hlt' : decide ((l0.length : Int) < (l0.length : Int)) = false := decide_eq_false (by omega)
        rw [List.drop_length] at hgo
        have hR := H.out
        rw [← hgo.out] at hR
        simp only [mkGo] at hR
        rw [if_pos trivial] at hR
        unfold closeR at hR
        have hs := hsz.out
        have hln := Aside0.mk (long_k (k := 12) (by decide) acc (by omega))
        have hlz := lay_size 4 acc
        generalize layR 4 acc = t at hR hln hlz
        obtain ⟨t1, t2⟩ := t
        simp only at hR hlz
        have hwh := Aside0.mk (whole_f t1 (by omega))
        generalize wholeR t1 = q at hR hwh
        have HR := Aside0.mk hR
        clear hR HR0 HR1 hgo H
        by_cases e1 : t2 = 0
        · subst e1
          have hR := HR.out
          rw [if_pos rfl] at hR
          by_cases e2 : q = 0
          · subst e2
            rw [if_pos rfl] at hR
            obtain ⟨rfl, rfl⟩ := Prod.mk.inj hR
            clear hR HR
            go_wp2_with (first | (go_at_call 30; refine (hB.string hbw.out.size).mono ?_; rintro e w1 ⟨rfl, hb1⟩; have hbw1 := hbw.out.trans hb1) | (go_at_call 29; refine (text_Long.calls 12 acc t1 0 _ (HG.out.below hbw1) hln.out).mono ?_; rintro e w2 ⟨rfl, hb2⟩; have hbw2 := hbw1.trans (hb2.mono hbw1.size)) | (go_at_call 31; refine (table_whole.calls t1 0 _ (HG.out.below hbw2) hwh.out).mono ?_; rintro e w3 ⟨rfl, hb3⟩; have hbw3 := hbw2.trans (hb3.mono hbw2.size)))
            go_ret2
            exact ⟨rfl, hbw3⟩
          · rw [if_neg e2] at hR
            obtain ⟨rfl, rfl⟩ := Prod.mk.inj hR
            clear hR HR
            have e2' : (q != 0) = true := by simpa using e2
            go_wp2_with (first | (go_at_call 30; refine (hB.string hbw.out.size).mono ?_; rintro e w1 ⟨rfl, hb1⟩; have hbw1 := hbw.out.trans hb1) | (go_at_call 29; refine (text_Long.calls 12 acc t1 0 _ (HG.out.below hbw1) hln.out).mono ?_; rintro e w2 ⟨rfl, hb2⟩; have hbw2 := hbw1.trans (hb2.mono hbw1.size)) | (go_at_call 31; refine (table_whole.calls t1 q _ (HG.out.below hbw2) hwh.out).mono ?_; rintro e w3 ⟨rfl, hb3⟩; have hbw3 := hbw2.trans (hb3.mono hbw2.size)))
            go_ret2
            exact ⟨rfl, hbw3⟩
        · have hR := HR.out
          rw [if_neg e1] at hR
          obtain ⟨rfl, rfl⟩ := Prod.mk.inj hR
          clear hR HR
          have e1' : (t2 != 0) = true := by simpa using e1
          go_wp2_with (first | (go_at_call 30; refine (hB.string hbw.out.size).mono ?_; rintro e w1 ⟨rfl, hb1⟩; have hbw1 := hbw.out.trans hb1) | (go_at_call 29; refine (text_Long.calls 12 acc t1 t2 _ (HG.out.below hbw1) hln.out).mono ?_; rintro e w2 ⟨rfl, hb2⟩; have hbw2 := hbw1.trans (hb2.mono hbw1.size)))
          go_ret2
          exact ⟨rfl, hbw2⟩
  · rw [if_neg e] at h
    obtain ⟨rfl, rfl⟩ := Prod.mk.inj h
    have en : ((l0.length : Int) != (l1.length : Int)) = true := bne_iff_ne.mpr (by omega)
    clear h
    go_enter Tryd.func12, Tryd.ntmps12
    go_wp2
    go_ret2
    exact ⟨rfl, Below.refl _ _⟩
end Go.Proofs.YthdkmohelampbaaDoor.F
namespace Go.Proofs.YthdkmohelampbaaDoor.F
open Go.RowKit Go.Proofs.YthdkmohelampbaaDoorW.PrintWords Go.Proofs.YthdkmohelampbaaDoorW.PrintLast Go.Proofs.YthdkmohelampbaaDoorW.PrintMore
attribute [local go_sem] max2_int min2_int max_two min_two max_three min_three max_four min_four
set_option linter.unusedVariables false
set_option linter.unusedSimpArgs false

/-! ### interchangelaw03_shown: function 10 -/
def interchangelaw03_shown.f  : Option (Bool) := (table_Make.f (([(⟨#[97]⟩ : ByteArray)] : List ByteArray)) (([(⟨#[116, 1]⟩ : ByteArray)] : List ByteArray))).bind fun bt126 => (if bt126.2 = 0 then (some (bt126.1.toList == ([0, 0, 0, 4, 1, 97, 116, 1] : List UInt8))) else (some false))
set_option maxHeartbeats 8000000 in
set_option maxRecDepth 100000 in
theorem interchangelaw03_shown.calls  (r : Bool) (w : World) (hg : Laid w) (h : interchangelaw03_shown.f  = some r) :
    Calls Tryd.prog 10 #[] w fun e w' => e = .returned (.bool r) ∧ Below w.heap.size w w' := by
  have HG := Aside0.mk hg
  clear hg
  have HB := Aside0.mk (Below.refl w.heap.size w)
  have H : ((table_Make.f (([(⟨#[97]⟩ : ByteArray)] : List ByteArray)) (([(⟨#[116, 1]⟩ : ByteArray)] : List ByteArray))).bind fun bt126 => (if bt126.2 = 0 then (some (bt126.1.toList == ([0, 0, 0, 4, 1, 97, 116, 1] : List UInt8))) else (some false))) = some r := h
  clear h
  obtain ⟨y120, hy120⟩ : ∃ y_ : List ByteArray, y_ = (([(⟨#[97]⟩ : ByteArray)] : List ByteArray)) := ⟨_, rfl⟩
  replace H : ((table_Make.f y120 (([(⟨#[116, 1]⟩ : ByteArray)] : List ByteArray))).bind fun bt126 => (if bt126.2 = 0 then (some (bt126.1.toList == ([0, 0, 0, 4, 1, 97, 116, 1] : List UInt8))) else (some false))) = some r := by first | (rw [hy120]; with_reducible exact H) | (have H2_ := (Option.bind_some _ _).symm.trans H; rw [hy120]; with_reducible exact H2_) | (have H2_ := (Option.bind_some _ _).symm.trans H; with_reducible exact H2_) | with_reducible exact H | (rw [hy120]; exact H) | exact H
  have Ny120 := Aside0.mk hy120
  clear hy120
  obtain ⟨y123, hy123⟩ : ∃ y_ : List ByteArray, y_ = (([(⟨#[116, 1]⟩ : ByteArray)] : List ByteArray)) := ⟨_, rfl⟩
  replace H : ((table_Make.f y120 y123).bind fun bt126 => (if bt126.2 = 0 then (some (bt126.1.toList == ([0, 0, 0, 4, 1, 97, 116, 1] : List UInt8))) else (some false))) = some r := by first | (rw [hy123]; with_reducible exact H) | (have H2_ := (Option.bind_some _ _).symm.trans H; rw [hy123]; with_reducible exact H2_) | (have H2_ := (Option.bind_some _ _).symm.trans H; with_reducible exact H2_) | with_reducible exact H | (rw [hy123]; exact H) | exact H
  have Ny123 := Aside0.mk hy123
  clear hy123
  replace H := Option.bind_eq_some_iff.mp H
  obtain ⟨⟨t126, t127⟩, A10, H⟩ := H
  replace H : (if t127 = 0 then (some (t126.toList == ([0, 0, 0, 4, 1, 97, 116, 1] : List UInt8))) else (some false)) = some r := H
  have A1 := Aside0.mk A10
  clear A10
  by_cases c2 : t127 = 0
  · rw [if_pos c2] at H
    have c2b0 : (t127 == 0) = true := beq_iff_eq.mpr c2
    have c2b1 : (t127 != 0) = false := bne_eq_false_iff_eq.mpr c2
    clear c2
    obtain rfl := Option.some.inj H
    go_enter Tryd.func10, Tryd.ntmps10
    go_wp2_with (first | ((with_reducible refine gate_dst (N := 4) rfl ?_); refine Kd.R_lit Kd.string _ 9 ?hg (N := 4) ?hd (xs := ([(⟨#[97]⟩ : ByteArray)] : List ByteArray)) (inner := [.string (⟨#[97]⟩ : ByteArray)]) (ok := fun _ => True) (okp := fun _ => True) ?hr ?hp (fun _ hk => hk) trivial (Below.refl _ _) (Nat.le_refl _) (by simp) ?_; (case hd => rfl); (case hg => rfl); (case hr => first | (go_simp; done) | (go_simp; rfl)); (case hp => exact (Reps.one (show Kd.M Kd.string _ _ _ (⟨#[97]⟩ : ByteArray) [.string (⟨#[97]⟩ : ByteArray)] from rfl) (Reps.none _ _))); intro v121 w3 ho4 hb hg_ hnew_; clear hg_ hnew_; (first | rw [← Ny120.out] at ho4 | (simp only [Int.reduceToNat] at ho4; rw [← Ny120.out] at ho4)); have n0_ := Aside0.mk (Kd.R_lower ho4 (below_size (by repeat (first | (with_reducible first | exact HB.out | apply below_alloc | apply pw_below_drewN | apply below_drew1) | exact HB.out)))); have n1_ := Aside0.mk (below_step (by repeat (first | (with_reducible first | exact HB.out | apply below_alloc | apply pw_below_drewN | apply below_drew1) | exact HB.out)) hb); clear HB; have HO122 := n0_; have HB := n1_; clear n0_ n1_; clear hb ho4) | ((with_reducible refine gate_dst (N := 5) rfl ?_); refine Kd.R_lit Kd.string _ 9 ?hg (N := 5) ?hd (xs := ([(⟨#[116, 1]⟩ : ByteArray)] : List ByteArray)) (inner := [.string (⟨#[116, 1]⟩ : ByteArray)]) (ok := fun _ => True) (okp := fun _ => True) ?hr ?hp (fun _ hk => hk) trivial (Below.refl _ _) (Nat.le_refl _) (by simp) ?_; (case hd => rfl); (case hg => rfl); (case hr => first | (go_simp; done) | (go_simp; rfl)); (case hp => exact (Reps.one (show Kd.M Kd.string _ _ _ (⟨#[116, 1]⟩ : ByteArray) [.string (⟨#[116, 1]⟩ : ByteArray)] from rfl) (Reps.none _ _))); intro v124 w5 ho6 hb hg_ hnew_; clear hg_ hnew_; (first | rw [← Ny123.out] at ho6 | (simp only [Int.reduceToNat] at ho6; rw [← Ny123.out] at ho6)); have n0_ := Aside0.mk (Kd.R_elder' (by (with_reducible repeat (first | apply Kd.R_alloc | apply Kd.R_drewN | apply Kd.R_drew)); exact HO122.out) (Kd.R_base ho6) hb); have n1_ := Aside0.mk (Kd.R_lower (Kd.R_new' ho6 (Kd.R_lt (by (with_reducible repeat (first | apply Kd.R_alloc | apply Kd.R_drewN | apply Kd.R_drew)); exact HO122.out))) (below_size (by repeat (first | (with_reducible first | exact HB.out | apply below_alloc | apply pw_below_drewN | apply below_drew1) | exact HB.out)))); have n2_ := Aside0.mk (below_step (by repeat (first | (with_reducible first | exact HB.out | apply below_alloc | apply pw_below_drewN | apply below_drew1) | exact HB.out)) hb); clear HO122; clear HB; have HO122 := n0_; have HO125 := n1_; have HB := n2_; clear n0_ n1_ n2_; clear hb ho6; obtain ⟨Ao7, co7, eo7⟩ := Kd.R_slice HO122.out; subst eo7; obtain ⟨Ao8, co8, eo8⟩ := Kd.R_slice HO125.out; subst eo8) | ((with_reducible refine gate_callee (f := 12) rfl ?_); refine goesL_ (some 6) rfl rfl Tryd.func12 (by kernel_rfl) rfl #[.slice Ao7 y120.length co7, .slice Ao8 y123.length co8] rfl (by (try simp only [List.map_toArray, List.map_cons, List.map_nil]); first | done | rfl | (simp only [List.length_drop, List.length_take]; rfl)) ?_; (with_reducible refine (table_Make.calls _ _ y120 _ _ y123 t126 t127 _ ?lg ?side1 ?side2 ?side3 ?side4 A1.out).mono ?_); (case lg => exact (HG.out.below (by repeat (first | (with_reducible first | exact HB.out | apply below_alloc | apply pw_below_drewN | apply below_drew1) | exact HB.out)))); (case side1 => repeat (first | exact (Kd.R_reads' HO122.out).2.2 | (with_reducible refine Kd.C_alloc ?_ _) | (with_reducible refine Kd.C_drewN ?_ _) | (with_reducible refine Kd.C_drew ?_))); (case side2 => exact (Kd.R_reads' HO122.out).2.1); (case side3 => repeat (first | exact (Kd.R_reads' HO125.out).2.2 | (with_reducible refine Kd.C_alloc ?_ _) | (with_reducible refine Kd.C_drewN ?_ _) | (with_reducible refine Kd.C_drew ?_))); (case side4 => exact (Kd.R_reads' HO125.out).2.1); rintro e w9 ⟨rfl, hb⟩; refine ⟨_, rfl, ?_⟩; have n0_ := Aside0.mk (Kd.R_below (by (with_reducible repeat (first | apply Kd.R_alloc | apply Kd.R_drewN | apply Kd.R_drew)); exact HO122.out) hb); have n1_ := Aside0.mk (Kd.R_below (by (with_reducible repeat (first | apply Kd.R_alloc | apply Kd.R_drewN | apply Kd.R_drew)); exact HO125.out) hb); have n2_ := Aside0.mk (below_step (by repeat (first | (with_reducible first | exact HB.out | apply below_alloc | apply pw_below_drewN | apply below_drew1) | exact HB.out)) hb); clear HO122; clear HO125; clear HB; have HO122 := n0_; have HO125 := n1_; have HB := n2_; clear n0_ n1_ n2_; (try clear hb); (try clear hb2); (try clear hk); (try clear hi)))
    go_ret
    exact ⟨by first | rfl | (simp [errW_none, errW_some] <;> rfl) | (simp [*, errW_none, errW_some] <;> rfl), by repeat (first | (with_reducible first | exact HB.out | apply below_alloc | apply pw_below_drewN | apply below_drew1) | exact HB.out)⟩
  · rw [if_neg c2] at H
    have c2b0 : (t127 == 0) = false := beq_eq_false_iff_ne.mpr c2
    have c2b1 : (t127 != 0) = true := bne_iff_ne.mpr c2
    obtain rfl := Option.some.inj H
    go_enter Tryd.func10, Tryd.ntmps10
    go_wp2_with (first | ((with_reducible refine gate_dst (N := 4) rfl ?_); refine Kd.R_lit Kd.string _ 9 ?hg (N := 4) ?hd (xs := ([(⟨#[97]⟩ : ByteArray)] : List ByteArray)) (inner := [.string (⟨#[97]⟩ : ByteArray)]) (ok := fun _ => True) (okp := fun _ => True) ?hr ?hp (fun _ hk => hk) trivial (Below.refl _ _) (Nat.le_refl _) (by simp) ?_; (case hd => rfl); (case hg => rfl); (case hr => first | (go_simp; done) | (go_simp; rfl)); (case hp => exact (Reps.one (show Kd.M Kd.string _ _ _ (⟨#[97]⟩ : ByteArray) [.string (⟨#[97]⟩ : ByteArray)] from rfl) (Reps.none _ _))); intro v121 w10 ho11 hb hg_ hnew_; clear hg_ hnew_; (first | rw [← Ny120.out] at ho11 | (simp only [Int.reduceToNat] at ho11; rw [← Ny120.out] at ho11)); have n0_ := Aside0.mk (Kd.R_lower ho11 (below_size (by repeat (first | (with_reducible first | exact HB.out | apply below_alloc | apply pw_below_drewN | apply below_drew1) | exact HB.out)))); have n1_ := Aside0.mk (below_step (by repeat (first | (with_reducible first | exact HB.out | apply below_alloc | apply pw_below_drewN | apply below_drew1) | exact HB.out)) hb); clear HB; have HO122 := n0_; have HB := n1_; clear n0_ n1_; clear hb ho11) | ((with_reducible refine gate_dst (N := 5) rfl ?_); refine Kd.R_lit Kd.string _ 9 ?hg (N := 5) ?hd (xs := ([(⟨#[116, 1]⟩ : ByteArray)] : List ByteArray)) (inner := [.string (⟨#[116, 1]⟩ : ByteArray)]) (ok := fun _ => True) (okp := fun _ => True) ?hr ?hp (fun _ hk => hk) trivial (Below.refl _ _) (Nat.le_refl _) (by simp) ?_; (case hd => rfl); (case hg => rfl); (case hr => first | (go_simp; done) | (go_simp; rfl)); (case hp => exact (Reps.one (show Kd.M Kd.string _ _ _ (⟨#[116, 1]⟩ : ByteArray) [.string (⟨#[116, 1]⟩ : ByteArray)] from rfl) (Reps.none _ _))); intro v124 w12 ho13 hb hg_ hnew_; clear hg_ hnew_; (first | rw [← Ny123.out] at ho13 | (simp only [Int.reduceToNat] at ho13; rw [← Ny123.out] at ho13)); have n0_ := Aside0.mk (Kd.R_elder' (by (with_reducible repeat (first | apply Kd.R_alloc | apply Kd.R_drewN | apply Kd.R_drew)); exact HO122.out) (Kd.R_base ho13) hb); have n1_ := Aside0.mk (Kd.R_lower (Kd.R_new' ho13 (Kd.R_lt (by (with_reducible repeat (first | apply Kd.R_alloc | apply Kd.R_drewN | apply Kd.R_drew)); exact HO122.out))) (below_size (by repeat (first | (with_reducible first | exact HB.out | apply below_alloc | apply pw_below_drewN | apply below_drew1) | exact HB.out)))); have n2_ := Aside0.mk (below_step (by repeat (first | (with_reducible first | exact HB.out | apply below_alloc | apply pw_below_drewN | apply below_drew1) | exact HB.out)) hb); clear HO122; clear HB; have HO122 := n0_; have HO125 := n1_; have HB := n2_; clear n0_ n1_ n2_; clear hb ho13; obtain ⟨Ao14, co14, eo14⟩ := Kd.R_slice HO122.out; subst eo14; obtain ⟨Ao15, co15, eo15⟩ := Kd.R_slice HO125.out; subst eo15) | ((with_reducible refine gate_callee (f := 12) rfl ?_); refine goesL_ (some 6) rfl rfl Tryd.func12 (by kernel_rfl) rfl #[.slice Ao14 y120.length co14, .slice Ao15 y123.length co15] rfl (by (try simp only [List.map_toArray, List.map_cons, List.map_nil]); first | done | rfl | (simp only [List.length_drop, List.length_take]; rfl)) ?_; (with_reducible refine (table_Make.calls _ _ y120 _ _ y123 t126 t127 _ ?lg ?side1 ?side2 ?side3 ?side4 A1.out).mono ?_); (case lg => exact (HG.out.below (by repeat (first | (with_reducible first | exact HB.out | apply below_alloc | apply pw_below_drewN | apply below_drew1) | exact HB.out)))); (case side1 => repeat (first | exact (Kd.R_reads' HO122.out).2.2 | (with_reducible refine Kd.C_alloc ?_ _) | (with_reducible refine Kd.C_drewN ?_ _) | (with_reducible refine Kd.C_drew ?_))); (case side2 => exact (Kd.R_reads' HO122.out).2.1); (case side3 => repeat (first | exact (Kd.R_reads' HO125.out).2.2 | (with_reducible refine Kd.C_alloc ?_ _) | (with_reducible refine Kd.C_drewN ?_ _) | (with_reducible refine Kd.C_drew ?_))); (case side4 => exact (Kd.R_reads' HO125.out).2.1); rintro e w16 ⟨rfl, hb⟩; refine ⟨_, rfl, ?_⟩; have n0_ := Aside0.mk (Kd.R_below (by (with_reducible repeat (first | apply Kd.R_alloc | apply Kd.R_drewN | apply Kd.R_drew)); exact HO122.out) hb); have n1_ := Aside0.mk (Kd.R_below (by (with_reducible repeat (first | apply Kd.R_alloc | apply Kd.R_drewN | apply Kd.R_drew)); exact HO125.out) hb); have n2_ := Aside0.mk (below_step (by repeat (first | (with_reducible first | exact HB.out | apply below_alloc | apply pw_below_drewN | apply below_drew1) | exact HB.out)) hb); clear HO122; clear HO125; clear HB; have HO122 := n0_; have HO125 := n1_; have HB := n2_; clear n0_ n1_ n2_; (try clear hb); (try clear hb2); (try clear hk); (try clear hi)))
    go_ret
    exact ⟨by first | rfl | (simp [errW_none, errW_some] <;> rfl) | (simp [*, errW_none, errW_some] <;> rfl), by repeat (first | (with_reducible first | exact HB.out | apply below_alloc | apply pw_below_drewN | apply below_drew1) | exact HB.out)⟩


end Go.Proofs.YthdkmohelampbaaDoor.F
namespace Go.Proofs.YthdkmohelampbaaDoor.F
open Go.RowKit Go.Proofs.YthdkmohelampbaaDoorW.PrintWords Go.Proofs.YthdkmohelampbaaDoorW.PrintLast Go.Proofs.YthdkmohelampbaaDoorW.PrintMore
attribute [local go_sem] max2_int min2_int max_two min_two max_three min_three max_four min_four
set_option linter.unusedVariables false
set_option linter.unusedSimpArgs false

/-! ### interchangeref02_Strings: function 18 -/
def interchangeref02_Strings.l0 : Nat → List ByteArray → List ByteArray → Int → Option (Bool)
  | 0, _, _, _ => none
  | k + 1, x0, x1, x5 => if x5 < (x0.length : Int) then (if 0 ≤ x5 then (if x5 < (x1.length : Int) then (if (rdOf ByteArray.empty x0 x5).toList = (rdOf ByteArray.empty x1 x5).toList then (interchangeref02_Strings.l0 k x0 x1 (wrap64 (x5 + 1))) else (some false)) else (none)) else (none)) else (some true)
def interchangeref02_Strings.f (k : Nat) (l0 : List ByteArray) (l1 : List ByteArray) : Option (Bool) := if (l0.length : Int) = (l1.length : Int) then (interchangeref02_Strings.l0 k l0 l1 0) else (some false)
theorem interchangeref02_Strings.mono_l : ∀ k, (∀ y0 y1 y2, LeO (interchangeref02_Strings.l0 k y0 y1 y2) (interchangeref02_Strings.l0 (k + 1) y0 y1 y2))
  | 0 => fun _ _ _ r h => by simp [interchangeref02_Strings.l0] at h
  | k + 1 => by
    have ih0 := interchangeref02_Strings.mono_l k
    · intro y0 y1 y2
      unfold interchangeref02_Strings.l0
      repeat' first
      | (with_reducible exact ih0 _ _ _)
      | (with_reducible exact LeO.refl _)
      | (with_reducible exact LeO.none _)
      | (with_reducible refine LeO.ite ?_ ?_)
      | (with_reducible refine LeO.bind ?_ (fun _ => ?_))
      | exact ih0 _ _ _
      | exact LeO.none _
      | refine LeO.ite ?_ ?_
      | refine LeO.bind ?_ (fun _ => ?_)
theorem interchangeref02_Strings.mono : ∀ a0 a1 k, LeO (interchangeref02_Strings.f k a0 a1) (interchangeref02_Strings.f (k + 1) a0 a1) := by
  intro a0 a1 k
  have ih0 := interchangeref02_Strings.mono_l k
  unfold interchangeref02_Strings.f
  repeat' first
      | (with_reducible exact ih0 _ _ _)
      | (with_reducible exact LeO.refl _)
      | (with_reducible exact LeO.none _)
      | (with_reducible refine LeO.ite ?_ ?_)
      | (with_reducible refine LeO.bind ?_ (fun _ => ?_))
      | exact ih0 _ _ _
      | exact LeO.none _
      | refine LeO.ite ?_ ?_
      | refine LeO.bind ?_ (fun _ => ?_)
set_option maxHeartbeats 8000000 in
set_option maxRecDepth 100000 in
theorem interchangeref02_Strings.calls (k : Nat) (A0 : Option Addr) (c0 : Nat) (l0 : List ByteArray) (A1 : Option Addr) (c1 : Nat) (l1 : List ByteArray) (r : Bool) (w : World) (hr0 : Kd.C Kd.string w A0 l0.length l0) (hc0 : l0.length ≤ c0) (hr1 : Kd.C Kd.string w A1 l1.length l1) (hc1 : l1.length ≤ c1) (h : interchangeref02_Strings.f k l0 l1 = some r) :
    Calls Tryd.prog 18 #[.slice A0 l0.length c0, .slice A1 l1.length c1] w fun e w' => e = .returned (.bool r) ∧ Drawn0 w w' := by
  have HR0 := Aside0.mk hr0
  have HC0 := Aside0.mk hc0
  clear hr0 hc0
  have HR1 := Aside0.mk hr1
  have HC1 := Aside0.mk hc1
  clear hr1 hc1
  have H : (if (l0.length : Int) = (l1.length : Int) then (interchangeref02_Strings.l0 k l0 l1 0) else (some false)) = some r := h
  clear h
  by_cases c3 : (l0.length : Int) = (l1.length : Int)
  · rw [if_pos c3] at H
    have c3b0 : ((l0.length : Int) == (l1.length : Int)) = true := beq_iff_eq.mpr c3
    have c3b1 : ((l0.length : Int) != (l1.length : Int)) = false := bne_eq_false_iff_eq.mpr c3
    have c3b2 : (l0.length == l1.length) = true := by first | simpa using c3 | (simp at c3 ⊢; omega)
    clear c3
    have H' := Aside0.mk H
    clear H
    go_enter Tryd.func18, Tryd.ntmps18
    go_wp2
    repeat (go_quiet (fail); try go_wp2)
    go_loopg [5] k (fun kq v5 w' => ∃ (x5_1 : Int), v5 = .int .i64 x5_1 ∧ Aside0 (interchangeref02_Strings.l0 kq l0 l1 x5_1 = some r) ∧ Aside0 (kq ≤ k) ∧ Drawn0 w w')
    case atStart => exact ⟨(0), (by first | rfl | (simp; done) | (simp [*]; done)), H', ⟨Nat.le_refl _⟩, by repeat (first | exact Drawn0.refl _ | apply Drawn0.step)⟩
    case round =>
      clear H'
      try clear c1
      try clear p2
      try clear c3
      try clear c3b0
      try clear c3b1
      try clear c3b2
      obtain ⟨x5_1, rfl, HA, HK1, ⟨m1, rfl⟩⟩ := hrel
      cases gk with
      | zero => exact absurd HA.out (by simp [interchangeref02_Strings.l0])
      | succ k1 =>
        have H := HA.out
        clear HA
        simp only [interchangeref02_Strings.l0] at H
        by_cases c4 : x5_1 < (l0.length : Int)
        · rw [if_pos c4] at H
          have c4b0 : decide (x5_1 < (l0.length : Int)) = true := decide_eq_true c4
          clear c4
          by_cases c5 : 0 ≤ x5_1
          · rw [if_pos c5] at H
            have c5b0 : decide (0 ≤ x5_1) = true := decide_eq_true c5
            clear c5
            by_cases c6 : x5_1 < (l1.length : Int)
            · rw [if_pos c6] at H
              have c6b0 : decide (x5_1 < (l1.length : Int)) = true := decide_eq_true c6
              clear c6
              by_cases c7 : (rdOf ByteArray.empty l0 x5_1).toList = (rdOf ByteArray.empty l1 x5_1).toList
              · rw [if_pos c7] at H
                have c7b0 : ((rdOf ByteArray.empty l0 x5_1).toList == (rdOf ByteArray.empty l1 x5_1).toList) = true := beq_iff_eq.mpr c7
                have c7b1 : ((rdOf ByteArray.empty l0 x5_1).toList != (rdOf ByteArray.empty l1 x5_1).toList) = false := bne_eq_false_iff_eq.mpr c7
                clear c7
                have H' := Aside0.mk H
                clear H
                have p204 : 0 ≤ (x5_1 : Int) := of_decide_eq_true (by first | (with_reducible assumption) | assumption)
                have q204 : x5_1 < (l0.length : Int) := of_decide_eq_true (by first | (with_reducible assumption) | assumption)
                obtain ⟨ad204, e204, hx204_0⟩ := Kd.at_string HR0.out x5_1 p204 q204
                cases e204
                replace p204 := eq_true p204
                replace q204 := eq_true q204
                have p205 : 0 ≤ (x5_1 : Int) := of_decide_eq_true (by first | (with_reducible assumption) | assumption)
                have q205 : x5_1 < (l1.length : Int) := of_decide_eq_true (by first | (with_reducible assumption) | assumption)
                obtain ⟨ad205, e205, hx205_0⟩ := Kd.at_string HR1.out x5_1 p205 q205
                cases e205
                replace p205 := eq_true p205
                replace q205 := eq_true q205
                go_wp2
                repeat (go_quiet (fail); try go_wp2)
                go_roundg k1
                case measure => have := HK1.out; omega
                case rel => exact ⟨(wrap64 (x5_1 + 1)), (by first | rfl | (simp; done) | (simp [*]; done)), H', ⟨by have := HK1.out; omega⟩, by repeat (first | exact Drawn0.refl _ | apply Drawn0.step)⟩
              · rw [if_neg c7] at H
                have c7b0 : ((rdOf ByteArray.empty l0 x5_1).toList == (rdOf ByteArray.empty l1 x5_1).toList) = false := beq_eq_false_iff_ne.mpr c7
                have c7b1 : ((rdOf ByteArray.empty l0 x5_1).toList != (rdOf ByteArray.empty l1 x5_1).toList) = true := bne_iff_ne.mpr c7
                obtain rfl := Option.some.inj H
                have p204 : 0 ≤ (x5_1 : Int) := of_decide_eq_true (by first | (with_reducible assumption) | assumption)
                have q204 : x5_1 < (l0.length : Int) := of_decide_eq_true (by first | (with_reducible assumption) | assumption)
                obtain ⟨ad204, e204, hx204_0⟩ := Kd.at_string HR0.out x5_1 p204 q204
                cases e204
                replace p204 := eq_true p204
                replace q204 := eq_true q204
                have p205 : 0 ≤ (x5_1 : Int) := of_decide_eq_true (by first | (with_reducible assumption) | assumption)
                have q205 : x5_1 < (l1.length : Int) := of_decide_eq_true (by first | (with_reducible assumption) | assumption)
                obtain ⟨ad205, e205, hx205_0⟩ := Kd.at_string HR1.out x5_1 p205 q205
                cases e205
                replace p205 := eq_true p205
                replace q205 := eq_true q205
                go_wp2
                repeat (go_quiet (fail); try go_wp2)
                go_ret
                exact ⟨by first | rfl | (simp; done) | (simp [*]; done), by repeat (first | exact Drawn0.refl _ | apply Drawn0.step)⟩
            · rw [if_neg c6] at H
              exact absurd H (by simp)
          · rw [if_neg c5] at H
            exact absurd H (by simp)
        · rw [if_neg c4] at H
          have c4b0 : decide (x5_1 < (l0.length : Int)) = false := decide_eq_false c4
          clear c4
          obtain rfl := Option.some.inj H
          go_wp2
          repeat (go_quiet (fail); try go_wp2)
          go_ret
          exact ⟨by first | rfl | (simp; done) | (simp [*]; done), by repeat (first | exact Drawn0.refl _ | apply Drawn0.step)⟩
  · rw [if_neg c3] at H
    have c3b0 : ((l0.length : Int) == (l1.length : Int)) = false := beq_eq_false_iff_ne.mpr c3
    have c3b1 : ((l0.length : Int) != (l1.length : Int)) = true := bne_iff_ne.mpr c3
    have c3b2 : (l0.length == l1.length) = false := by first | simpa using c3 | (simp at c3 ⊢; omega)
    obtain rfl := Option.some.inj H
    go_enter Tryd.func18, Tryd.ntmps18
    go_wp2
    repeat (go_quiet (fail); try go_wp2)
    go_ret
    exact ⟨by first | rfl | (simp; done) | (simp [*]; done), by repeat (first | exact Drawn0.refl _ | apply Drawn0.step)⟩


end Go.Proofs.YthdkmohelampbaaDoor.F
