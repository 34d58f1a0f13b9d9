/- Texts of this session for the law FrameTakes, one behind the other: base, Hrange, slicesIndexintint, slicesContainsintint, Hwidth, Pcore, Pback, numPut, PnumPut, numTake, PnumTake, Hkind, frameRight, frameBytes, Pframe. -/
import Derived.Test.YtdalcbhnnfabhaaDoorProg
import Derived.Below
import Derived.Deep.Draws
import Derived.Deep.AppendLies
import Derived.Maps.AppendAt
import Derived.OwnWalk
import Derived.Laws.BytesArg
import Derived.Laws.MakeOwn
import Derived.Laws.OwnMore
import Derived.Deep.OwnRows
import Derived.Tactics
import Derived.Lib.ConvBytes
import Derived.Laws.Slices
import Derived.WalkKit
import Derived.KernelRfl
import Derived.RowKit3
import Derived.Deep.LoopGhost
import Derived.Deep.QuietTactic
import Derived.BigQuiet
import Derived.WideLaws
import Derived.Deep.DeepCutAuto
import Derived.Deep.CutBlock
import Derived.Deep.RegionHeld3
import Derived.Laws.Rows
import Derived.Lib.AppendStr
import Derived.ArgAppend
import Derived.Laws.IdiomCopy
import Derived.OrdersHeld
import Derived.Laws.BitsLemmas
import Derived.RowKit
import Derived.Test.YtdalcbhnnfabhaaDoorWMore
import Derived.Test.YtdalcbhnnfabhaaDoorWRepsOne
import Derived.Test.YtdalcbhnnfabhaaDoorWEqStruct
import Derived.Test.YtdalcbhnnfabhaaDoorWTab
import Derived.RangeFuncNested
import Derived.RangeFuncBox
import Derived.RangeFuncCalls
import Derived.OwnWalkIn
import Derived.TacticsInMore
import Derived.LoopIn
import Derived.Lib.Strings
import Derived.Lib.IndexBytes
namespace Go.Proofs.YtdalcbhnnfabhaaDoor.F
open Go.RowKit Go.Proofs.YtdalcbhnnfabhaaDoorW.PrintWords Go.Proofs.YtdalcbhnnfabhaaDoorW.PrintLast Go.Proofs.YtdalcbhnnfabhaaDoorW.PrintMore
attribute [local go_sem] max2_int min2_int max_two min_two max_three min_three max_four min_four
set_option linter.unusedVariables false
set_option linter.unusedSimpArgs false

def errW : Option Int → Value
  | none => .nilIface
  | some c => .iface 0 (.int .i64 c)
theorem errW_none : errW none = .nilIface := rfl
theorem errW_some (c : Int) : errW (some c) = .iface 0 (.int .i64 c) := rfl

theorem info5 : (Tryd.prog.info? 5).map (fun i => (i.zero, i.size, i.bytes)) = some (some (.int .u8 0), 1, 1) := by kernel_rfl
theorem info29 : (Tryd.prog.info? 29).map (fun i => (i.zero, i.size, i.bytes)) = some (some (.agg #[(.int .i64 0), (.int .i64 0), (.string ⟨#[]⟩)]), 3, 32) := by kernel_rfl
/-! #### struct type 29 -/
structure S29 where
  f0 : Int
  f1 : Int
  f2 : ByteArray
def z29 : S29 := ⟨(0 : Int), (0 : Int), (⟨#[]⟩ : ByteArray)⟩
def k29 : Kd S29 := Kd.iso (Kd.pair (Kd.int .i64) (Kd.pair (Kd.int .i64) Kd.string)) (fun x : S29 => (x.f0, x.f1, x.f2))
theorem k29_open {w : World} {x : S29} {cs : List Value} (h : k29.K w x cs) : cs = [.int .i64 x.f0, .int .i64 x.f1, .string x.f2] := by
  obtain ⟨_, _, rfl, rfl, ⟨_, _, rfl, rfl, rfl⟩⟩ := h
  exact rfl
theorem k29_openM {w : World} {base : Nat} {ok : Nat → Prop} {x : S29} {cs : List Value} (h : k29.M w base ok x cs) : cs = [.int .i64 x.f0, .int .i64 x.f1, .string x.f2] := by
  obtain ⟨_, _, rfl, rfl, ⟨_, _, rfl, rfl, rfl⟩⟩ := h
  exact rfl
theorem k29_mk (w : World) (x : S29)  : k29.K w x [.int .i64 x.f0, .int .i64 x.f1, .string x.f2] := ⟨[.int .i64 x.f0], [.int .i64 x.f1, .string x.f2], rfl, rfl, ⟨[.int .i64 x.f1], [.string x.f2], rfl, rfl, rfl⟩⟩
theorem k29_mkM (w : World) (base : Nat) (ok : Nat → Prop) (x : S29)  : k29.M w base ok x [.int .i64 x.f0, .int .i64 x.f1, .string x.f2] := ⟨[.int .i64 x.f0], [.int .i64 x.f1, .string x.f2], rfl, rfl, ⟨[.int .i64 x.f1], [.string x.f2], rfl, rfl, rfl⟩⟩
def rd_T29 (xs : List S29) (i : Int) : S29 := xs.getD i.toNat z29
theorem at_T29 {w : World} {A : Option Addr} {n : Nat} {xs : List S29} (h : Kd.C k29 w A n xs) (i : Int) (h0 : 0 ≤ i) (h1 : i < n) : ∃ ad , A = some ad ∧ w.cell? (ad.add (i.toNat * 3)) = some (.int .i64 (rd_T29 xs i).f0) ∧ w.cell? ⟨(ad.add (i.toNat * 3)).block, (ad.add (i.toNat * 3)).off + 1, none⟩ = some (.int .i64 (rd_T29 xs i).f1) ∧ w.cell? ⟨(ad.add (i.toNat * 3)).block, (ad.add (i.toNat * 3)).off + 2, none⟩ = some (.string (rd_T29 xs i).f2) := by
  obtain ⟨ad, c, e, _, hK, hc0⟩ := Kd.C_get h z29 i h0 h1
  have hc : ∀ j u, c[j]? = some u → w.cell? (ad.add (i.toNat * 3 + j)) = some u := hc0
  obtain rfl := k29_open hK
  exact ⟨ad, e, hc 0 _ rfl, by rw [← add_field _ _ 1 (by omega)]; exact hc 1 _ rfl, by rw [← add_field _ _ 2 (by omega)]; exact hc 2 _ rfl⟩

def rd_L5 (xs : List (List S29)) (i : Int) : (List S29) := xs.getD i.toNat ([] : List S29)
theorem at_L5 {w : World} {A : Option Addr} {n : Nat} {xs : List (List S29)} (h : Kd.C (Kd.slice 29 k29) w A n xs) (i : Int) (h0 : 0 ≤ i) (h1 : i < n) : ∃ ad A0 c0, A = some ad ∧ w.cell? (ad.add i.toNat) = some (.slice A0 (rd_L5 xs i).length c0) ∧ (rd_L5 xs i).length ≤ c0 ∧ k29.C w A0 (rd_L5 xs i).length (rd_L5 xs i) := by
  obtain ⟨ad, c, e, _, hK, hc0⟩ := Kd.C_get h ([] : List S29) i h0 h1
  have hc : ∀ j u, c[j]? = some u → w.cell? (ad.add (i.toNat * 1 + j)) = some u := hc0
  obtain ⟨A0, c0, rfl, l0, g0⟩ := hK
  exact ⟨ad, A0, c0, e, by have hq := hc 0 _ rfl; rwa [Nat.mul_one, Nat.add_zero] at hq, l0, g0⟩

/-- THE TABLES: what the package-level variables hold. -/
structure Laid (w : World) : Prop where
  c0 : w.cell? ⟨1, 0, none⟩ = some (Value.int .i64 1)
  c1 : w.cell? ⟨1, 1, none⟩ = some (Value.int .i64 2)
  c2 : w.cell? ⟨1, 2, none⟩ = some (Value.int .i64 4)
  c3 : w.cell? ⟨1, 3, none⟩ = some (Value.int .i64 8)
  c4 : w.cell? ⟨0, 0, none⟩ = some (Value.bool false)
  c5 : w.cell? ⟨0, 1, none⟩ = some (Value.bool true)
  c6 : w.cell? ⟨0, 2, none⟩ = some (Value.bool true)
  c7 : w.cell? ⟨0, 3, none⟩ = some (Value.bool true)
  c8 : w.cell? ⟨0, 4, none⟩ = some (Value.bool false)
  c9 : w.cell? ⟨0, 5, none⟩ = some (Value.bool false)
  c10 : w.cell? ⟨0, 6, none⟩ = some (Value.bool false)
  c11 : w.cell? ⟨0, 7, none⟩ = some (Value.bool false)
  c12 : w.cell? ⟨0, 8, none⟩ = some (Value.bool true)
theorem Laid.below {w w' : World} (h : Laid w) (hb : Below w.heap.size w w') : Laid w' :=
  ⟨pw_cell_below hb h.c0, pw_cell_below hb h.c1, pw_cell_below hb h.c2, pw_cell_below hb h.c3, pw_cell_below hb h.c4, pw_cell_below hb h.c5, pw_cell_below hb h.c6, pw_cell_below hb h.c7, pw_cell_below hb h.c8, pw_cell_below hb h.c9, pw_cell_below hb h.c10, pw_cell_below hb h.c11, pw_cell_below hb h.c12⟩
theorem Laid.drawn {w w' : World} (h : Laid w) (hb : Drawn0 w w') : Laid w' := h.below hb.below
end Go.Proofs.YtdalcbhnnfabhaaDoor.F
namespace Go.Proofs.YtdalcbhnnfabhaaDoor.F
open Go.RowKit Go.Proofs.YtdalcbhnnfabhaaDoorW.PrintWords Go.Proofs.YtdalcbhnnfabhaaDoorW.PrintLast Go.Proofs.YtdalcbhnnfabhaaDoorW.PrintMore
set_option linter.unusedVariables false
set_option linter.unusedSimpArgs false

/-- How the body of a round may be left. -/
def sharedPost {σ : Type} (B : Nat) (J2 : σ → World → Prop) (Jx : Code → σ → World → Prop) (s : σ) (W : World) : Exit → Act → World → Prop
  | .normal, _, W' => KeepsFrom B W W' ∧ J2 s W'
  | .ret, _, W' => KeepsFrom B W W' ∧ Jx .ret s W'
  | .exit id, _, W' => KeepsFrom B W W' ∧ Jx (.exit id) s W'
  | .goto t, _, W' => KeepsFrom B W W' ∧ Jx (.goto t) s W'
  | .panic _, _, _ => False
  | .outgrown, _, _ => False

section
variable {F : Fence} {n : Nat} {P : Program}
/-- THE STATEMENT. J s: as yield is called with encs s · J1 s a: behind the assignment · J2 s: behind the round · Jx c s: the round has left by c · E: the iterator has come to its end. -/
theorem wpIn_rangeFunc_shared {σ : Type} {g : Operand} {ps : Array Tmp} {assign body : Code} {Q : Exit → Act → World → Prop} {a : Act} {w : World}
    (hro : F.round = none) (h1 : 1 ≤ n) {gf : Nat} {lb : Array Value} (hg : a.eval g = .func (.func gf) #[] lb) (hFg : F.fn gf) (eg : ∀ args w, (callFunc gf args).run P w = .ok (.enter gf args) w)
    (encs : σ → Array Value) (hps : ∀ s, (encs s).size = ps.size)
    (J : σ → World → Prop) (J1 : σ × Act → World → Prop) (J2 : σ → World → Prop) (Jx : Code → σ → World → Prop) (E : Unit → World → Prop)
    (hJ1 : OwnFrom w.heap.size J1) (hJ2 : OwnFrom w.heap.size J2) (hJx : ∀ c, OwnFrom w.heap.size (Jx c)) (hE : OwnFrom w.heap.size E)
    (hseq : ∀ (l : Nat) (B : World → Prop) (X : σ → World → Prop) (o1 o2 : Obj) (W1 : World), (w.alloc o1).alloc o2 = W1 → l = w.heap.size + 1 → (∀ W W', KeepsFrom w.heap.size W W' → B W → B W') → B W1 →
      (∀ s W, J s W → B W → YieldAt F (n - 1 - 1) P l (encs s) W fun e W' => (e = .returned (.bool true) ∧ J2 s W' ∧ B W') ∨ (e = .returned (.bool false) ∧ X s W')) →
      CallsIn F (n - 1) P gf (#[.func (.yield l) #[] #[]] ++ lb) W1 fun e W' => (∃ v, e = .returned v) ∧ ((E () W' ∧ B W') ∨ ∃ s, X s W'))
    (hassign : ∀ (l : Nat) (s : σ) (W : World) (K : Act → World → Prop), w.heap.size + 1 < W.heap.size → J s W → (∀ a' W', KeepsFrom w.heap.size W W' → J1 (s, a') W' → K a' W') →
      assign.wpIn (F.inRound l) (n - 1 - 1) P (Exit.then K (fun _ _ _ => False)) { tmps := (ps.zip (encs s)).foldl (fun t (p, v) => t.setIfInBounds p v) a.tmps, defers := [] } W)
    (hbody : ∀ (l : Nat) (s : σ) (a' : Act) (W : World), w.heap.size + 1 < W.heap.size → J1 (s, a') W → body.wpIn (F.inRound l) (n - 1 - 1) P (sharedPost w.heap.size J2 Jx s W) a' W)
    (hdone : ∀ (D : Nat) (W : World), w.heap.size ≤ D → E () W → W.heap[D]? = some (.deferred (some [])) → Q .normal { a with defers := { target := .collected D, args := #[] } :: a.defers } W)
    (hstop : ∀ (D : Nat) (c : Code) (s : σ) (W : World), w.heap.size ≤ D → Jx c s W → W.heap[D]? = some (.deferred (some [])) → c.wpIn F n P Q { a with defers := { target := .collected D, args := #[] } :: a.defers } W) :
    (Code.rangeFunc g ps assign body).wpIn F n P Q a w := by
  refine wpIn_rangeFunc ?_
  intro fn hfn
  rw [hro]
  obtain ⟨rec, hrec⟩ : ∃ rec : LoopState → Option Code → Loop, rec = fun st pe => { state := st, pending := pe, fn, tmps := a.tmps, params := ps, assign, body, defers := w.heap.size } := ⟨_, rfl⟩
  obtain ⟨W1, hW1⟩ : ∃ W1, (w.alloc (.deferred (some []))).alloc (.loop (rec .ready none)) = W1 := ⟨_, rfl⟩
  have hL1 : W1.heap[w.heap.size + 1]? = some (.loop (rec .ready none)) := by
    rw [← hW1]; have := World.alloc_heap_new (w.alloc (.deferred (some []))) (.loop (rec .ready none)); rwa [World.size_alloc] at this
  have hK1 : W1.heap[w.heap.size]? = some (.deferred (some [])) := by
    rw [← hW1]; exact (Below.heap_alloc _ _ _ (by simp)).trans (World.alloc_heap_new w _)
  refine ⟨w.heap.size + 1, [{ target := .collected w.heap.size, args := #[] }], W1, { target := .fn (.func gf) lb, args := #[.func (.yield (w.heap.size + 1)) #[] #[]] }, W1, gf,
    #[.func (.yield (w.heap.size + 1)) #[] #[]] ++ lb, W1, ?_, ?_, ?_, ?_, fun _ => h1, ?_⟩
  · rw [← hW1, hrec]; exact run_enterLoop_outer _ _ _ _ _
  · simp only [resolve, hg]
    simp [go_sem]
  · intro f' hf'; simp [Target.leads] at hf'; subst hf'; exact hFg
  · simp [invoke, go_sem, eg]
  · refine (hseq (w.heap.size + 1)
      (fun W => W.heap[w.heap.size + 1]? = some (.loop (rec .ready none)) ∧ W.heap[w.heap.size]? = some (.deferred (some [])))
      (fun s W => ∃ c, Jx c s W ∧ W.heap[w.heap.size + 1]? = some (.loop (rec .done (some c))) ∧ W.heap[w.heap.size]? = some (.deferred (some [])))
      _ _ W1 hW1 rfl
      (fun W W' hk hs => ⟨hk.same _ _ (by omega) hs.1 rfl, hk.same _ _ (Nat.le_refl _) hs.2 rfl⟩) ⟨hL1, hK1⟩ ?_).mono ?_
    · -- one round
      rintro s W hi ⟨hl, hk⟩
      have hlt : w.heap.size + 1 < W.heap.size := (Array.getElem?_eq_some_iff.1 hl).1
      have hy := run_yield (P := P) (args := encs s) hl (by rw [hrec]; exact hps s)
      rw [hrec] at hy
      refine ⟨fn, _, assign, body, hy, roundIn_of_wpIn hfn (hassign _ s W _ hlt hi fun a1 Wa hka hi1 => ?_)⟩
      have hla := hka.same _ _ (by omega) hl rfl
      have hda := hka.same _ _ (Nat.le_refl _) hk rfl
      have hlta : w.heap.size + 1 < Wa.heap.size := (Array.getElem?_eq_some_iff.1 hla).1
      refine ⟨_, run_beginRound hla (by rw [hrec]), ?_⟩
      have hl2 : (Wa.putObj (w.heap.size + 1) (.loop { rec .ready none with state := .busy })).heap[w.heap.size + 1]? = some (.loop { rec .ready none with state := .busy }) := World.putObj_heap_same hlta
      have hk2 : (Wa.putObj (w.heap.size + 1) (.loop { rec .ready none with state := .busy })).heap[w.heap.size]? = some (.deferred (some [])) := (World.putObj_heap_other (by omega)).trans hda
      refine wpIn_mono (hbody _ s a1 _ (by rw [World.putObj_size]; exact hlta) (hJ1.putObj (s := (s, a1)) _ hi1 (by omega) hla rfl)) ?_
      have fin : ∀ (jump : Option Code) (W3 : World), KeepsFrom w.heap.size (Wa.putObj (w.heap.size + 1) (.loop { rec .ready none with state := .busy })) W3 →
          (Instr.endRound (w.heap.size + 1) jump).run P W3 = .ok (.bool jump.isNone) (W3.putObj (w.heap.size + 1) (.loop (rec (if jump.isNone then .ready else .done) jump))) ∧
          W3.heap[w.heap.size + 1]? = some (.loop { rec .ready none with state := .busy }) ∧
          (W3.putObj (w.heap.size + 1) (.loop (rec (if jump.isNone then .ready else .done) jump))).heap[w.heap.size + 1]? = some (.loop (rec (if jump.isNone then .ready else .done) jump)) ∧
          (W3.putObj (w.heap.size + 1) (.loop (rec (if jump.isNone then .ready else .done) jump))).heap[w.heap.size]? = some (.deferred (some [])) := fun jump W3 hk3 => by
        have hl3 := hk3.same _ _ (by omega) hl2 rfl
        have := run_endRound (P := P) jump hl3
        rw [hrec] at this ⊢
        exact ⟨this, by rw [hrec] at hl3; exact hl3, World.putObj_heap_same (Array.getElem?_eq_some_iff.1 hl3).1, (World.putObj_heap_other (by omega)).trans (hk3.same _ _ (Nat.le_refl _) hk2 rfl)⟩
      rintro e a3 W3 hp
      cases e with
      | normal =>
        obtain ⟨hk3, hi3⟩ := hp
        obtain ⟨hr, hl3, hl4, hk4⟩ := fin none W3 hk3
        exact ⟨_, _, hr, .inl ⟨rfl, hJ2.putObj _ hi3 (by omega) hl3 rfl, hl4, hk4⟩⟩
      | ret =>
        obtain ⟨hk3, hi3⟩ := hp
        obtain ⟨hr, hl3, hl4, hk4⟩ := fin (some .ret) W3 hk3
        exact ⟨_, _, hr, .inr ⟨rfl, .ret, (hJx _).putObj _ hi3 (by omega) hl3 rfl, hl4, hk4⟩⟩
      | exit id =>
        obtain ⟨hk3, hi3⟩ := hp
        obtain ⟨hr, hl3, hl4, hk4⟩ := fin (some (.exit id)) W3 hk3
        exact ⟨_, _, hr, .inr ⟨rfl, .exit id, (hJx _).putObj _ hi3 (by omega) hl3 rfl, hl4, hk4⟩⟩
      | goto t =>
        obtain ⟨hk3, hi3⟩ := hp
        obtain ⟨hr, hl3, hl4, hk4⟩ := fin (some (.goto t)) W3 hk3
        exact ⟨_, _, hr, .inr ⟨rfl, .goto t, (hJx _).putObj _ hi3 (by omega) hl3 rfl, hl4, hk4⟩⟩
      | panic ch => exact hp.elim
      | outgrown => exact hp.elim
    · -- behind the iterator
      rintro e W2 ⟨⟨v, rfl⟩, (⟨hi, hl, hk⟩ | ⟨s, c, hi, hl, hk⟩)⟩
      · exact ⟨none, _, by have := run_endLoop (P := P) hl (by rw [hrec]; simp); rw [hrec] at this; exact this, hdone _ _ (Nat.le_refl _) (hE.putObj _ hi (by omega) hl rfl) ((World.putObj_heap_other (by omega)).trans hk)⟩
      · exact ⟨some c, _, by have := run_endLoop (P := P) hl (by rw [hrec]; simp); rw [hrec] at this; exact this, hstop _ c s _ (Nat.le_refl _) ((hJx c).putObj _ hi (by omega) hl rfl) ((World.putObj_heap_other (by omega)).trans hk)⟩
end
end Go.Proofs.YtdalcbhnnfabhaaDoor.F
namespace Go.Proofs.YtdalcbhnnfabhaaDoor.F
open Go.RowKit Go.Proofs.YtdalcbhnnfabhaaDoorW.PrintWords Go.Proofs.YtdalcbhnnfabhaaDoorW.PrintLast Go.Proofs.YtdalcbhnnfabhaaDoorW.PrintMore
attribute [local go_sem] max2_int min2_int max_two min_two max_three min_three max_four min_four
set_option linter.unusedVariables false
set_option linter.unusedSimpArgs false

/-! ### slices_Index_int_int: function 36 -/
def slices_Index_int_int.l0 : Nat → List Int → Int → Int → Int → Option (Int)
  | 0, _, _, _, _ => none
  | k + 1, x0, x1, x7, x8 => if x8 < x7 then (if 0 ≤ x8 then (if x8 < (x0.length : Int) then (if x1 = (rd x0 x8) then (some x8) else (slices_Index_int_int.l0 k x0 x1 x7 (wrap64 (x8 + 1)))) else (none)) else (none)) else (some (-1))
def slices_Index_int_int.f (k : Nat) (l0 : List Int) (a1 : Int) : Option (Int) := slices_Index_int_int.l0 k l0 a1 (l0.length : Int) 0
theorem slices_Index_int_int.mono_l : ∀ k, (∀ y0 y1 y2 y3, LeO (slices_Index_int_int.l0 k y0 y1 y2 y3) (slices_Index_int_int.l0 (k + 1) y0 y1 y2 y3))
  | 0 => fun _ _ _ _ r h => by simp [slices_Index_int_int.l0] at h
  | k + 1 => by
    have ih0 := slices_Index_int_int.mono_l k
    · intro y0 y1 y2 y3
      unfold slices_Index_int_int.l0
      repeat' first
      | (with_reducible exact ih0 _ _ _ _)
      | (with_reducible exact LeO.refl _)
      | (with_reducible exact LeO.none _)
      | (with_reducible refine LeO.ite ?_ ?_)
      | (with_reducible refine LeO.bind ?_ (fun _ => ?_))
      | exact ih0 _ _ _ _
      | exact LeO.none _
      | refine LeO.ite ?_ ?_
      | refine LeO.bind ?_ (fun _ => ?_)
theorem slices_Index_int_int.mono : ∀ a0 a1 k, LeO (slices_Index_int_int.f k a0 a1) (slices_Index_int_int.f (k + 1) a0 a1) := by
  intro a0 a1 k
  have ih0 := slices_Index_int_int.mono_l k
  unfold slices_Index_int_int.f
  repeat' first
      | (with_reducible exact ih0 _ _ _ _)
      | (with_reducible exact LeO.refl _)
      | (with_reducible exact LeO.none _)
      | (with_reducible refine LeO.ite ?_ ?_)
      | (with_reducible refine LeO.bind ?_ (fun _ => ?_))
      | exact ih0 _ _ _ _
      | exact LeO.none _
      | refine LeO.ite ?_ ?_
      | refine LeO.bind ?_ (fun _ => ?_)
set_option maxHeartbeats 8000000 in
set_option maxRecDepth 100000 in
theorem slices_Index_int_int.calls (k : Nat) (A0 : Option Addr) (c0 : Nat) (l0 : List Int) (a1 : Int) (r : Int) (w : World) (hr0 : Kd.C (Kd.int .i64) w A0 l0.length l0) (hc0 : l0.length ≤ c0) (h : slices_Index_int_int.f k l0 a1 = some r) :
    Calls Tryd.prog 36 #[.slice A0 l0.length c0, .int .i64 a1] w fun e w' => e = .returned (.int .i64 r) ∧ Drawn0 w w' := by
  have HR0 := Aside0.mk hr0
  have HC0 := Aside0.mk hc0
  clear hr0 hc0
  have H : (slices_Index_int_int.l0 k l0 a1 (l0.length : Int) 0) = some r := h
  clear h
  have H' := Aside0.mk H
  clear H
  go_enter Tryd.func36, Tryd.ntmps36
  go_wp2
  go_loopg [8] k (fun kq v8 w' => ∃ (x8_1 : Int), v8 = .int .i64 x8_1 ∧ Aside0 (slices_Index_int_int.l0 kq l0 a1 (l0.length : Int) x8_1 = some r) ∧ Aside0 (kq ≤ k) ∧ Drawn0 w w')
  case atStart => exact ⟨(0), (by first | rfl | (simp; done) | (simp [*]; done)), H', ⟨Nat.le_refl _⟩, by repeat (first | exact Drawn0.refl _ | apply Drawn0.step)⟩
  case round =>
    clear H'
    try clear p2
    obtain ⟨x8_1, rfl, HA, HK1, ⟨m1, rfl⟩⟩ := hrel
    cases gk with
    | zero => exact absurd HA.out (by simp [slices_Index_int_int.l0])
    | succ k1 =>
      have H := HA.out
      clear HA
      simp only [slices_Index_int_int.l0] at H
      by_cases c3 : x8_1 < (l0.length : Int)
      · rw [if_pos c3] at H
        have c3b0 : decide (x8_1 < (l0.length : Int)) = true := decide_eq_true c3
        clear c3
        by_cases c4 : 0 ≤ x8_1
        · rw [if_pos c4] at H
          have c4b0 : decide (0 ≤ x8_1) = true := decide_eq_true c4
          clear c4
          by_cases c5 : x8_1 < (l0.length : Int)
          · rw [if_pos c5] at H
            have c5b0 : decide (x8_1 < (l0.length : Int)) = true := decide_eq_true c5
            clear c5
            by_cases c6 : a1 = (rd l0 x8_1)
            · rw [if_pos c6] at H
              have c6b0 : (a1 == (rd l0 x8_1)) = true := beq_iff_eq.mpr c6
              have c6b1 : (a1 != (rd l0 x8_1)) = false := bne_eq_false_iff_eq.mpr c6
              clear c6
              obtain rfl := Option.some.inj H
              have p104 : 0 ≤ (x8_1 : Int) := of_decide_eq_true (by first | (with_reducible assumption) | assumption)
              have q104 : x8_1 < (l0.length : Int) := of_decide_eq_true (by first | (with_reducible assumption) | assumption)
              obtain ⟨ad104, e104, hx104_0⟩ := Kd.at_int HR0.out x8_1 p104 q104
              cases e104
              replace p104 := eq_true p104
              replace q104 := eq_true q104
              go_wp2
              go_ret
              exact ⟨by first | rfl | (simp; done) | (simp [*]; done), by repeat (first | exact Drawn0.refl _ | apply Drawn0.step)⟩
            · rw [if_neg c6] at H
              have c6b0 : (a1 == (rd l0 x8_1)) = false := beq_eq_false_iff_ne.mpr c6
              have c6b1 : (a1 != (rd l0 x8_1)) = true := bne_iff_ne.mpr c6
              have H' := Aside0.mk H
              clear H
              have p104 : 0 ≤ (x8_1 : Int) := of_decide_eq_true (by first | (with_reducible assumption) | assumption)
              have q104 : x8_1 < (l0.length : Int) := of_decide_eq_true (by first | (with_reducible assumption) | assumption)
              obtain ⟨ad104, e104, hx104_0⟩ := Kd.at_int HR0.out x8_1 p104 q104
              cases e104
              replace p104 := eq_true p104
              replace q104 := eq_true q104
              go_wp2
              go_roundg k1
              case measure => have := HK1.out; omega
              case rel => exact ⟨(wrap64 (x8_1 + 1)), (by first | rfl | (simp; done) | (simp [*]; done)), H', ⟨by have := HK1.out; omega⟩, by repeat (first | exact Drawn0.refl _ | apply Drawn0.step)⟩
          · rw [if_neg c5] at H
            exact absurd H (by simp)
        · rw [if_neg c4] at H
          exact absurd H (by simp)
      · rw [if_neg c3] at H
        have c3b0 : decide (x8_1 < (l0.length : Int)) = false := decide_eq_false c3
        clear c3
        obtain rfl := Option.some.inj H
        go_wp2
        go_ret
        exact ⟨by first | rfl | (simp; done) | (simp [*]; done), by repeat (first | exact Drawn0.refl _ | apply Drawn0.step)⟩


end Go.Proofs.YtdalcbhnnfabhaaDoor.F
namespace Go.Proofs.YtdalcbhnnfabhaaDoor.F
open Go.RowKit Go.Proofs.YtdalcbhnnfabhaaDoorW.PrintWords Go.Proofs.YtdalcbhnnfabhaaDoorW.PrintLast Go.Proofs.YtdalcbhnnfabhaaDoorW.PrintMore
attribute [local go_sem] max2_int min2_int max_two min_two max_three min_three max_four min_four
set_option linter.unusedVariables false
set_option linter.unusedSimpArgs false

/-! ### slices_Contains_int_int: function 35 -/
def slices_Contains_int_int.f (k : Nat) (l0 : List Int) (a1 : Int) : Option (Bool) := (slices_Index_int_int.f k l0 a1).bind fun t105 => (some (decide (t105 ≥ 0)))
theorem slices_Contains_int_int.mono : ∀ a0 a1 k, LeO (slices_Contains_int_int.f k a0 a1) (slices_Contains_int_int.f (k + 1) a0 a1) := by
  intro a0 a1 k
  unfold slices_Contains_int_int.f
  repeat' first
      | (with_reducible exact slices_Index_int_int.mono _ _ _)
      | (with_reducible exact LeO.refl _)
      | (with_reducible exact LeO.none _)
      | (with_reducible refine LeO.ite ?_ ?_)
      | (with_reducible refine LeO.bind ?_ (fun _ => ?_))
      | exact slices_Index_int_int.mono _ _ _
      | exact LeO.none _
      | refine LeO.ite ?_ ?_
      | refine LeO.bind ?_ (fun _ => ?_)
set_option maxHeartbeats 8000000 in
set_option maxRecDepth 100000 in
theorem slices_Contains_int_int.calls (k : Nat) (A0 : Option Addr) (c0 : Nat) (l0 : List Int) (a1 : Int) (r : Bool) (w : World) (hr0 : Kd.C (Kd.int .i64) w A0 l0.length l0) (hc0 : l0.length ≤ c0) (h : slices_Contains_int_int.f k l0 a1 = some r) :
    Calls Tryd.prog 35 #[.slice A0 l0.length c0, .int .i64 a1] w fun e w' => e = .returned (.bool r) ∧ Drawn0 w w' := by
  have HR0 := Aside0.mk hr0
  have HC0 := Aside0.mk hc0
  clear hr0 hc0
  have H : ((slices_Index_int_int.f k l0 a1).bind fun t105 => (some (decide (t105 ≥ 0)))) = some r := h
  clear h
  replace H := Option.bind_eq_some_iff.mp H
  obtain ⟨t105, A30, H⟩ := H
  replace H : (some (decide (t105 ≥ 0))) = some r := H
  have A3 := Aside0.mk A30
  clear A30
  obtain rfl := Option.some.inj H
  go_enter Tryd.func35, Tryd.ntmps35
  go_wp2_with (first | ((with_reducible refine gate_callee (f := 36) rfl ?_); refine goesL_ (some 7) rfl rfl Tryd.func36 (by kernel_rfl) rfl #[.slice A0 l0.length c0, .int .i64 a1] rfl (by (try simp only [List.map_toArray, List.map_cons, List.map_nil]); first | done | rfl | (simp only [List.length_drop, List.length_take]; rfl)) ?_; (with_reducible refine (slices_Index_int_int.calls k _ _ l0 a1 t105 _ ?side1 ?side2 A3.out).mono ?_); (case side1 => repeat (first | exact HR0.out | (with_reducible refine Kd.C_alloc ?_ _) | (with_reducible refine Kd.C_drewN ?_ _) | (with_reducible refine Kd.C_drew ?_))); (case side2 => exact HC0.out); rintro e w' ⟨rfl, ⟨nd, rfl⟩⟩; refine ⟨_, rfl, ?_⟩))
  go_ret
  exact ⟨by first | rfl | (simp; done) | (simp [*]; done), by repeat (first | exact Drawn0.refl _ | apply Drawn0.step)⟩


end Go.Proofs.YtdalcbhnnfabhaaDoor.F
namespace Go.Proofs.YtdalcbhnnfabhaaDoor.F
open Go.RowKit Go.Proofs.YtdalcbhnnfabhaaDoorW.PrintWords Go.Proofs.YtdalcbhnnfabhaaDoorW.PrintLast Go.Proofs.YtdalcbhnnfabhaaDoorW.PrintMore
set_option linter.unusedVariables false
set_option linter.unusedSimpArgs false

def num_width.f (a0 : Int) : Option Bool := some (decide (a0 = 1) || decide (a0 = 2) || decide (a0 = 4) || decide (a0 = 8))

theorem contains_widths (a0 : Int) : slices_Contains_int_int.f 6 [1, 2, 4, 8] a0 = num_width.f a0 := by
  unfold slices_Contains_int_int.f slices_Index_int_int.f num_width.f
  have w1 : wrap64 1 = 1 := by unfold wrap64; omega
  have w2 : wrap64 2 = 2 := by unfold wrap64; omega
  have w3 : wrap64 3 = 3 := by unfold wrap64; omega
  have w4 : wrap64 4 = 4 := by unfold wrap64; omega
  by_cases h1 : a0 = 1
  · subst h1; simp [slices_Index_int_int.l0, rd]
  by_cases h2 : a0 = 2
  · subst h2; simp [slices_Index_int_int.l0, rd, w1]
  by_cases h4 : a0 = 4
  · subst h4; simp [slices_Index_int_int.l0, rd, w1, w2]
  by_cases h8 : a0 = 8
  · subst h8; simp [slices_Index_int_int.l0, rd, w1, w2, w3]
  simp [slices_Index_int_int.l0, rd, h1, h2, h4, h8, w1, w2, w3, w4]

theorem widths_reads {w : World} (hg : Laid w) : Kd.C (Kd.int .i64) w (some ⟨1, 0, none⟩) 4 [1, 2, 4, 8] := by
  refine Kd.C_of_reads (d := (0 : Int)) (h1 := fun _ => rfl) ⟨rfl, by decide, fun _ => ⟨_, rfl, fun j hj => ?_⟩⟩
  rw [add_plain]
  match j, hj with
  | 0, _ => exact hg.c0
  | 1, _ => exact hg.c1
  | 2, _ => exact hg.c2
  | 3, _ => exact hg.c3

theorem num_width.calls (a0 : Int) (r : Bool) (w : World) (hg : Laid w) (h : num_width.f a0 = some r) :
    Calls Tryd.prog 33 #[.int .i64 a0] w fun e w' => e = .returned (.bool r) ∧ Drawn0 w w' := by
  have hc := Aside0.mk ((contains_widths a0).trans h)
  have hr := Aside0.mk (widths_reads hg)
  clear h hg
  go_enter Tryd.func33, Tryd.ntmps33
  go_wp2_with (go_at_call 35; refine (slices_Contains_int_int.calls 6 (some ⟨1, 0, none⟩) 4 [1, 2, 4, 8] a0 r _ hr.out (by decide) hc.out).mono ?_; rintro e w' ⟨rfl, ⟨nd, rfl⟩⟩)
  go_ret
  exact ⟨rfl, ⟨⟨nd, rfl⟩⟩⟩
end Go.Proofs.YtdalcbhnnfabhaaDoor.F
namespace Go.Proofs.YtdalcbhnnfabhaaDoor.F
open Go.RowKit Go.Proofs.YtdalcbhnnfabhaaDoorW.PrintWords Go.Proofs.YtdalcbhnnfabhaaDoorW.PrintLast Go.Proofs.YtdalcbhnnfabhaaDoorW.PrintMore
set_option linter.unusedVariables false
set_option linter.unusedSimpArgs false

theorem snoc_ind {α : Type} {P : List α → Prop} (h0 : P []) (h1 : ∀ l a, P l → P (l ++ [a])) (l : List α) : P l := by
  have h : ∀ l : List α, P l.reverse := by
    intro l
    induction l with
    | nil => exact h0
    | cons a l ih => rw [List.reverse_cons]; exact h1 _ _ ih
  have := h l.reverse
  rwa [List.reverse_reverse] at this
/-- n bytes of v. -/
def be : Nat → Nat → List UInt8
  | 0, _ => []
  | n + 1, v => be n (v / 256) ++ [UInt8.ofNat (v % 256)]
/-- The number of bytes. -/
def beNum (l : List UInt8) : Nat := l.foldl (fun a b => a * 256 + b.toNat) 0
def toBA (l : List UInt8) : ByteArray := ⟨l.toArray⟩
theorem toBA_toList (l : List UInt8) : (toBA l).toList = l := by simp [toBA, ByteArray.toList_eq]
theorem toBA_size (l : List UInt8) : (toBA l).size = l.length := by simp [toBA, ByteArray.size]
theorem toBA_data (l : List UInt8) : (toBA l).data = l.toArray := rfl

theorem toBA_append (a b : List UInt8) : toBA a ++ toBA b = toBA (a ++ b) := by
  apply ByteArray.ext
  simp [toBA]
theorem toBA_of (s : ByteArray) : s = toBA s.data.toList := by simp [toBA]
theorem strOfNums_toBA (xs : List Int) : strOfNums xs = toBA (xs.map fun n => UInt8.ofNat n.toNat) := rfl
theorem toBA_nil : (⟨#[]⟩ : ByteArray) = toBA [] := rfl
theorem wrapU {x : Int} (h0 : 0 ≤ x) (h1 : x < 18446744073709551616) : IntKind.u64.wrap x = x := by
  simp only [IntKind.wrap, IntKind.signed, show IntKind.u64.bits = 64 from rfl]
  simp
  omega
theorem be_length (n v : Nat) : (be n v).length = n := by
  induction n generalizing v with
  | zero => rfl
  | succ n ih => simp [be, ih]
theorem beNum_snoc (l : List UInt8) (b : UInt8) : beNum (l ++ [b]) = beNum l * 256 + b.toNat := by simp [beNum, List.foldl_append]
theorem beNum_be (n v : Nat) (h : v < 256 ^ n) : beNum (be n v) = v := by
  induction n generalizing v with
  | zero => simp at h; subst h; rfl
  | succ n ih =>
    rw [Nat.pow_succ] at h
    have hd : v / 256 < 256 ^ n := Nat.div_lt_of_lt_mul (by rw [Nat.mul_comm]; exact h)
    simp only [be]
    rw [beNum_snoc, ih _ hd]
    have : (UInt8.ofNat (v % 256)).toNat = v % 256 := by simp
    rw [this]
    omega
theorem beNum_lt (l : List UInt8) : beNum l < 256 ^ l.length := by
  refine snoc_ind (P := fun l => beNum l < 256 ^ l.length) (by simp [beNum]) (fun l b ih => ?_) l
  · rw [beNum_snoc, List.length_append, List.length_singleton, Nat.pow_succ]
    have := b.toNat_lt
    omega
theorem be_beNum (l : List UInt8) : be l.length (beNum l) = l := by
  refine snoc_ind (P := fun l => be l.length (beNum l) = l) rfl (fun l b ih => ?_) l
  · rw [beNum_snoc, List.length_append, List.length_singleton]
    have hb := b.toNat_lt
    simp only [be]
    have h1 : (beNum l * 256 + b.toNat) / 256 = beNum l := by omega
    have h2 : (beNum l * 256 + b.toNat) % 256 = b.toNat := by omega
    rw [h1, h2, ih]
    simp

/-- A number's bytes, and why not. -/
def isW (n : Int) : Prop := n = 1 ∨ n = 2 ∨ n = 4 ∨ n = 8
instance (n : Int) : Decidable (isW n) := by unfold isW; infer_instance
def putR (n v : Int) : ByteArray × Int := if isW n then (if v < 256 ^ n.toNat then (toBA (be n.toNat v.toNat), 0) else (⟨#[]⟩, 4)) else (⟨#[]⟩, 1)
def takeR (s : ByteArray) (n : Int) : Int × ByteArray × Int := if isW n then (if (s.size : Int) < n then (0, ⟨#[]⟩, 2) else ((beNum (s.data.toList.take n.toNat) : Nat), s.extract n.toNat s.size, 0)) else (0, ⟨#[]⟩, 1)
theorem width_isW (n : Int) : num_width.f n = some (decide (isW n)) := by
  unfold num_width.f isW
  by_cases h1 : n = 1 <;> by_cases h2 : n = 2 <;> by_cases h4 : n = 4 <;> by_cases h8 : n = 8 <;> simp [h1, h2, h4, h8]
theorem wrap64_of {x : Int} (h0 : -9223372036854775808 ≤ x) (h1 : x ≤ 9223372036854775807) : wrap64 x = x := by unfold wrap64; omega
theorem w_succ {i : Nat} (h : i < 4611686018427387904) : wrap64 ((i : Int) + 1) = ((i + 1 : Nat) : Int) := by rw [wrap64_of (by omega) (by omega)]; omega
theorem w_half {y : Nat} (h : y < 4611686018427387904) : wrap64 (Int.tdiv (y : Int) 2) = ((y / 2 : Nat) : Int) := by rw [Int.tdiv_eq_ediv_of_nonneg (by omega), wrap64_of (by omega) (by omega)]; omega
theorem m_two (y : Nat) : Int.tmod (y : Int) 2 = ((y % 2 : Nat) : Int) := by rw [Int.tmod_eq_emod_of_nonneg (by omega)]; omega
theorem w_eight {i : Nat} (h : i < 461168601842738790) : wrap64 (8 * (i : Int)) = ((8 * i : Nat) : Int) := by rw [wrap64_of (by omega) (by omega)]; omega
theorem w_add {a b : Nat} (h : a + b < 4611686018427387904) : wrap64 ((a : Int) + (b : Int)) = ((a + b : Nat) : Int) := by rw [wrap64_of (by omega) (by omega)]; omega
theorem w_eighth {i : Nat} (h : i < 4611686018427387904) : wrap64 (Int.tdiv (wrap64 ((i : Int) + 7)) 8) = (((i + 7) / 8 : Nat) : Int) := by
  rw [wrap64_of (x := (i : Int) + 7) (by omega) (by omega), Int.tdiv_eq_ediv_of_nonneg (by omega), wrap64_of (by omega) (by omega)]; omega
end Go.Proofs.YtdalcbhnnfabhaaDoor.F
namespace Go.Proofs.YtdalcbhnnfabhaaDoor.F
open Go.RowKit Go.Proofs.YtdalcbhnnfabhaaDoorW.PrintWords Go.Proofs.YtdalcbhnnfabhaaDoorW.PrintLast Go.Proofs.YtdalcbhnnfabhaaDoorW.PrintMore
set_option linter.unusedVariables false
set_option linter.unusedSimpArgs false

theorem toBA_list (l : List UInt8) : (toBA l).data.toList = l := rfl
theorem eq_of_list {a b : ByteArray} (h : a.data.toList = b.data.toList) : a = b := by
  rw [toBA_of a, toBA_of b, h]
theorem extract_drop (s : ByteArray) (i : Nat) : s.extract i s.size = toBA (s.data.toList.drop i) :=
  eq_of_list (by rw [Lib.extract_to_end, toBA_list])
theorem extract_take (s : ByteArray) (i : Nat) : s.extract 0 i = toBA (s.data.toList.take i) :=
  eq_of_list (by rw [Lib.extract_data, toBA_list, List.drop_zero, Nat.sub_zero])
theorem empty_size : (⟨#[]⟩ : ByteArray).size = 0 := rfl
theorem append_data (a b : ByteArray) : (a ++ b).data.toList = a.data.toList ++ b.data.toList := by rw [ByteArray.data_append, Array.toList_append]
theorem size_list (s : ByteArray) : s.data.toList.length = s.size := Array.length_toList
theorem size_append (a b : ByteArray) : (a ++ b).size = a.size + b.size := by simp
theorem toList_data (s : ByteArray) : s.toList = s.data.toList := by rw [ByteArray.toList_eq]

theorem take_put {n v : Int} (r : ByteArray) (hn : isW n) (h0 : 0 ≤ v) (hv : v < 256 ^ n.toNat) : takeR (toBA (be n.toNat v.toNat) ++ r) n = (v, r, 0) := by
  unfold takeR
  have hm : 0 ≤ n := by rcases hn with h | h | h | h <;> omega
  obtain ⟨m, rfl⟩ := Int.eq_ofNat_of_zero_le hm
  obtain ⟨w, rfl⟩ := Int.eq_ofNat_of_zero_le h0
  simp only [Int.toNat_natCast] at hv ⊢
  have hw : w < 256 ^ m := by
    have : ((w : Nat) : Int) < ((256 ^ m : Nat) : Int) := by simpa using hv
    omega
  rw [if_pos hn, if_neg (by rw [size_append, toBA_size, be_length]; omega), append_data, toBA_list, extract_drop, append_data, toBA_list]
  have hl := be_length m w
  rw [List.take_append_of_le_length (by omega), List.take_of_length_le (by omega), beNum_be m w hw, List.drop_append_of_le_length (by omega), List.drop_of_length_le (by omega), List.nil_append, ← toBA_of]
theorem put_take {s : ByteArray} {n : Int} (h : (takeR s n).2.2 = 0) : putR n (takeR s n).1 = (toBA (s.data.toList.take n.toNat), 0) ∧ toBA (s.data.toList.take n.toNat) ++ (takeR s n).2.1 = s := by
  unfold takeR at h ⊢
  split at h
  · rename_i hn
    split at h
    · simp at h
    · rename_i hl
      have hm : 0 ≤ n := by rcases hn with h | h | h | h <;> omega
      obtain ⟨m, rfl⟩ := Int.eq_ofNat_of_zero_le hm
      rw [if_pos hn, if_neg hl]
      simp only [Int.toNat_natCast]
      have hlen : (s.data.toList.take m).length = m := by rw [List.length_take, size_list]; omega
      have hlt := beNum_lt (s.data.toList.take m)
      rw [hlen] at hlt
      refine ⟨?_, ?_⟩
      · unfold putR
        rw [if_pos hn, if_pos (by
          have : ((beNum (s.data.toList.take m) : Nat) : Int) < ((256 ^ m : Nat) : Int) := by omega
          simpa using this)]
        simp only [Int.toNat_natCast]
        have := be_beNum (s.data.toList.take m)
        rw [hlen] at this
        rw [this]
      · rw [extract_drop, toBA_append, List.take_append_drop, ← toBA_of]
  · simp at h
theorem put_ok {n v : Int} (h : (putR n v).2 = 0) : isW n ∧ v < 256 ^ n.toNat ∧ (putR n v).1 = toBA (be n.toNat v.toNat) := by
  unfold putR at h ⊢
  split at h
  · rename_i hn
    split at h
    · rename_i hv
      rw [if_pos hn, if_pos hv]
      exact ⟨hn, hv, rfl⟩
    · simp at h
  · simp at h
theorem take_bound (s : ByteArray) (n : Int) : 0 ≤ (takeR s n).1 ∧ (takeR s n).1 < 18446744073709551616 := by
  unfold takeR
  split
  · rename_i hn
    split
    · simp
    · have h1 := beNum_lt (s.data.toList.take n.toNat)
      have h2 : (s.data.toList.take n.toNat).length ≤ 8 := by
        rw [List.length_take]
        rcases hn with h | h | h | h <;> subst h <;> omega
      have h3 : 256 ^ (s.data.toList.take n.toNat).length ≤ 256 ^ 8 := Nat.pow_le_pow_right (by decide) h2
      simp only
      omega
  · simp
theorem u64_bounds {x : Int} (h : (Lit.int .u64 x).wf = true) : 0 ≤ x ∧ x < 18446744073709551616 := by
  simp [Lit.wf, IntKind.min, IntKind.max, IntKind.signed, show IntKind.u64.bits = 64 from rfl] at h
  omega
theorem i64_bounds {x : Int} (h : (Lit.int .i64 x).wf = true) : -9223372036854775808 ≤ x ∧ x ≤ 9223372036854775807 := by
  simp [Lit.wf, IntKind.min, IntKind.max, IntKind.signed, show IntKind.i64.bits = 64 from rfl] at h
  omega
theorem put_size (n v : Int) : (putR n v).1.size ≤ 8 := by
  unfold putR
  split
  · rename_i hn
    split
    · simp only [toBA_size, be_length]
      rcases hn with h | h | h | h <;> subst h <;> decide
    · exact Nat.zero_le _
  · exact Nat.zero_le _
theorem take_rest (s : ByteArray) (n : Int) : (takeR s n).2.1.size ≤ s.size := by
  unfold takeR
  split
  · split
    · exact Nat.zero_le _
    · simp only [extract_drop, toBA_size, List.length_drop, size_list]; omega
  · exact Nat.zero_le _
end Go.Proofs.YtdalcbhnnfabhaaDoor.F
namespace Go.Proofs.YtdalcbhnnfabhaaDoor.F
open Go.RowKit Go.Proofs.YtdalcbhnnfabhaaDoorW.PrintWords Go.Proofs.YtdalcbhnnfabhaaDoorW.PrintLast Go.Proofs.YtdalcbhnnfabhaaDoorW.PrintMore
attribute [local go_sem] max2_int min2_int max_two min_two max_three min_three max_four min_four
set_option linter.unusedVariables false
set_option linter.unusedSimpArgs false

/-! ### num_Put: function 25 -/
mutual
def num_Put.j0 : Nat → Int → Int → Option (ByteArray × Int)
  | 0, _, _ => none
  | k + 1, x0, x1 => if 0 ≤ x0 then (if (x0 : Int).toNat ≤ 281474976710656 then (num_Put.l0 k x0 x1 (List.replicate (x0 : Int).toNat 0) x0 0) else (none)) else (none)
def num_Put.l0 : Nat → Int → Int → List Int → Int → Int → Option (ByteArray × Int)
  | 0, _, _, _, _, _ => none
  | k + 1, x0, x1, x7, x26, x27 => if x27 < x26 then (if 0 ≤ (wrap64 (8 * x27)) then (if 0 ≤ (wrap64 ((wrap64 (x0 - 1)) - x27)) then (if (wrap64 ((wrap64 (x0 - 1)) - x27)) < (x7.length : Int) then (num_Put.l0 k x0 x1 (x7.set ((wrap64 ((wrap64 (x0 - 1)) - x27)) : Int).toNat ((shr .u64 x1 (wrap64 (8 * x27))) % 256)) x26 (wrap64 (x27 + 1))) else (none)) else (none)) else (none)) else (some (strOfNums x7, 0))
end
def num_Put.f (k : Nat) (a0 : Int) (a1 : Int) : Option (ByteArray × Int) := (num_width.f a0).bind fun t106 => (if t106 = true then (if a0 < 8 then (if 0 ≤ (wrap64 (8 * a0)) then (if (shr .u64 a1 (wrap64 (8 * a0))) = 0 then (num_Put.j0 k a0 a1) else (some ((⟨#[]⟩ : ByteArray), 4))) else (none)) else (num_Put.j0 k a0 a1)) else (some ((⟨#[]⟩ : ByteArray), 1)))
theorem num_Put.mono_l : ∀ k, (∀ y0 y1, LeO (num_Put.j0 k y0 y1) (num_Put.j0 (k + 1) y0 y1)) ∧ (∀ y0 y1 y2 y3 y4, LeO (num_Put.l0 k y0 y1 y2 y3 y4) (num_Put.l0 (k + 1) y0 y1 y2 y3 y4))
  | 0 => ⟨fun _ _ r h => by simp [num_Put.j0] at h, fun _ _ _ _ _ r h => by simp [num_Put.l0] at h⟩
  | k + 1 => by
    obtain ⟨ih0, ih1⟩ := num_Put.mono_l k
    refine ⟨?_, ?_⟩
    · intro y0 y1
      unfold num_Put.j0
      repeat' first
      | (with_reducible exact ih0 _ _)
      | (with_reducible exact ih1 _ _ _ _ _)
      | (with_reducible exact LeO.refl _)
      | (with_reducible exact LeO.none _)
      | (with_reducible refine LeO.ite ?_ ?_)
      | (with_reducible refine LeO.bind ?_ (fun _ => ?_))
      | exact ih0 _ _
      | exact ih1 _ _ _ _ _
      | exact LeO.none _
      | refine LeO.ite ?_ ?_
      | refine LeO.bind ?_ (fun _ => ?_)
    · intro y0 y1 y2 y3 y4
      unfold num_Put.l0
      repeat' first
      | (with_reducible exact ih0 _ _)
      | (with_reducible exact ih1 _ _ _ _ _)
      | (with_reducible exact LeO.refl _)
      | (with_reducible exact LeO.none _)
      | (with_reducible refine LeO.ite ?_ ?_)
      | (with_reducible refine LeO.bind ?_ (fun _ => ?_))
      | exact ih0 _ _
      | exact ih1 _ _ _ _ _
      | exact LeO.none _
      | refine LeO.ite ?_ ?_
      | refine LeO.bind ?_ (fun _ => ?_)
theorem num_Put.mono : ∀ a0 a1 k, LeO (num_Put.f k a0 a1) (num_Put.f (k + 1) a0 a1) := by
  intro a0 a1 k
  obtain ⟨ih0, ih1⟩ := num_Put.mono_l k
  unfold num_Put.f
  repeat' first
      | (with_reducible exact ih0 _ _)
      | (with_reducible exact ih1 _ _ _ _ _)
      | (with_reducible exact LeO.refl _)
      | (with_reducible exact LeO.none _)
      | (with_reducible refine LeO.ite ?_ ?_)
      | (with_reducible refine LeO.bind ?_ (fun _ => ?_))
      | exact ih0 _ _
      | exact ih1 _ _ _ _ _
      | exact LeO.none _
      | refine LeO.ite ?_ ?_
      | refine LeO.bind ?_ (fun _ => ?_)
set_option maxHeartbeats 8000000 in
set_option maxRecDepth 100000 in
theorem num_Put.calls (k : Nat) (a0 : Int) (a1 : Int) (r1 : ByteArray) (r2 : Int) (w : World) (hg : Laid w) (h : num_Put.f k a0 a1 = some (r1, r2)) :
    Calls Tryd.prog 25 #[.int .i64 a0, .int .u64 a1] w fun e w' => e = .returned (.tuple #[.string r1, .int .i64 r2]) ∧ Below w.heap.size w w' := by
  have HG := Aside0.mk hg
  clear hg
  have HB := Aside0.mk (Below.refl w.heap.size w)
  have H : ((num_width.f a0).bind fun t106 => (if t106 = true then (if a0 < 8 then (if 0 ≤ (wrap64 (8 * a0)) then (if (shr .u64 a1 (wrap64 (8 * a0))) = 0 then (num_Put.j0 k a0 a1) else (some ((⟨#[]⟩ : ByteArray), 4))) else (none)) else (num_Put.j0 k a0 a1)) else (some ((⟨#[]⟩ : ByteArray), 1)))) = some (r1, r2) := h
  clear h
  have HC3 := Aside0.mk H
  clear H
  go_enter Tryd.func25, Tryd.ntmps25
  go_upto_block 0 with (fail)
  go_cut [] (fun wc => ∃ (kq : Nat), Aside0 (num_Put.j0 kq a0 a1 = some (r1, r2)) ∧ Aside0 (kq ≤ k) ∧ Aside0 (Below w.heap.size w wc))
  case first =>
    have H := HC3.out
    clear HC3
    replace H := Option.bind_eq_some_iff.mp H
    obtain ⟨t106, A40, H⟩ := H
    replace H : (if t106 = true then (if a0 < 8 then (if 0 ≤ (wrap64 (8 * a0)) then (if (shr .u64 a1 (wrap64 (8 * a0))) = 0 then (num_Put.j0 k a0 a1) else (some ((⟨#[]⟩ : ByteArray), 4))) else (none)) else (num_Put.j0 k a0 a1)) else (some ((⟨#[]⟩ : ByteArray), 1))) = some (r1, r2) := H
    have A4 := Aside0.mk A40
    clear A40
    by_cases c5 : t106 = true
    · subst c5
      have H1 : (if a0 < 8 then (if 0 ≤ (wrap64 (8 * a0)) then (if (shr .u64 a1 (wrap64 (8 * a0))) = 0 then (num_Put.j0 k a0 a1) else (some ((⟨#[]⟩ : ByteArray), 4))) else (none)) else (num_Put.j0 k a0 a1)) = some (r1, r2) := by rw [if_pos rfl] at H; exact H
      clear H
      have H := H1
      clear H1
      by_cases c6 : a0 < 8
      · rw [if_pos c6] at H
        have c6b0 : decide (a0 < 8) = true := decide_eq_true c6
        clear c6
        (first | rw [c6b0] | (simp only [i64_w, i32_w]; rw [c6b0]) | skip)
        obtain ⟨ji7, hji7⟩ : ∃ j_ : Int, (wrap64 (8 * a0)) = j_ := ⟨_, rfl⟩
        replace H : (if 0 ≤ (ji7) then (if (shr .u64 a1 (ji7)) = 0 then (num_Put.j0 k a0 a1) else (some ((⟨#[]⟩ : ByteArray), 4))) else (none)) = some (r1, r2) := by first | (rw [hji7] at H; exact H) | (simp only [hji7] at H ⊢; exact H)
        (try rw [hji7] at A4)
        have hji7w : (IntKind.i64.wrap (8 * a0)) = ji7 := (i64_w _).trans hji7
        by_cases c8 : 0 ≤ (ji7)
        · rw [if_pos c8] at H
          have c8b0 := eq_true c8
          have c8b1 : decide (0 ≤ (ji7)) = true := decide_eq_true c8
          clear c8
          obtain ⟨ji9, hji9⟩ : ∃ j_ : Int, (shr .u64 a1 (ji7)) = j_ := ⟨_, rfl⟩
          replace H : (if (ji9) = 0 then (num_Put.j0 k a0 a1) else (some ((⟨#[]⟩ : ByteArray), 4))) = some (r1, r2) := by first | (rw [hji9] at H; exact H) | (simp only [hji9] at H ⊢; exact H)
          (try rw [hji9] at A4)
          have hji9_ : (a1 / 2 ^ min (ji7).toNat 64) = ji9 := hji9
          have hji9z : (ji7) ≤ 64 → (a1 / 2 ^ (ji7).toNat) = ji9 := shr_small hji9
          by_cases c10 : (ji9) = 0
          · rw [if_pos c10] at H
            have c10b0 : ((ji9) == 0) = true := beq_iff_eq.mpr c10
            have c10b1 : ((ji9) != 0) = false := bne_eq_false_iff_eq.mpr c10
            clear c10
            have H' := Aside0.mk H
            clear H
            go_wp2_with (first | ((with_reducible refine gate_callee (f := 33) rfl ?_); refine goesL_ (some 11) rfl rfl Tryd.func33 (by kernel_rfl) rfl #[.int .i64 a0] rfl (by (try simp only [List.map_toArray, List.map_cons, List.map_nil]); first | done | rfl | (simp only [List.length_drop, List.length_take]; rfl)) ?_; (with_reducible refine (num_width.calls a0 true _ ?lg A4.out).mono ?_); (case lg => exact (HG.out.below (by repeat (first | (with_reducible first | exact HB.out | apply below_alloc | apply pw_below_drewN | apply below_drew1) | exact HB.out)))); rintro e w' ⟨rfl, ⟨nd, rfl⟩⟩; refine ⟨_, rfl, ?_⟩))
            go_meet
            case rel => exact ⟨_, H', ⟨by first | omega | exact Nat.le_refl _⟩, ⟨by repeat (first | (with_reducible first | exact HB.out | apply below_alloc | apply pw_below_drewN | apply below_drew1) | exact HB.out)⟩⟩
          · rw [if_neg c10] at H
            have c10b0 : ((ji9) == 0) = false := beq_eq_false_iff_ne.mpr c10
            have c10b1 : ((ji9) != 0) = true := bne_iff_ne.mpr c10
            simp only [Option.some.injEq, Prod.mk.injEq] at H
            obtain ⟨rfl, rfl⟩ := H
            go_wp2_with (first | ((with_reducible refine gate_callee (f := 33) rfl ?_); refine goesL_ (some 11) rfl rfl Tryd.func33 (by kernel_rfl) rfl #[.int .i64 a0] rfl (by (try simp only [List.map_toArray, List.map_cons, List.map_nil]); first | done | rfl | (simp only [List.length_drop, List.length_take]; rfl)) ?_; (with_reducible refine (num_width.calls a0 true _ ?lg A4.out).mono ?_); (case lg => exact (HG.out.below (by repeat (first | (with_reducible first | exact HB.out | apply below_alloc | apply pw_below_drewN | apply below_drew1) | exact HB.out)))); rintro e w' ⟨rfl, ⟨nd, rfl⟩⟩; refine ⟨_, rfl, ?_⟩))
            go_ret2
            exact ⟨by first | rfl | (simp [errW_none, errW_some] <;> rfl) | (simp only [← hji7, ← hji9]; first | rfl | (simp [errW_none, errW_some] <;> rfl)) | (simp [*, errW_none, errW_some] <;> rfl), by repeat (first | (with_reducible first | exact HB.out | apply below_alloc | apply pw_below_drewN | apply below_drew1) | exact HB.out)⟩
        · rw [if_neg c8] at H
          exact absurd H (by simp)
      · rw [if_neg c6] at H
        have c6b0 : decide (a0 < 8) = false := decide_eq_false c6
        clear c6
        (first | rw [c6b0] | (simp only [i64_w, i32_w]; rw [c6b0]) | skip)
        have H' := Aside0.mk H
        clear H
        go_wp2_with (first | ((with_reducible refine gate_callee (f := 33) rfl ?_); refine goesL_ (some 11) rfl rfl Tryd.func33 (by kernel_rfl) rfl #[.int .i64 a0] rfl (by (try simp only [List.map_toArray, List.map_cons, List.map_nil]); first | done | rfl | (simp only [List.length_drop, List.length_take]; rfl)) ?_; (with_reducible refine (num_width.calls a0 true _ ?lg A4.out).mono ?_); (case lg => exact (HG.out.below (by repeat (first | (with_reducible first | exact HB.out | apply below_alloc | apply pw_below_drewN | apply below_drew1) | exact HB.out)))); rintro e w' ⟨rfl, ⟨nd, rfl⟩⟩; refine ⟨_, rfl, ?_⟩))
        go_meet
        case rel => exact ⟨_, H', ⟨by first | omega | exact Nat.le_refl _⟩, ⟨by repeat (first | (with_reducible first | exact HB.out | apply below_alloc | apply pw_below_drewN | apply below_drew1) | exact HB.out)⟩⟩
    · replace c5 := Bool.eq_false_iff.mpr c5
      subst c5
      have H1 : (some ((⟨#[]⟩ : ByteArray), 1)) = some (r1, r2) := by rw [if_neg (show ¬ (false = true) by decide)] at H; exact H
      clear H
      have H := H1
      clear H1
      simp only [Option.some.injEq, Prod.mk.injEq] at H
      obtain ⟨rfl, rfl⟩ := H
      go_wp2_with (first | ((with_reducible refine gate_callee (f := 33) rfl ?_); refine goesL_ (some 11) rfl rfl Tryd.func33 (by kernel_rfl) rfl #[.int .i64 a0] rfl (by (try simp only [List.map_toArray, List.map_cons, List.map_nil]); first | done | rfl | (simp only [List.length_drop, List.length_take]; rfl)) ?_; (with_reducible refine (num_width.calls a0 false _ ?lg A4.out).mono ?_); (case lg => exact (HG.out.below (by repeat (first | (with_reducible first | exact HB.out | apply below_alloc | apply pw_below_drewN | apply below_drew1) | exact HB.out)))); rintro e w' ⟨rfl, ⟨nd, rfl⟩⟩; refine ⟨_, rfl, ?_⟩))
      go_ret2
      exact ⟨by first | rfl | (simp [errW_none, errW_some] <;> rfl) | (simp [*, errW_none, errW_some] <;> rfl), by repeat (first | (with_reducible first | exact HB.out | apply below_alloc | apply pw_below_drewN | apply below_drew1) | exact HB.out)⟩
  case rest =>
    clear HC3
    try clear c1
    try clear c2
    try clear p2
    try clear c3
    try clear c5
    try clear c6
    try clear c6b0
    try clear p6
    try clear c8
    try clear c8b0
    try clear c8b1
    try clear c10
    try clear c10b0
    try clear c10b1
    obtain ⟨kq, HA, HJ2, HB⟩ := hcut
    cases kq with
    | zero => exact absurd HA.out (by simp [num_Put.j0])
    | succ kj2 =>
      have H := HA.out
      clear HA
      simp only [num_Put.j0] at H
      by_cases c11 : 0 ≤ a0
      · rw [if_pos c11] at H
        have c11b0 := eq_true c11
        have c11b1 : decide (0 ≤ a0) = true := decide_eq_true c11
        clear c11
        by_cases c12 : (a0 : Int).toNat ≤ 281474976710656
        · rw [if_pos c12] at H
          have c12b0 := eq_true c12
          have c12b1 : decide ((a0 : Int).toNat ≤ 281474976710656) = true := decide_eq_true c12
          clear c12
          obtain ⟨y107, hy107⟩ : ∃ y_ : List Int, y_ = (List.replicate (a0 : Int).toNat 0) := ⟨_, rfl⟩
          replace H : (num_Put.l0 kj2 a0 a1 y107 a0 0) = some (r1, r2) := by first | (rw [hy107]; with_reducible exact H) | (have H2_ := (Option.bind_some _ _).symm.trans H; rw [hy107]; with_reducible exact H2_) | (have H2_ := (Option.bind_some _ _).symm.trans H; with_reducible exact H2_) | with_reducible exact H | (rw [hy107]; exact H) | exact H
          have Ny107 := Aside0.mk hy107
          clear hy107
          have H' := Aside0.mk H
          clear H
          go_wp2_with (first | ((with_reducible refine gate_dst (N := 25) rfl ?_); refine Kd.R_make (Kd.int .u8) _ 5 rfl (N := 25) rfl 53 _ _ rfl a0 rfl rfl Tryd.underlying53 (.int .u8 0) 1 info5 rfl (by decide) (by omega) 0 (ok := fun _ => True) (okp := fun _ => True) rfl (fun _ hk => hk) trivial (of_decide_eq_true (by first | (with_reducible assumption) | assumption)) (Nat.le_trans (Nat.mul_le_mul_right _ (of_decide_eq_true (by first | (with_reducible assumption) | assumption) : a0.toNat ≤ 281474976710656)) (by omega)) (Below.refl _ _) (Nat.le_refl _) ?_; intro v108 w13 ho14 hb hg_ hnew_; clear hg_ hnew_; (first | rw [← Ny107.out] at ho14 | (simp only [Int.reduceToNat] at ho14; rw [← Ny107.out] at ho14)); have n0_ := Aside0.mk (Kd.R_lower ho14 (below_size (by repeat (first | (with_reducible first | exact HB.out | apply below_alloc | apply pw_below_drewN | apply below_drew1) | exact HB.out)))); have n1_ := Aside0.mk (below_step (by repeat (first | (with_reducible first | exact HB.out | apply below_alloc | apply pw_below_drewN | apply below_drew1) | exact HB.out)) hb); clear HB; have HO109 := n0_; have HB := n1_; clear n0_ n1_; clear hb ho14))
          go_loopg [27] kj2 (fun kq v27 w' => ∃ (x7_2 : List Int) (x27_2 : Int), v27 = .int .i64 x27_2 ∧ Aside0 (num_Put.l0 kq a0 a1 x7_2 a0 x27_2 = some (r1, r2)) ∧ Aside0 (kq ≤ kj2) ∧ Aside0 (Kd.R (Kd.int .u8) 5 w' w.heap.size (fun _ => True) v108 x7_2) ∧ Aside0 (Below w.heap.size w w'))
          case atStart => exact ⟨(y107), (0), (by first | rfl | (simp; done) | (simp [*]; done)), H', ⟨Nat.le_refl _⟩, ⟨by (with_reducible repeat (first | apply Kd.R_alloc | apply Kd.R_drewN | apply Kd.R_drew)); exact HO109.out⟩, ⟨by repeat (first | (with_reducible first | exact HB.out | apply below_alloc | apply pw_below_drewN | apply below_drew1) | exact HB.out)⟩⟩
          case round =>
            clear H'
            try clear c1
            try clear c2
            try clear p2
            try clear c3
            try clear c5
            try clear c6
            try clear c6b0
            try clear p6
            try clear c8
            try clear c8b0
            try clear c8b1
            try clear c10
            try clear c10b0
            try clear c10b1
            try clear c11
            try clear c11b0
            try clear c11b1
            try clear c12
            try clear c12b0
            try clear c12b1
            try clear p2
            try clear p6
            obtain ⟨x7_2, x27_2, rfl, HA, HK2, HO_7, HB⟩ := hrel
            cases gk with
            | zero => exact absurd HA.out (by simp [num_Put.l0])
            | succ k2 =>
              have H := HA.out
              clear HA
              simp only [num_Put.l0] at H
              by_cases c15 : x27_2 < a0
              · rw [if_pos c15] at H
                have c15b0 : decide (x27_2 < a0) = true := decide_eq_true c15
                clear c15
                obtain ⟨ji16, hji16⟩ : ∃ j_ : Int, (wrap64 (8 * x27_2)) = j_ := ⟨_, rfl⟩
                replace H : (if 0 ≤ (ji16) then (if 0 ≤ (wrap64 ((wrap64 (a0 - 1)) - x27_2)) then (if (wrap64 ((wrap64 (a0 - 1)) - x27_2)) < (x7_2.length : Int) then (num_Put.l0 k2 a0 a1 (x7_2.set ((wrap64 ((wrap64 (a0 - 1)) - x27_2)) : Int).toNat ((shr .u64 a1 (ji16)) % 256)) a0 (wrap64 (x27_2 + 1))) else (none)) else (none)) else (none)) = some (r1, r2) := by first | (rw [hji16] at H; exact H) | (simp only [hji16] at H ⊢; exact H)
                have hji16w : (IntKind.i64.wrap (8 * x27_2)) = ji16 := (i64_w _).trans hji16
                by_cases c17 : 0 ≤ (ji16)
                · rw [if_pos c17] at H
                  have c17b0 := eq_true c17
                  have c17b1 : decide (0 ≤ (ji16)) = true := decide_eq_true c17
                  clear c17
                  obtain ⟨ji18, hji18⟩ : ∃ j_ : Int, (shr .u64 a1 (ji16)) = j_ := ⟨_, rfl⟩
                  replace H : (if 0 ≤ (wrap64 ((wrap64 (a0 - 1)) - x27_2)) then (if (wrap64 ((wrap64 (a0 - 1)) - x27_2)) < (x7_2.length : Int) then (num_Put.l0 k2 a0 a1 (x7_2.set ((wrap64 ((wrap64 (a0 - 1)) - x27_2)) : Int).toNat ((ji18) % 256)) a0 (wrap64 (x27_2 + 1))) else (none)) else (none)) = some (r1, r2) := by first | (rw [hji18] at H; exact H) | (simp only [hji18] at H ⊢; exact H)
                  have hji18_ : (a1 / 2 ^ min (ji16).toNat 64) = ji18 := hji18
                  have hji18z : (ji16) ≤ 64 → (a1 / 2 ^ (ji16).toNat) = ji18 := shr_small hji18
                  obtain ⟨ji19, hji19⟩ : ∃ j_ : Int, (wrap64 ((wrap64 (a0 - 1)) - x27_2)) = j_ := ⟨_, rfl⟩
                  replace H : (if 0 ≤ (ji19) then (if (ji19) < (x7_2.length : Int) then (num_Put.l0 k2 a0 a1 (x7_2.set ((ji19) : Int).toNat ((ji18) % 256)) a0 (wrap64 (x27_2 + 1))) else (none)) else (none)) = some (r1, r2) := by first | (rw [hji19] at H; exact H) | (simp only [hji19] at H ⊢; exact H)
                  have hji19w : (IntKind.i64.wrap ((wrap64 (a0 - 1)) - x27_2)) = ji19 := (i64_w _).trans hji19
                  by_cases c20 : 0 ≤ (ji19)
                  · rw [if_pos c20] at H
                    have c20b0 : decide (0 ≤ (ji19)) = true := decide_eq_true c20
                    clear c20
                    by_cases c21 : (ji19) < (x7_2.length : Int)
                    · rw [if_pos c21] at H
                      have c21b0 : decide ((ji19) < (x7_2.length : Int)) = true := decide_eq_true c21
                      clear c21
                      obtain ⟨y110, hy110⟩ : ∃ y_ : List Int, y_ = (x7_2.set ((ji19) : Int).toNat ((ji18) % 256)) := ⟨_, rfl⟩
                      replace H : (num_Put.l0 k2 a0 a1 y110 a0 (wrap64 (x27_2 + 1))) = some (r1, r2) := by first | (rw [hy110]; with_reducible exact H) | (have H2_ := (Option.bind_some _ _).symm.trans H; rw [hy110]; with_reducible exact H2_) | (have H2_ := (Option.bind_some _ _).symm.trans H; with_reducible exact H2_) | with_reducible exact H | (rw [hy110]; exact H) | exact H
                      have Ny110 := Aside0.mk hy110
                      clear hy110
                      have H' := Aside0.mk H
                      clear H
                      have p22 : 0 ≤ ((ji19) : Int) := of_decide_eq_true (by first | (with_reducible assumption) | assumption)
                      have q22 : ((ji19) : Int) < ((x7_2.length : Int) : Int) := of_decide_eq_true (by first | (with_reducible assumption) | assumption)
                      obtain ⟨go22, co22, eo22, gb22, gl22, cl22, HG22⟩ := Kd.R_form HO_7.out (by omega)
                      (first | cases eo22 | (injection eo22 with ea_ en_ ec_; (first | subst ea_ | (injection ea_ with ea_; subst ea_)); subst ec_; clear en_))
                      have GB22 := Aside0.mk gb22
                      have GG22 := Aside0.mk HG22
                      clear gb22 gl22 HG22
                      obtain ⟨hx22_0, hf22_0⟩ := Kd.R_celln 0 HO_7.out ((ji19) : Int) p22 q22
                      replace p22 := eq_true p22
                      replace q22 := eq_true q22
                      have HP23 := Kd.R_putg HO_7.out ((ji19) : Int) ((ji18) % 256)
                      go_wp2_with (first | ((with_reducible refine gate_store (t := 5) (p := 40) rfl ?_); refine store_event (t := 5) (p := 40) (v := ?vo_w24) (w1 := (wr.setCell ⟨go22, ((ji19) : Int).toNat, none⟩ (.int .u8 ((ji18) % 256)))) ?hg ?ho ?hn ?hr ?_; (case ho => rfl); (case hg => rfl); (case hn => rfl); (case hr => first | (go_simp; done) | (go_simp; rfl)); intro w24 hw; have hg : wr.grownBy w24 (some go22) := (by rw [hw]; exact HP23.2); have hp_ : Kd.R (Kd.int .u8) 5 w24 w.heap.size (fun _ => True) (.slice (some ⟨go22, 0, none⟩) x7_2.length co22) y110 := (by rw [hw, Ny110.out]; exact HP23.1); clear HP23; have n0_ := Aside0.mk (hp_); have n1_ := Aside0.mk ((by rw [hw]; exact below_set (HB.out) GB22.out : Below w.heap.size w w24)); clear HO_7; clear HB; have HO_7 := n0_; have HB := n1_; clear n0_ n1_; clear hg hw hp_))
                      go_roundg k2
                      case measure => have := HJ2.out; have := HK2.out; omega
                      case rel => exact ⟨(y110), (wrap64 (x27_2 + 1)), (by first | rfl | (simp; done) | (simp [*]; done)), H', ⟨by have := HJ2.out; have := HK2.out; omega⟩, ⟨by (with_reducible repeat (first | apply Kd.R_alloc | apply Kd.R_drewN | apply Kd.R_drew)); exact HO_7.out⟩, ⟨by repeat (first | (with_reducible first | exact HB.out | apply below_alloc | apply pw_below_drewN | apply below_drew1) | exact HB.out)⟩⟩
                    · rw [if_neg c21] at H
                      exact absurd H (by simp)
                  · rw [if_neg c20] at H
                    exact absurd H (by simp)
                · rw [if_neg c17] at H
                  exact absurd H (by simp)
              · rw [if_neg c15] at H
                have c15b0 : decide (x27_2 < a0) = false := decide_eq_false c15
                clear c15
                simp only [Option.some.injEq, Prod.mk.injEq] at H
                obtain ⟨rfl, rfl⟩ := H
                have hcv25 := own_string (P := Tryd.prog) Tryd.underlying53 Tryd.underlying5 Tryd.underlying9 (Kd.own_of_R HO_7.out)
                go_wp2
                go_ret2
                exact ⟨by first | rfl | (simp [errW_none, errW_some] <;> rfl) | (simp [*, errW_none, errW_some] <;> rfl), by repeat (first | (with_reducible first | exact HB.out | apply below_alloc | apply pw_below_drewN | apply below_drew1) | exact HB.out)⟩
        · rw [if_neg c12] at H
          exact absurd H (by simp)
      · rw [if_neg c11] at H
        exact absurd H (by simp)


end Go.Proofs.YtdalcbhnnfabhaaDoor.F
namespace Go.Proofs.YtdalcbhnnfabhaaDoor.F
open Go.RowKit Go.Proofs.YtdalcbhnnfabhaaDoorW.PrintWords Go.Proofs.YtdalcbhnnfabhaaDoorW.PrintLast Go.Proofs.YtdalcbhnnfabhaaDoorW.PrintMore
set_option linter.unusedVariables false
set_option linter.unusedSimpArgs false

set_option maxHeartbeats 1000000 in
theorem put_at (a0 a1 : Int) (h0 : 0 ≤ a1) (h1 : a1 < 18446744073709551616) : num_Put.f 12 a0 a1 = some (putR a0 a1) := by
  unfold num_Put.f putR
  rw [width_isW]
  simp only [Option.bind_some]
  by_cases hw : isW a0
  · simp only [hw, decide_true, if_true]
    have w : ∀ x : Int, -100 ≤ x → x ≤ 100 → wrap64 x = x := fun x _ _ => wrap64_of (by omega) (by omega)
    obtain ⟨v, rfl⟩ := Int.eq_ofNat_of_zero_le h0
    rcases hw with rfl | rfl | rfl | rfl
    all_goals simp [num_Put.j0, num_Put.l0, shr, w, be, toBA, strOfNums, show IntKind.u64.bits = 64 from rfl]
    all_goals try simp only [Nat.div_div_eq_div_mul, Nat.reduceMul]
    all_goals have e0 : ((v : Int) % 256).toNat = v % 256 := by omega
    all_goals have e1 : ((v : Int) / 256 % 256).toNat = v / 256 % 256 := by omega
    all_goals have e2 : ((v : Int) / 65536 % 256).toNat = v / 65536 % 256 := by omega
    all_goals have e3 : ((v : Int) / 16777216 % 256).toNat = v / 16777216 % 256 := by omega
    all_goals have e4 : ((v : Int) / 4294967296 % 256).toNat = v / 4294967296 % 256 := by omega
    all_goals have e5 : ((v : Int) / 1099511627776 % 256).toNat = v / 1099511627776 % 256 := by omega
    all_goals have e6 : ((v : Int) / 281474976710656 % 256).toNat = v / 281474976710656 % 256 := by omega
    all_goals have e7 : ((v : Int) / 72057594037927936 % 256).toNat = v / 72057594037927936 % 256 := by omega
    all_goals try simp only [e0, e1, e2, e3, e4, e5, e6, e7]
    · by_cases hv : (v : Int) < 256
      · rw [if_pos hv, if_pos (by omega)]
      · rw [if_neg hv, if_neg (by omega)]
    · by_cases hv : (v : Int) < 65536
      · rw [if_pos hv, if_pos (by omega)]
      · rw [if_neg hv, if_neg (by omega)]
    · by_cases hv : (v : Int) < 4294967296
      · rw [if_pos hv, if_pos (by omega)]
      · rw [if_neg hv, if_neg (by omega)]
    · rw [if_pos h1]
  · simp [hw]
theorem put_ev (a0 a1 : Int) (h0 : 0 ≤ a1) (h1 : a1 < 18446744073709551616) : Ev (fun k => num_Put.f k a0 a1) (putR a0 a1) := Ev.of (num_Put.mono a0 a1) (put_at a0 a1 h0 h1)
theorem put_k {k : Nat} (hk : 12 ≤ k) (a0 a1 : Int) (h0 : 0 ≤ a1) (h1 : a1 < 18446744073709551616) : num_Put.f k a0 a1 = some (putR a0 a1) := at_rounds (num_Put.mono a0 a1) hk (put_at a0 a1 h0 h1)
end Go.Proofs.YtdalcbhnnfabhaaDoor.F
namespace Go.Proofs.YtdalcbhnnfabhaaDoor.F
open Go.RowKit Go.Proofs.YtdalcbhnnfabhaaDoorW.PrintWords Go.Proofs.YtdalcbhnnfabhaaDoorW.PrintLast Go.Proofs.YtdalcbhnnfabhaaDoorW.PrintMore
attribute [local go_sem] max2_int min2_int max_two min_two max_three min_three max_four min_four
set_option linter.unusedVariables false
set_option linter.unusedSimpArgs false

/-! ### num_Take: function 27 -/
def num_Take.l0 : Nat → ByteArray → Int → Int → Int → Int → Option (Int × ByteArray × Int)
  | 0, _, _, _, _, _ => none
  | k + 1, x0, x1, x7, x18, x19 => if x19 < x18 then (if 0 ≤ x19 then (if x19 < (x0.size : Int) then (num_Take.l0 k x0 x1 (Go.bits .or .u64 (IntKind.u64.wrap (x7 * 256)) (IntKind.u64.wrap (bt x0 x19))) x18 (wrap64 (x19 + 1))) else (none)) else (none)) else (if 0 ≤ x1 then (if x1 ≤ (x0.size : Int) then (some (x7, x0.extract (x1 : Int).toNat x0.size, 0)) else (none)) else (none))
def num_Take.f (k : Nat) (a0 : ByteArray) (a1 : Int) : Option (Int × ByteArray × Int) := (num_width.f a1).bind fun t135 => (if t135 = true then (if (a0.size : Int) < a1 then (some (0, (⟨#[]⟩ : ByteArray), 2)) else (num_Take.l0 k a0 a1 0 a1 0)) else (some (0, (⟨#[]⟩ : ByteArray), 1)))
theorem num_Take.mono_l : ∀ k, (∀ y0 y1 y2 y3 y4, LeO (num_Take.l0 k y0 y1 y2 y3 y4) (num_Take.l0 (k + 1) y0 y1 y2 y3 y4))
  | 0 => fun _ _ _ _ _ r h => by simp [num_Take.l0] at h
  | k + 1 => by
    have ih0 := num_Take.mono_l k
    · intro y0 y1 y2 y3 y4
      unfold num_Take.l0
      repeat' first
      | (with_reducible exact ih0 _ _ _ _ _)
      | (with_reducible exact LeO.refl _)
      | (with_reducible exact LeO.none _)
      | (with_reducible refine LeO.ite ?_ ?_)
      | (with_reducible refine LeO.bind ?_ (fun _ => ?_))
      | exact ih0 _ _ _ _ _
      | exact LeO.none _
      | refine LeO.ite ?_ ?_
      | refine LeO.bind ?_ (fun _ => ?_)
theorem num_Take.mono : ∀ a0 a1 k, LeO (num_Take.f k a0 a1) (num_Take.f (k + 1) a0 a1) := by
  intro a0 a1 k
  have ih0 := num_Take.mono_l k
  unfold num_Take.f
  repeat' first
      | (with_reducible exact ih0 _ _ _ _ _)
      | (with_reducible exact LeO.refl _)
      | (with_reducible exact LeO.none _)
      | (with_reducible refine LeO.ite ?_ ?_)
      | (with_reducible refine LeO.bind ?_ (fun _ => ?_))
      | exact ih0 _ _ _ _ _
      | exact LeO.none _
      | refine LeO.ite ?_ ?_
      | refine LeO.bind ?_ (fun _ => ?_)
set_option maxHeartbeats 8000000 in
set_option maxRecDepth 100000 in
theorem num_Take.calls (k : Nat) (a0 : ByteArray) (a1 : Int) (r1 : Int) (r2 : ByteArray) (r3 : Int) (w : World) (hg : Laid w) (h : num_Take.f k a0 a1 = some (r1, r2, r3)) :
    Calls Tryd.prog 27 #[.string a0, .int .i64 a1] w fun e w' => e = .returned (.tuple #[.int .u64 r1, .string r2, .int .i64 r3]) ∧ Drawn0 w w' := by
  have HG := Aside0.mk hg
  clear hg
  have H : ((num_width.f a1).bind fun t135 => (if t135 = true then (if (a0.size : Int) < a1 then (some (0, (⟨#[]⟩ : ByteArray), 2)) else (num_Take.l0 k a0 a1 0 a1 0)) else (some (0, (⟨#[]⟩ : ByteArray), 1)))) = some (r1, r2, r3) := h
  clear h
  replace H := Option.bind_eq_some_iff.mp H
  obtain ⟨t135, A30, H⟩ := H
  replace H : (if t135 = true then (if (a0.size : Int) < a1 then (some (0, (⟨#[]⟩ : ByteArray), 2)) else (num_Take.l0 k a0 a1 0 a1 0)) else (some (0, (⟨#[]⟩ : ByteArray), 1))) = some (r1, r2, r3) := H
  have A3 := Aside0.mk A30
  clear A30
  by_cases c4 : t135 = true
  · subst c4
    have H1 : (if (a0.size : Int) < a1 then (some (0, (⟨#[]⟩ : ByteArray), 2)) else (num_Take.l0 k a0 a1 0 a1 0)) = some (r1, r2, r3) := by rw [if_pos rfl] at H; exact H
    clear H
    have H := H1
    clear H1
    by_cases c5 : (a0.size : Int) < a1
    · rw [if_pos c5] at H
      have c5b0 : decide ((a0.size : Int) < a1) = true := decide_eq_true c5
      clear c5
      simp only [Option.some.injEq, Prod.mk.injEq] at H
      obtain ⟨rfl, rfl, rfl⟩ := H
      go_enter Tryd.func27, Tryd.ntmps27
      go_wp2_with (first | (go_at_call 33; (with_reducible refine (num_width.calls a1 true _ ?lg A3.out).mono ?_); (case lg => exact (HG.out.drawn (by repeat (first | exact Drawn0.refl _ | apply Drawn0.step)))); rintro e w' ⟨rfl, ⟨nd, rfl⟩⟩; (try first | exact ⟨rfl, _, World.drewN_drewN _ _ _⟩ | exact ⟨rfl, _, Eq.trans (World.drewN_drewN _ _ _) (congrArg (World.drewN _) (Nat.add_assoc _ _ _))⟩)))
      repeat (go_quiet (first | (go_at_call 33; (with_reducible refine (num_width.calls a1 true _ ?lg A3.out).mono ?_); (case lg => exact (HG.out.drawn (by repeat (first | exact Drawn0.refl _ | apply Drawn0.step)))); rintro e w' ⟨rfl, ⟨nd, rfl⟩⟩; (try first | exact ⟨rfl, _, World.drewN_drewN _ _ _⟩ | exact ⟨rfl, _, Eq.trans (World.drewN_drewN _ _ _) (congrArg (World.drewN _) (Nat.add_assoc _ _ _))⟩))); try go_wp2_with (first | (go_at_call 33; (with_reducible refine (num_width.calls a1 true _ ?lg A3.out).mono ?_); (case lg => exact (HG.out.drawn (by repeat (first | exact Drawn0.refl _ | apply Drawn0.step)))); rintro e w' ⟨rfl, ⟨nd, rfl⟩⟩; (try first | exact ⟨rfl, _, World.drewN_drewN _ _ _⟩ | exact ⟨rfl, _, Eq.trans (World.drewN_drewN _ _ _) (congrArg (World.drewN _) (Nat.add_assoc _ _ _))⟩))))
      go_ret3
      exact ⟨by first | rfl | (simp; done) | (simp [*]; done), by repeat (first | exact Drawn0.refl _ | apply Drawn0.step)⟩
    · rw [if_neg c5] at H
      have c5b0 : decide ((a0.size : Int) < a1) = false := decide_eq_false c5
      clear c5
      have H' := Aside0.mk H
      clear H
      go_enter Tryd.func27, Tryd.ntmps27
      go_wp2_with (first | (go_at_call 33; (with_reducible refine (num_width.calls a1 true _ ?lg A3.out).mono ?_); (case lg => exact (HG.out.drawn (by repeat (first | exact Drawn0.refl _ | apply Drawn0.step)))); rintro e w' ⟨rfl, ⟨nd, rfl⟩⟩; (try first | exact ⟨rfl, _, World.drewN_drewN _ _ _⟩ | exact ⟨rfl, _, Eq.trans (World.drewN_drewN _ _ _) (congrArg (World.drewN _) (Nat.add_assoc _ _ _))⟩)))
      repeat (go_quiet (first | (go_at_call 33; (with_reducible refine (num_width.calls a1 true _ ?lg A3.out).mono ?_); (case lg => exact (HG.out.drawn (by repeat (first | exact Drawn0.refl _ | apply Drawn0.step)))); rintro e w' ⟨rfl, ⟨nd, rfl⟩⟩; (try first | exact ⟨rfl, _, World.drewN_drewN _ _ _⟩ | exact ⟨rfl, _, Eq.trans (World.drewN_drewN _ _ _) (congrArg (World.drewN _) (Nat.add_assoc _ _ _))⟩))); try go_wp2_with (first | (go_at_call 33; (with_reducible refine (num_width.calls a1 true _ ?lg A3.out).mono ?_); (case lg => exact (HG.out.drawn (by repeat (first | exact Drawn0.refl _ | apply Drawn0.step)))); rintro e w' ⟨rfl, ⟨nd, rfl⟩⟩; (try first | exact ⟨rfl, _, World.drewN_drewN _ _ _⟩ | exact ⟨rfl, _, Eq.trans (World.drewN_drewN _ _ _) (congrArg (World.drewN _) (Nat.add_assoc _ _ _))⟩))))
      go_loopg [7, 19] k (fun kq v7 v19 w' => ∃ (x7_1 : Int) (x19_1 : Int), v7 = .int .u64 x7_1 ∧ v19 = .int .i64 x19_1 ∧ Aside0 (num_Take.l0 kq a0 a1 x7_1 a1 x19_1 = some (r1, r2, r3)) ∧ Aside0 (kq ≤ k) ∧ Drawn0 w w')
      case atStart => exact ⟨(0), (0), (by first | rfl | (simp; done) | (simp [*]; done)), (by first | rfl | (simp; done) | (simp [*]; done)), H', ⟨Nat.le_refl _⟩, by repeat (first | exact Drawn0.refl _ | apply Drawn0.step)⟩
      case round =>
        clear H'
        try clear c2
        try clear p2
        try clear c4
        try clear c5
        try clear c5b0
        obtain ⟨x7_1, x19_1, rfl, rfl, HA, HK1, ⟨m1, rfl⟩⟩ := hrel
        cases gk with
        | zero => exact absurd HA.out (by simp [num_Take.l0])
        | succ k1 =>
          have H := HA.out
          clear HA
          simp only [num_Take.l0] at H
          by_cases c6 : x19_1 < a1
          · rw [if_pos c6] at H
            have c6b0 : decide (x19_1 < a1) = true := decide_eq_true c6
            clear c6
            by_cases c7 : 0 ≤ x19_1
            · rw [if_pos c7] at H
              have c7b0 : decide (0 ≤ x19_1) = true := decide_eq_true c7
              clear c7
              by_cases c8 : x19_1 < (a0.size : Int)
              · rw [if_pos c8] at H
                have c8b0 : decide (x19_1 < (a0.size : Int)) = true := decide_eq_true c8
                clear c8
                have H' := Aside0.mk H
                clear H
                have p9 : 0 ≤ (x19_1 : Int) := of_decide_eq_true (by first | (with_reducible assumption) | assumption)
                have q9 : x19_1 < (a0.size : Int) := of_decide_eq_true (by first | (with_reducible assumption) | assumption)
                have hx9 := bt_at a0 x19_1
                replace p9 := eq_true p9
                replace q9 := eq_true q9
                go_wp2
                repeat (go_quiet (fail); try go_wp2)
                go_roundg k1
                case measure => have := HK1.out; omega
                case rel => exact ⟨(Go.bits .or .u64 (IntKind.u64.wrap (x7_1 * 256)) (IntKind.u64.wrap (bt a0 x19_1))), (wrap64 (x19_1 + 1)), (by first | rfl | (simp; done) | (simp [*]; done)), (by first | rfl | (simp; done) | (simp [*]; done)), H', ⟨by have := HK1.out; omega⟩, by repeat (first | exact Drawn0.refl _ | apply Drawn0.step)⟩
              · rw [if_neg c8] at H
                exact absurd H (by simp)
            · rw [if_neg c7] at H
              exact absurd H (by simp)
          · rw [if_neg c6] at H
            have c6b0 : decide (x19_1 < a1) = false := decide_eq_false c6
            clear c6
            by_cases c10 : 0 ≤ a1
            · rw [if_pos c10] at H
              have c10b0 := eq_true c10
              have c10b1 : decide (0 ≤ a1) = true := decide_eq_true c10
              clear c10
              by_cases c11 : a1 ≤ (a0.size : Int)
              · rw [if_pos c11] at H
                have c11b0 := eq_true c11
                have c11b1 : decide (a1 ≤ (a0.size : Int)) = true := decide_eq_true c11
                clear c11
                simp only [Option.some.injEq, Prod.mk.injEq] at H
                obtain ⟨rfl, rfl, rfl⟩ := H
                go_wp2
                repeat (go_quiet (fail); try go_wp2)
                go_ret3
                exact ⟨by first | rfl | (simp; done) | (simp [*]; done), by repeat (first | exact Drawn0.refl _ | apply Drawn0.step)⟩
              · rw [if_neg c11] at H
                exact absurd H (by simp)
            · rw [if_neg c10] at H
              exact absurd H (by simp)
  · replace c4 := Bool.eq_false_iff.mpr c4
    subst c4
    have H1 : (some (0, (⟨#[]⟩ : ByteArray), 1)) = some (r1, r2, r3) := by rw [if_neg (show ¬ (false = true) by decide)] at H; exact H
    clear H
    have H := H1
    clear H1
    simp only [Option.some.injEq, Prod.mk.injEq] at H
    obtain ⟨rfl, rfl, rfl⟩ := H
    go_enter Tryd.func27, Tryd.ntmps27
    go_wp2_with (first | (go_at_call 33; (with_reducible refine (num_width.calls a1 false _ ?lg A3.out).mono ?_); (case lg => exact (HG.out.drawn (by repeat (first | exact Drawn0.refl _ | apply Drawn0.step)))); rintro e w' ⟨rfl, ⟨nd, rfl⟩⟩; (try first | exact ⟨rfl, _, World.drewN_drewN _ _ _⟩ | exact ⟨rfl, _, Eq.trans (World.drewN_drewN _ _ _) (congrArg (World.drewN _) (Nat.add_assoc _ _ _))⟩)))
    repeat (go_quiet (first | (go_at_call 33; (with_reducible refine (num_width.calls a1 false _ ?lg A3.out).mono ?_); (case lg => exact (HG.out.drawn (by repeat (first | exact Drawn0.refl _ | apply Drawn0.step)))); rintro e w' ⟨rfl, ⟨nd, rfl⟩⟩; (try first | exact ⟨rfl, _, World.drewN_drewN _ _ _⟩ | exact ⟨rfl, _, Eq.trans (World.drewN_drewN _ _ _) (congrArg (World.drewN _) (Nat.add_assoc _ _ _))⟩))); try go_wp2_with (first | (go_at_call 33; (with_reducible refine (num_width.calls a1 false _ ?lg A3.out).mono ?_); (case lg => exact (HG.out.drawn (by repeat (first | exact Drawn0.refl _ | apply Drawn0.step)))); rintro e w' ⟨rfl, ⟨nd, rfl⟩⟩; (try first | exact ⟨rfl, _, World.drewN_drewN _ _ _⟩ | exact ⟨rfl, _, Eq.trans (World.drewN_drewN _ _ _) (congrArg (World.drewN _) (Nat.add_assoc _ _ _))⟩))))
    go_ret3
    exact ⟨by first | rfl | (simp; done) | (simp [*]; done), by repeat (first | exact Drawn0.refl _ | apply Drawn0.step)⟩


end Go.Proofs.YtdalcbhnnfabhaaDoor.F
namespace Go.Proofs.YtdalcbhnnfabhaaDoor.F
open Go.RowKit Go.Proofs.YtdalcbhnnfabhaaDoorW.PrintWords Go.Proofs.YtdalcbhnnfabhaaDoorW.PrintLast Go.Proofs.YtdalcbhnnfabhaaDoorW.PrintMore
set_option linter.unusedVariables false
set_option linter.unusedSimpArgs false

theorem bt_get (s : ByteArray) (i : Nat) (h : i < s.size) : bt s (i : Int) = ((s.data.toList[i]'(by simpa using h)).toNat : Int) := by
  unfold bt
  simp [h]
  rfl
theorem take_succ_num (s : ByteArray) (i : Nat) (h : i < s.size) : beNum (s.data.toList.take (i + 1)) = beNum (s.data.toList.take i) * 256 + (s.data.toList[i]'(by simpa using h)).toNat := by
  rw [List.take_succ_eq_append_getElem (by simpa using h), beNum_snoc]
theorem or_byte (x b : Nat) (hx : x < 72057594037927936) (hb : b < 256) : Go.bits .or .u64 (IntKind.u64.wrap ((x : Int) * 256)) (IntKind.u64.wrap (b : Int)) = ((x * 256 + b : Nat) : Int) := by
  rw [wrapU (by omega) (by omega), wrapU (by omega) (by omega)]
  have e : (x : Int) * 256 = ((x * 256 : Nat) : Int) := by omega
  rw [e, bits_or_u64_nat _ _ (by omega) (by omega)]
  have h : x * 256 ||| b = x * 256 + b := by
    have := Nat.two_pow_add_eq_or_of_lt (i := 8) (b := b) (by omega) x
    have e8 : 2 ^ 8 * x = x * 256 := by omega
    rw [e8] at this
    exact this.symm
  rw [h]
theorem take_loop (s : ByteArray) (n : Nat) (hn : n ≤ 8) (hs : n ≤ s.size) (d : Nat) : ∀ (k i : Nat), n = i + d → d < k →
    num_Take.l0 k s n ((beNum (s.data.toList.take i) : Nat) : Int) n i = some (((beNum (s.data.toList.take n) : Nat) : Int), s.extract n s.size, 0) := by
  induction d with
  | zero =>
    intro k i hi hk
    obtain ⟨k, rfl⟩ : ∃ m, k = m + 1 := ⟨k - 1, by omega⟩
    obtain rfl : n = i := by omega
    simp only [num_Take.l0]
    rw [if_neg (by omega), if_pos (by omega), if_pos (by omega)]
    simp
  | succ d ih =>
    intro k i hi hk
    obtain ⟨k, rfl⟩ : ∃ m, k = m + 1 := ⟨k - 1, by omega⟩
    simp only [num_Take.l0]
    rw [if_pos (by omega), if_pos (by omega), if_pos (by omega), bt_get s i (by omega)]
    have hx : beNum (s.data.toList.take i) < 72057594037927936 := by
      have h1 := beNum_lt (s.data.toList.take i)
      have h2 : (s.data.toList.take i).length ≤ 7 := by rw [List.length_take]; omega
      have h3 : 256 ^ (s.data.toList.take i).length ≤ 256 ^ 7 := Nat.pow_le_pow_right (by decide) h2
      omega
    rw [or_byte _ _ hx (UInt8.toNat_lt _), ← take_succ_num s i (by omega)]
    have e3 : wrap64 ((i : Int) + 1) = ((i + 1 : Nat) : Int) := by rw [wrap64_of (by omega) (by omega)]; omega
    rw [e3]
    exact ih k (i + 1) (by omega) (by omega)
theorem take_at (s : ByteArray) (n : Int) : num_Take.f 10 s n = some (takeR s n) := by
  unfold num_Take.f takeR
  rw [width_isW]
  simp only [Option.bind_some]
  by_cases hw : isW n
  · simp only [hw, decide_true, if_true]
    by_cases hl : (s.size : Int) < n
    · rw [if_pos hl, if_pos hl]
    · rw [if_neg hl, if_neg hl]
      obtain ⟨m, rfl⟩ : ∃ m : Nat, n = m := ⟨n.toNat, by rcases hw with h | h | h | h <;> omega⟩
      have hm : m ≤ 8 := by rcases hw with h | h | h | h <;> omega
      have := take_loop s m hm (by omega) m 10 0 (by omega) (by omega)
      simpa [beNum] using this
  · simp [hw]
theorem take_ev (s : ByteArray) (n : Int) : Ev (fun k => num_Take.f k s n) (takeR s n) := Ev.of (num_Take.mono s n) (take_at s n)
theorem take_k {k : Nat} (hk : 12 ≤ k) (s : ByteArray) (n : Int) : num_Take.f k s n = some (takeR s n) := at_rounds (num_Take.mono s n) (Nat.le_trans (by decide) hk) (take_at s n)
end Go.Proofs.YtdalcbhnnfabhaaDoor.F
namespace Go.Proofs.YtdalcbhnnfabhaaDoor.F
open Go.RowKit Go.Proofs.YtdalcbhnnfabhaaDoorW.PrintWords Go.Proofs.YtdalcbhnnfabhaaDoorW.PrintLast Go.Proofs.YtdalcbhnnfabhaaDoorW.PrintMore
set_option linter.unusedVariables false
set_option linter.unusedSimpArgs false

def frame_kind.f (a0 : Int) : Option Bool := some (decide (a0 = 1) || decide (a0 = 2) || decide (a0 = 3) || decide (a0 = 8))
theorem frame_kind.calls (a0 : Int) (r : Bool) (w : World) (hg : Laid w) (h : frame_kind.f a0 = some r) :
    Calls Tryd.prog 26 #[.int .i64 a0] w fun e w' => e = .returned (.bool r) ∧ Drawn0 w w' := by
  obtain ⟨_, _, _, _, k0, k1, k2, k3, k4, k5, k6, k7, k8⟩ := hg
  have h' := Option.some.inj h
  clear h
  by_cases hn : a0 < 0
  · have hr : r = false := by rw [← h']; simp; omega
    subst hr
    clear h'
    have d0 : decide (0 ≤ a0) = false := decide_eq_false (by omega)
    go_enter Tryd.func26, Tryd.ntmps26
    go_wp2
    go_ret
    exact ⟨rfl, Drawn0.refl _⟩
  by_cases hm : 8 < a0
  · have hr : r = false := by rw [← h']; simp; omega
    subst hr
    clear h'
    have d0 : decide (0 ≤ a0) = true := decide_eq_true (by omega)
    have d1 : decide (a0 < 9) = false := decide_eq_false (by omega)
    go_enter Tryd.func26, Tryd.ntmps26
    go_wp2
    go_ret
    exact ⟨rfl, Drawn0.refl _⟩
  have hc : a0 = 0 ∨ a0 = 1 ∨ a0 = 2 ∨ a0 = 3 ∨ a0 = 4 ∨ a0 = 5 ∨ a0 = 6 ∨ a0 = 7 ∨ a0 = 8 := by omega
  clear hn hm
  rcases hc with rfl | rfl | rfl | rfl | rfl | rfl | rfl | rfl | rfl
  all_goals subst h'
  all_goals
    go_enter Tryd.func26, Tryd.ntmps26
    go_wp2
    go_ret
    exact ⟨by simp, Drawn0.refl _⟩
end Go.Proofs.YtdalcbhnnfabhaaDoor.F
namespace Go.Proofs.YtdalcbhnnfabhaaDoor.F
open Go.RowKit Go.Proofs.YtdalcbhnnfabhaaDoorW.PrintWords Go.Proofs.YtdalcbhnnfabhaaDoorW.PrintLast Go.Proofs.YtdalcbhnnfabhaaDoorW.PrintMore
attribute [local go_sem] max2_int min2_int max_two min_two max_three min_three max_four min_four
set_option linter.unusedVariables false
set_option linter.unusedSimpArgs false

/-! ### frame_Right: function 15 -/
def frame_Right.j0 : Nat → Bool → Int → Int → ByteArray → Option (Bool)
  | 0, _, _, _, _ => none
  | k + 1, x3, x102000, x102001, x102002 => if x3 = true then (some false) else (if x102000 = 3 then (if x102002.toList = ([] : List UInt8) then (some false) else ((frame_kind.f x102000).bind fun t102 => (if t102 = true then (if x102001 ≥ 0 then (if x102001 ≤ 65535 then (some (decide ((x102002.size : Int) ≤ 131072))) else (some false)) else (some false)) else (some false)))) else ((frame_kind.f x102000).bind fun t103 => (if t103 = true then (if x102001 ≥ 0 then (if x102001 ≤ 65535 then (some (decide ((x102002.size : Int) ≤ 131072))) else (some false)) else (some false)) else (some false))))
def frame_Right.f (k : Nat) (a0_0 : Int) (a0_1 : Int) (a0_2 : ByteArray) : Option (Bool) := if a0_0 = 8 then (if a0_2.toList = ([] : List UInt8) then (frame_Right.j0 k (a0_1 != 0) a0_0 a0_1 a0_2) else (frame_Right.j0 k true a0_0 a0_1 a0_2)) else (frame_Right.j0 k false a0_0 a0_1 a0_2)
theorem frame_Right.mono_l : ∀ k, (∀ y0 y1 y2 y3, LeO (frame_Right.j0 k y0 y1 y2 y3) (frame_Right.j0 (k + 1) y0 y1 y2 y3))
  | 0 => fun _ _ _ _ r h => by simp [frame_Right.j0] at h
  | k + 1 => by
    have ih0 := frame_Right.mono_l k
    · intro y0 y1 y2 y3
      unfold frame_Right.j0
      repeat' first
      | (with_reducible exact ih0 _ _ _ _)
      | (with_reducible exact LeO.refl _)
      | (with_reducible exact LeO.none _)
      | (with_reducible refine LeO.ite ?_ ?_)
      | (with_reducible refine LeO.bind ?_ (fun _ => ?_))
      | exact ih0 _ _ _ _
      | exact LeO.none _
      | refine LeO.ite ?_ ?_
      | refine LeO.bind ?_ (fun _ => ?_)
theorem frame_Right.mono : ∀ a0 a1 a2 k, LeO (frame_Right.f k a0 a1 a2) (frame_Right.f (k + 1) a0 a1 a2) := by
  intro a0 a1 a2 k
  have ih0 := frame_Right.mono_l k
  unfold frame_Right.f
  repeat' first
      | (with_reducible exact ih0 _ _ _ _)
      | (with_reducible exact LeO.refl _)
      | (with_reducible exact LeO.none _)
      | (with_reducible refine LeO.ite ?_ ?_)
      | (with_reducible refine LeO.bind ?_ (fun _ => ?_))
      | exact ih0 _ _ _ _
      | exact LeO.none _
      | refine LeO.ite ?_ ?_
      | refine LeO.bind ?_ (fun _ => ?_)
set_option maxHeartbeats 8000000 in
set_option maxRecDepth 100000 in
theorem frame_Right.calls (k : Nat) (a0_0 : Int) (a0_1 : Int) (a0_2 : ByteArray) (r : Bool) (w : World) (hg : Laid w) (h : frame_Right.f k a0_0 a0_1 a0_2 = some r) :
    Calls Tryd.prog 15 #[.agg #[.int .i64 a0_0, .int .i64 a0_1, .string a0_2]] w fun e w' => e = .returned (.bool r) ∧ Below w.heap.size w w' := by
  have HG := Aside0.mk hg
  clear hg
  have hu29 := Tryd.underlying29
  have HB := Aside0.mk (Below.refl w.heap.size w)
  have H : (if a0_0 = 8 then (if a0_2.toList = ([] : List UInt8) then (frame_Right.j0 k (a0_1 != 0) a0_0 a0_1 a0_2) else (frame_Right.j0 k true a0_0 a0_1 a0_2)) else (frame_Right.j0 k false a0_0 a0_1 a0_2)) = some r := h
  clear h
  have HC2 := Aside0.mk H
  clear H
  go_enter Tryd.func15, Tryd.ntmps15
  go_upto_region 1 with (first | ((with_reducible refine gate_dst (N := 1) rfl ?_); refine box_event ?hg (N := 1) ?hd (cs := #[.int .i64 a0_0, .int .i64 a0_1, .string a0_2]) (t := 29) ?hr ?_; (case hd => rfl); (case hg => rfl); (case hr => first | (go_simp; done) | (go_simp; rfl)); intro gb101 hg w3 hbox hb; have n0_ := Aside0.mk (below_step (by repeat (first | (with_reducible first | exact HB.out | apply below_alloc | apply pw_below_drewN | apply below_drew1) | exact HB.out)) hb); have n1_ := Aside0.mk (hbox); have n2_ := Aside0.mk ((by rw [hg]; exact (below_size (by repeat (first | (with_reducible first | exact HB.out | apply below_alloc | apply pw_below_drewN | apply below_drew1) | exact HB.out))) : w.heap.size ≤ gb101)); have n3_ := Aside0.mk ((by rw [hg]; exact (below_size (by repeat (first | (with_reducible first | exact HB.out | apply below_alloc | apply pw_below_drewN | apply below_drew1) | exact HB.out))) : w.heap.size ≤ gb101)); clear HB; have HB := n0_; have BK101 := n1_; have GW101 := n2_; have GE101 := n3_; clear n0_ n1_ n2_ n3_; clear hb hbox hg))
  (try simp only [Act.put, List.setIfInBounds_toArray, List.set_cons_zero, List.set_cons_succ])
  go_cut [3] (fun v3 wc => ∃ (kq : Nat) (x3_1 : Bool), v3 = .bool x3_1 ∧ Aside0 (frame_Right.j0 kq x3_1 a0_0 a0_1 a0_2 = some r) ∧ Aside0 (kq ≤ k) ∧ Aside0 (wc.heap[gb101]? = some (.cells #[.int .i64 a0_0, .int .i64 a0_1, .string a0_2] 29 (0, 0))) ∧ Aside0 (Below w.heap.size w wc))
  case first =>
    have H := HC2.out
    clear HC2
    by_cases c4 : a0_0 = 8
    · rw [if_pos c4] at H
      have c4b0 : (a0_0 == 8) = true := beq_iff_eq.mpr c4
      have c4b1 : (a0_0 != 8) = false := bne_eq_false_iff_eq.mpr c4
      clear c4
      (first | rw [c4b0] | (simp only [i64_w, i32_w]; rw [c4b0]) | skip)
      by_cases c5 : a0_2.toList = ([] : List UInt8)
      · rw [if_pos c5] at H
        have c5b0 : (a0_2.toList == ([] : List UInt8)) = true := beq_iff_eq.mpr c5
        have c5b1 : (a0_2.toList != ([] : List UInt8)) = false := bne_eq_false_iff_eq.mpr c5
        clear c5
        have H' := Aside0.mk H
        clear H
        have hcz6_0 : w3.cell? ⟨gb101, 0, none⟩ = some (.int .i64 a0_0) := (blk_cell BK101.out 0).trans rfl
        have hcz6_1 : w3.cell? ⟨gb101, 1, none⟩ = some (.int .i64 a0_1) := (blk_cell BK101.out 1).trans rfl
        have hcz6_2 : w3.cell? ⟨gb101, 2, none⟩ = some (.string a0_2) := (blk_cell BK101.out 2).trans rfl
        have hfz6_0 := blk_frozen BK101.out 0
        have hfz6_1 := blk_frozen BK101.out 1
        have hfz6_2 := blk_frozen BK101.out 2
        go_wp2
        go_meet
        case rel => exact ⟨_, ((a0_1 != 0)), (by first | rfl | (simp; done) | (simp [*]; done)), H', ⟨by first | omega | exact Nat.le_refl _⟩, ⟨by (with_reducible repeat (first | refine blk_drewN ?_ _ | refine blk_drew ?_ | refine blk_alloc ?_ _)); exact BK101.out⟩, ⟨by repeat (first | (with_reducible first | exact HB.out | apply below_alloc | apply pw_below_drewN | apply below_drew1 | refine below_set ?_ GE101.out) | exact HB.out)⟩⟩
      · rw [if_neg c5] at H
        have c5b0 : (a0_2.toList == ([] : List UInt8)) = false := beq_eq_false_iff_ne.mpr c5
        have c5b1 : (a0_2.toList != ([] : List UInt8)) = true := bne_iff_ne.mpr c5
        have H' := Aside0.mk H
        clear H
        have hcz7_0 : w3.cell? ⟨gb101, 0, none⟩ = some (.int .i64 a0_0) := (blk_cell BK101.out 0).trans rfl
        have hcz7_1 : w3.cell? ⟨gb101, 1, none⟩ = some (.int .i64 a0_1) := (blk_cell BK101.out 1).trans rfl
        have hcz7_2 : w3.cell? ⟨gb101, 2, none⟩ = some (.string a0_2) := (blk_cell BK101.out 2).trans rfl
        have hfz7_0 := blk_frozen BK101.out 0
        have hfz7_1 := blk_frozen BK101.out 1
        have hfz7_2 := blk_frozen BK101.out 2
        go_wp2
        go_meet
        case rel => exact ⟨_, (true), (by first | rfl | (simp; done) | (simp [*]; done)), H', ⟨by first | omega | exact Nat.le_refl _⟩, ⟨by (with_reducible repeat (first | refine blk_drewN ?_ _ | refine blk_drew ?_ | refine blk_alloc ?_ _)); exact BK101.out⟩, ⟨by repeat (first | (with_reducible first | exact HB.out | apply below_alloc | apply pw_below_drewN | apply below_drew1 | refine below_set ?_ GE101.out) | exact HB.out)⟩⟩
    · rw [if_neg c4] at H
      have c4b0 : (a0_0 == 8) = false := beq_eq_false_iff_ne.mpr c4
      have c4b1 : (a0_0 != 8) = true := bne_iff_ne.mpr c4
      (first | rw [c4b0] | (simp only [i64_w, i32_w]; rw [c4b0]) | skip)
      have H' := Aside0.mk H
      clear H
      have hcz8_0 : w3.cell? ⟨gb101, 0, none⟩ = some (.int .i64 a0_0) := (blk_cell BK101.out 0).trans rfl
      have hcz8_1 : w3.cell? ⟨gb101, 1, none⟩ = some (.int .i64 a0_1) := (blk_cell BK101.out 1).trans rfl
      have hcz8_2 : w3.cell? ⟨gb101, 2, none⟩ = some (.string a0_2) := (blk_cell BK101.out 2).trans rfl
      have hfz8_0 := blk_frozen BK101.out 0
      have hfz8_1 := blk_frozen BK101.out 1
      have hfz8_2 := blk_frozen BK101.out 2
      go_wp2
      go_meet
      case rel => exact ⟨_, (false), (by first | rfl | (simp; done) | (simp [*]; done)), H', ⟨by first | omega | exact Nat.le_refl _⟩, ⟨by (with_reducible repeat (first | refine blk_drewN ?_ _ | refine blk_drew ?_ | refine blk_alloc ?_ _)); exact BK101.out⟩, ⟨by repeat (first | (with_reducible first | exact HB.out | apply below_alloc | apply pw_below_drewN | apply below_drew1 | refine below_set ?_ GE101.out) | exact HB.out)⟩⟩
  case rest =>
    clear HC2
    try clear c1
    try clear p2
    try clear c4
    try clear c4b0
    try clear c4b1
    try clear c5
    try clear c5b0
    try clear c5b1
    try clear hcz6_0
    try clear hcz6_1
    try clear hcz6_2
    try clear hcz7_0
    try clear hcz7_1
    try clear hcz7_2
    try clear hcz8_0
    try clear hcz8_1
    try clear hcz8_2
    try clear hfz6_0
    try clear hfz6_1
    try clear hfz6_2
    try clear hfz7_0
    try clear hfz7_1
    try clear hfz7_2
    try clear hfz8_0
    try clear hfz8_1
    try clear hfz8_2
    obtain ⟨kq, x3_1, rfl, HA, HJ1, BK101, HB⟩ := hcut
    cases kq with
    | zero => exact absurd HA.out (by simp [frame_Right.j0])
    | succ kj1 =>
      have H := HA.out
      clear HA
      simp only [frame_Right.j0] at H
      by_cases c9 : x3_1 = true
      · subst c9
        have H1 : (some false) = some r := by rw [if_pos rfl] at H; exact H
        clear H
        have H := H1
        clear H1
        obtain rfl := Option.some.inj H
        go_wp2
        go_ret
        exact ⟨by first | rfl | (simp [errW_none, errW_some] <;> rfl) | (simp [*, errW_none, errW_some] <;> rfl), by repeat (first | (with_reducible first | exact HB.out | apply below_alloc | apply pw_below_drewN | apply below_drew1 | refine below_set ?_ GE101.out) | exact HB.out)⟩
      · replace c9 := Bool.eq_false_iff.mpr c9
        subst c9
        have H1 : (if a0_0 = 3 then (if a0_2.toList = ([] : List UInt8) then (some false) else ((frame_kind.f a0_0).bind fun t102 => (if t102 = true then (if a0_1 ≥ 0 then (if a0_1 ≤ 65535 then (some (decide ((a0_2.size : Int) ≤ 131072))) else (some false)) else (some false)) else (some false)))) else ((frame_kind.f a0_0).bind fun t103 => (if t103 = true then (if a0_1 ≥ 0 then (if a0_1 ≤ 65535 then (some (decide ((a0_2.size : Int) ≤ 131072))) else (some false)) else (some false)) else (some false)))) = some r := by rw [if_neg (show ¬ (false = true) by decide)] at H; exact H
        clear H
        have H := H1
        clear H1
        by_cases c10 : a0_0 = 3
        · rw [if_pos c10] at H
          have c10b0 : (a0_0 == 3) = true := beq_iff_eq.mpr c10
          have c10b1 : (a0_0 != 3) = false := bne_eq_false_iff_eq.mpr c10
          clear c10
          by_cases c11 : a0_2.toList = ([] : List UInt8)
          · rw [if_pos c11] at H
            have c11b0 : (a0_2.toList == ([] : List UInt8)) = true := beq_iff_eq.mpr c11
            have c11b1 : (a0_2.toList != ([] : List UInt8)) = false := bne_eq_false_iff_eq.mpr c11
            clear c11
            obtain rfl := Option.some.inj H
            have hcz12_0 : wc.cell? ⟨gb101, 0, none⟩ = some (.int .i64 a0_0) := (blk_cell BK101.out 0).trans rfl
            have hcz12_1 : wc.cell? ⟨gb101, 1, none⟩ = some (.int .i64 a0_1) := (blk_cell BK101.out 1).trans rfl
            have hcz12_2 : wc.cell? ⟨gb101, 2, none⟩ = some (.string a0_2) := (blk_cell BK101.out 2).trans rfl
            have hfz12_0 := blk_frozen BK101.out 0
            have hfz12_1 := blk_frozen BK101.out 1
            have hfz12_2 := blk_frozen BK101.out 2
            go_wp2
            go_ret
            exact ⟨by first | rfl | (simp [errW_none, errW_some] <;> rfl) | (simp [*, errW_none, errW_some] <;> rfl), by repeat (first | (with_reducible first | exact HB.out | apply below_alloc | apply pw_below_drewN | apply below_drew1 | refine below_set ?_ GE101.out) | exact HB.out)⟩
          · rw [if_neg c11] at H
            have c11b0 : (a0_2.toList == ([] : List UInt8)) = false := beq_eq_false_iff_ne.mpr c11
            have c11b1 : (a0_2.toList != ([] : List UInt8)) = true := bne_iff_ne.mpr c11
            replace H := Option.bind_eq_some_iff.mp H
            obtain ⟨t102, A130, H⟩ := H
            replace H : (if t102 = true then (if a0_1 ≥ 0 then (if a0_1 ≤ 65535 then (some (decide ((a0_2.size : Int) ≤ 131072))) else (some false)) else (some false)) else (some false)) = some r := H
            have A13 := Aside0.mk A130
            clear A130
            by_cases c14 : t102 = true
            · subst c14
              have H1 : (if a0_1 ≥ 0 then (if a0_1 ≤ 65535 then (some (decide ((a0_2.size : Int) ≤ 131072))) else (some false)) else (some false)) = some r := by rw [if_pos rfl] at H; exact H
              clear H
              have H := H1
              clear H1
              by_cases c15 : a0_1 ≥ 0
              · rw [if_pos c15] at H
                have c15b0 : decide (0 ≤ a0_1) = true := decide_eq_true c15
                clear c15
                by_cases c16 : a0_1 ≤ 65535
                · rw [if_pos c16] at H
                  have c16b0 : decide (a0_1 ≤ 65535) = true := decide_eq_true c16
                  clear c16
                  obtain rfl := Option.some.inj H
                  have hcz17_0 : wc.cell? ⟨gb101, 0, none⟩ = some (.int .i64 a0_0) := (blk_cell BK101.out 0).trans rfl
                  have hcz17_1 : wc.cell? ⟨gb101, 1, none⟩ = some (.int .i64 a0_1) := (blk_cell BK101.out 1).trans rfl
                  have hcz17_2 : wc.cell? ⟨gb101, 2, none⟩ = some (.string a0_2) := (blk_cell BK101.out 2).trans rfl
                  have hfz17_0 := blk_frozen BK101.out 0
                  have hfz17_1 := blk_frozen BK101.out 1
                  have hfz17_2 := blk_frozen BK101.out 2
                  go_wp2_with (first | ((with_reducible refine gate_callee (f := 26) rfl ?_); refine goesL_ (some 28) rfl rfl Tryd.func26 (by kernel_rfl) rfl #[.int .i64 a0_0] rfl (by (try simp only [List.map_toArray, List.map_cons, List.map_nil]); first | done | rfl | (simp only [List.length_drop, List.length_take]; rfl)) ?_; (with_reducible refine (frame_kind.calls a0_0 true _ ?lg A13.out).mono ?_); (case lg => exact (HG.out.below (by repeat (first | (with_reducible first | exact HB.out | apply below_alloc | apply pw_below_drewN | apply below_drew1) | exact HB.out)))); rintro e w' ⟨rfl, ⟨nd, rfl⟩⟩; refine ⟨_, rfl, ?_⟩))
                  go_ret
                  exact ⟨by first | rfl | (simp [errW_none, errW_some] <;> rfl) | (simp [*, errW_none, errW_some] <;> rfl), by repeat (first | (with_reducible first | exact HB.out | apply below_alloc | apply pw_below_drewN | apply below_drew1 | refine below_set ?_ GE101.out) | exact HB.out)⟩
                · rw [if_neg c16] at H
                  have c16b0 : decide (a0_1 ≤ 65535) = false := decide_eq_false c16
                  clear c16
                  obtain rfl := Option.some.inj H
                  have hcz18_0 : wc.cell? ⟨gb101, 0, none⟩ = some (.int .i64 a0_0) := (blk_cell BK101.out 0).trans rfl
                  have hcz18_1 : wc.cell? ⟨gb101, 1, none⟩ = some (.int .i64 a0_1) := (blk_cell BK101.out 1).trans rfl
                  have hcz18_2 : wc.cell? ⟨gb101, 2, none⟩ = some (.string a0_2) := (blk_cell BK101.out 2).trans rfl
                  have hfz18_0 := blk_frozen BK101.out 0
                  have hfz18_1 := blk_frozen BK101.out 1
                  have hfz18_2 := blk_frozen BK101.out 2
                  go_wp2_with (first | ((with_reducible refine gate_callee (f := 26) rfl ?_); refine goesL_ (some 28) rfl rfl Tryd.func26 (by kernel_rfl) rfl #[.int .i64 a0_0] rfl (by (try simp only [List.map_toArray, List.map_cons, List.map_nil]); first | done | rfl | (simp only [List.length_drop, List.length_take]; rfl)) ?_; (with_reducible refine (frame_kind.calls a0_0 true _ ?lg A13.out).mono ?_); (case lg => exact (HG.out.below (by repeat (first | (with_reducible first | exact HB.out | apply below_alloc | apply pw_below_drewN | apply below_drew1) | exact HB.out)))); rintro e w' ⟨rfl, ⟨nd, rfl⟩⟩; refine ⟨_, rfl, ?_⟩))
                  go_ret
                  exact ⟨by first | rfl | (simp [errW_none, errW_some] <;> rfl) | (simp [*, errW_none, errW_some] <;> rfl), by repeat (first | (with_reducible first | exact HB.out | apply below_alloc | apply pw_below_drewN | apply below_drew1 | refine below_set ?_ GE101.out) | exact HB.out)⟩
              · rw [if_neg c15] at H
                have c15b0 : decide (0 ≤ a0_1) = false := decide_eq_false c15
                clear c15
                obtain rfl := Option.some.inj H
                have hcz19_0 : wc.cell? ⟨gb101, 0, none⟩ = some (.int .i64 a0_0) := (blk_cell BK101.out 0).trans rfl
                have hcz19_1 : wc.cell? ⟨gb101, 1, none⟩ = some (.int .i64 a0_1) := (blk_cell BK101.out 1).trans rfl
                have hcz19_2 : wc.cell? ⟨gb101, 2, none⟩ = some (.string a0_2) := (blk_cell BK101.out 2).trans rfl
                have hfz19_0 := blk_frozen BK101.out 0
                have hfz19_1 := blk_frozen BK101.out 1
                have hfz19_2 := blk_frozen BK101.out 2
                go_wp2_with (first | ((with_reducible refine gate_callee (f := 26) rfl ?_); refine goesL_ (some 28) rfl rfl Tryd.func26 (by kernel_rfl) rfl #[.int .i64 a0_0] rfl (by (try simp only [List.map_toArray, List.map_cons, List.map_nil]); first | done | rfl | (simp only [List.length_drop, List.length_take]; rfl)) ?_; (with_reducible refine (frame_kind.calls a0_0 true _ ?lg A13.out).mono ?_); (case lg => exact (HG.out.below (by repeat (first | (with_reducible first | exact HB.out | apply below_alloc | apply pw_below_drewN | apply below_drew1) | exact HB.out)))); rintro e w' ⟨rfl, ⟨nd, rfl⟩⟩; refine ⟨_, rfl, ?_⟩))
                go_ret
                exact ⟨by first | rfl | (simp [errW_none, errW_some] <;> rfl) | (simp [*, errW_none, errW_some] <;> rfl), by repeat (first | (with_reducible first | exact HB.out | apply below_alloc | apply pw_below_drewN | apply below_drew1 | refine below_set ?_ GE101.out) | exact HB.out)⟩
            · replace c14 := Bool.eq_false_iff.mpr c14
              subst c14
              have H1 : (some false) = some r := by rw [if_neg (show ¬ (false = true) by decide)] at H; exact H
              clear H
              have H := H1
              clear H1
              obtain rfl := Option.some.inj H
              have hcz20_0 : wc.cell? ⟨gb101, 0, none⟩ = some (.int .i64 a0_0) := (blk_cell BK101.out 0).trans rfl
              have hcz20_1 : wc.cell? ⟨gb101, 1, none⟩ = some (.int .i64 a0_1) := (blk_cell BK101.out 1).trans rfl
              have hcz20_2 : wc.cell? ⟨gb101, 2, none⟩ = some (.string a0_2) := (blk_cell BK101.out 2).trans rfl
              have hfz20_0 := blk_frozen BK101.out 0
              have hfz20_1 := blk_frozen BK101.out 1
              have hfz20_2 := blk_frozen BK101.out 2
              go_wp2_with (first | ((with_reducible refine gate_callee (f := 26) rfl ?_); refine goesL_ (some 28) rfl rfl Tryd.func26 (by kernel_rfl) rfl #[.int .i64 a0_0] rfl (by (try simp only [List.map_toArray, List.map_cons, List.map_nil]); first | done | rfl | (simp only [List.length_drop, List.length_take]; rfl)) ?_; (with_reducible refine (frame_kind.calls a0_0 false _ ?lg A13.out).mono ?_); (case lg => exact (HG.out.below (by repeat (first | (with_reducible first | exact HB.out | apply below_alloc | apply pw_below_drewN | apply below_drew1) | exact HB.out)))); rintro e w' ⟨rfl, ⟨nd, rfl⟩⟩; refine ⟨_, rfl, ?_⟩))
              go_ret
              exact ⟨by first | rfl | (simp [errW_none, errW_some] <;> rfl) | (simp [*, errW_none, errW_some] <;> rfl), by repeat (first | (with_reducible first | exact HB.out | apply below_alloc | apply pw_below_drewN | apply below_drew1 | refine below_set ?_ GE101.out) | exact HB.out)⟩
        · rw [if_neg c10] at H
          have c10b0 : (a0_0 == 3) = false := beq_eq_false_iff_ne.mpr c10
          have c10b1 : (a0_0 != 3) = true := bne_iff_ne.mpr c10
          replace H := Option.bind_eq_some_iff.mp H
          obtain ⟨t103, A210, H⟩ := H
          replace H : (if t103 = true then (if a0_1 ≥ 0 then (if a0_1 ≤ 65535 then (some (decide ((a0_2.size : Int) ≤ 131072))) else (some false)) else (some false)) else (some false)) = some r := H
          have A21 := Aside0.mk A210
          clear A210
          by_cases c22 : t103 = true
          · subst c22
            have H1 : (if a0_1 ≥ 0 then (if a0_1 ≤ 65535 then (some (decide ((a0_2.size : Int) ≤ 131072))) else (some false)) else (some false)) = some r := by rw [if_pos rfl] at H; exact H
            clear H
            have H := H1
            clear H1
            by_cases c23 : a0_1 ≥ 0
            · rw [if_pos c23] at H
              have c23b0 : decide (0 ≤ a0_1) = true := decide_eq_true c23
              clear c23
              by_cases c24 : a0_1 ≤ 65535
              · rw [if_pos c24] at H
                have c24b0 : decide (a0_1 ≤ 65535) = true := decide_eq_true c24
                clear c24
                obtain rfl := Option.some.inj H
                have hcz25_0 : wc.cell? ⟨gb101, 0, none⟩ = some (.int .i64 a0_0) := (blk_cell BK101.out 0).trans rfl
                have hcz25_1 : wc.cell? ⟨gb101, 1, none⟩ = some (.int .i64 a0_1) := (blk_cell BK101.out 1).trans rfl
                have hcz25_2 : wc.cell? ⟨gb101, 2, none⟩ = some (.string a0_2) := (blk_cell BK101.out 2).trans rfl
                have hfz25_0 := blk_frozen BK101.out 0
                have hfz25_1 := blk_frozen BK101.out 1
                have hfz25_2 := blk_frozen BK101.out 2
                go_wp2_with (first | ((with_reducible refine gate_callee (f := 26) rfl ?_); refine goesL_ (some 28) rfl rfl Tryd.func26 (by kernel_rfl) rfl #[.int .i64 a0_0] rfl (by (try simp only [List.map_toArray, List.map_cons, List.map_nil]); first | done | rfl | (simp only [List.length_drop, List.length_take]; rfl)) ?_; (with_reducible refine (frame_kind.calls a0_0 true _ ?lg A21.out).mono ?_); (case lg => exact (HG.out.below (by repeat (first | (with_reducible first | exact HB.out | apply below_alloc | apply pw_below_drewN | apply below_drew1) | exact HB.out)))); rintro e w' ⟨rfl, ⟨nd, rfl⟩⟩; refine ⟨_, rfl, ?_⟩))
                go_ret
                exact ⟨by first | rfl | (simp [errW_none, errW_some] <;> rfl) | (simp [*, errW_none, errW_some] <;> rfl), by repeat (first | (with_reducible first | exact HB.out | apply below_alloc | apply pw_below_drewN | apply below_drew1 | refine below_set ?_ GE101.out) | exact HB.out)⟩
              · rw [if_neg c24] at H
                have c24b0 : decide (a0_1 ≤ 65535) = false := decide_eq_false c24
                clear c24
                obtain rfl := Option.some.inj H
                have hcz26_0 : wc.cell? ⟨gb101, 0, none⟩ = some (.int .i64 a0_0) := (blk_cell BK101.out 0).trans rfl
                have hcz26_1 : wc.cell? ⟨gb101, 1, none⟩ = some (.int .i64 a0_1) := (blk_cell BK101.out 1).trans rfl
                have hcz26_2 : wc.cell? ⟨gb101, 2, none⟩ = some (.string a0_2) := (blk_cell BK101.out 2).trans rfl
                have hfz26_0 := blk_frozen BK101.out 0
                have hfz26_1 := blk_frozen BK101.out 1
                have hfz26_2 := blk_frozen BK101.out 2
                go_wp2_with (first | ((with_reducible refine gate_callee (f := 26) rfl ?_); refine goesL_ (some 28) rfl rfl Tryd.func26 (by kernel_rfl) rfl #[.int .i64 a0_0] rfl (by (try simp only [List.map_toArray, List.map_cons, List.map_nil]); first | done | rfl | (simp only [List.length_drop, List.length_take]; rfl)) ?_; (with_reducible refine (frame_kind.calls a0_0 true _ ?lg A21.out).mono ?_); (case lg => exact (HG.out.below (by repeat (first | (with_reducible first | exact HB.out | apply below_alloc | apply pw_below_drewN | apply below_drew1) | exact HB.out)))); rintro e w' ⟨rfl, ⟨nd, rfl⟩⟩; refine ⟨_, rfl, ?_⟩))
                go_ret
                exact ⟨by first | rfl | (simp [errW_none, errW_some] <;> rfl) | (simp [*, errW_none, errW_some] <;> rfl), by repeat (first | (with_reducible first | exact HB.out | apply below_alloc | apply pw_below_drewN | apply below_drew1 | refine below_set ?_ GE101.out) | exact HB.out)⟩
            · rw [if_neg c23] at H
              have c23b0 : decide (0 ≤ a0_1) = false := decide_eq_false c23
              clear c23
              obtain rfl := Option.some.inj H
              have hcz27_0 : wc.cell? ⟨gb101, 0, none⟩ = some (.int .i64 a0_0) := (blk_cell BK101.out 0).trans rfl
              have hcz27_1 : wc.cell? ⟨gb101, 1, none⟩ = some (.int .i64 a0_1) := (blk_cell BK101.out 1).trans rfl
              have hcz27_2 : wc.cell? ⟨gb101, 2, none⟩ = some (.string a0_2) := (blk_cell BK101.out 2).trans rfl
              have hfz27_0 := blk_frozen BK101.out 0
              have hfz27_1 := blk_frozen BK101.out 1
              have hfz27_2 := blk_frozen BK101.out 2
              go_wp2_with (first | ((with_reducible refine gate_callee (f := 26) rfl ?_); refine goesL_ (some 28) rfl rfl Tryd.func26 (by kernel_rfl) rfl #[.int .i64 a0_0] rfl (by (try simp only [List.map_toArray, List.map_cons, List.map_nil]); first | done | rfl | (simp only [List.length_drop, List.length_take]; rfl)) ?_; (with_reducible refine (frame_kind.calls a0_0 true _ ?lg A21.out).mono ?_); (case lg => exact (HG.out.below (by repeat (first | (with_reducible first | exact HB.out | apply below_alloc | apply pw_below_drewN | apply below_drew1) | exact HB.out)))); rintro e w' ⟨rfl, ⟨nd, rfl⟩⟩; refine ⟨_, rfl, ?_⟩))
              go_ret
              exact ⟨by first | rfl | (simp [errW_none, errW_some] <;> rfl) | (simp [*, errW_none, errW_some] <;> rfl), by repeat (first | (with_reducible first | exact HB.out | apply below_alloc | apply pw_below_drewN | apply below_drew1 | refine below_set ?_ GE101.out) | exact HB.out)⟩
          · replace c22 := Bool.eq_false_iff.mpr c22
            subst c22
            have H1 : (some false) = some r := by rw [if_neg (show ¬ (false = true) by decide)] at H; exact H
            clear H
            have H := H1
            clear H1
            obtain rfl := Option.some.inj H
            have hcz28_0 : wc.cell? ⟨gb101, 0, none⟩ = some (.int .i64 a0_0) := (blk_cell BK101.out 0).trans rfl
            have hcz28_1 : wc.cell? ⟨gb101, 1, none⟩ = some (.int .i64 a0_1) := (blk_cell BK101.out 1).trans rfl
            have hcz28_2 : wc.cell? ⟨gb101, 2, none⟩ = some (.string a0_2) := (blk_cell BK101.out 2).trans rfl
            have hfz28_0 := blk_frozen BK101.out 0
            have hfz28_1 := blk_frozen BK101.out 1
            have hfz28_2 := blk_frozen BK101.out 2
            go_wp2_with (first | ((with_reducible refine gate_callee (f := 26) rfl ?_); refine goesL_ (some 28) rfl rfl Tryd.func26 (by kernel_rfl) rfl #[.int .i64 a0_0] rfl (by (try simp only [List.map_toArray, List.map_cons, List.map_nil]); first | done | rfl | (simp only [List.length_drop, List.length_take]; rfl)) ?_; (with_reducible refine (frame_kind.calls a0_0 false _ ?lg A21.out).mono ?_); (case lg => exact (HG.out.below (by repeat (first | (with_reducible first | exact HB.out | apply below_alloc | apply pw_below_drewN | apply below_drew1) | exact HB.out)))); rintro e w' ⟨rfl, ⟨nd, rfl⟩⟩; refine ⟨_, rfl, ?_⟩))
            go_ret
            exact ⟨by first | rfl | (simp [errW_none, errW_some] <;> rfl) | (simp [*, errW_none, errW_some] <;> rfl), by repeat (first | (with_reducible first | exact HB.out | apply below_alloc | apply pw_below_drewN | apply below_drew1 | refine below_set ?_ GE101.out) | exact HB.out)⟩


end Go.Proofs.YtdalcbhnnfabhaaDoor.F
namespace Go.Proofs.YtdalcbhnnfabhaaDoor.F
open Go.RowKit Go.Proofs.YtdalcbhnnfabhaaDoorW.PrintWords Go.Proofs.YtdalcbhnnfabhaaDoorW.PrintLast Go.Proofs.YtdalcbhnnfabhaaDoorW.PrintMore
attribute [local go_sem] max2_int min2_int max_two min_two max_three min_three max_four min_four
set_option linter.unusedVariables false
set_option linter.unusedSimpArgs false

/-! ### frame_Bytes: function 13 -/
def frame_Bytes.f (k : Nat) (a0_0 : Int) (a0_1 : Int) (a0_2 : ByteArray) : Option (ByteArray × Int) := (frame_Right.f k a0_0 a0_1 a0_2).bind fun t112 => (if t112 = true then ((num_Put.f k 1 (IntKind.u64.wrap (a0_0))).bind fun bt113 => ((num_Put.f k 2 (IntKind.u64.wrap (a0_1))).bind fun bt115 => ((num_Put.f k 4 (IntKind.u64.wrap ((a0_2.size : Int)))).bind fun bt117 => (if bt113.1.size + bt115.1.size ≤ 9223372036854775807 then (if (bt113.1 ++ bt115.1).size + bt117.1.size ≤ 9223372036854775807 then (if ((bt113.1 ++ bt115.1) ++ bt117.1).size + a0_2.size ≤ 9223372036854775807 then ((some (([206] : List Int) : List Int)).bind fun y119 => (if (((bt113.1 ++ bt115.1) ++ bt117.1) ++ a0_2).size + (strOfNums y119).size ≤ 9223372036854775807 then (some ((((bt113.1 ++ bt115.1) ++ bt117.1) ++ a0_2) ++ (strOfNums y119), 0)) else (none))) else (none)) else (none)) else (none))))) else (some ((⟨#[]⟩ : ByteArray), 1)))
theorem frame_Bytes.mono : ∀ a0 a1 a2 k, LeO (frame_Bytes.f k a0 a1 a2) (frame_Bytes.f (k + 1) a0 a1 a2) := by
  intro a0 a1 a2 k
  unfold frame_Bytes.f
  repeat' first
      | (with_reducible exact frame_Right.mono _ _ _ _)
      | (with_reducible exact num_Put.mono _ _ _)
      | (with_reducible exact LeO.refl _)
      | (with_reducible exact LeO.none _)
      | (with_reducible refine LeO.ite ?_ ?_)
      | (with_reducible refine LeO.bind ?_ (fun _ => ?_))
      | exact frame_Right.mono _ _ _ _
      | exact num_Put.mono _ _ _
      | exact LeO.none _
      | refine LeO.ite ?_ ?_
      | refine LeO.bind ?_ (fun _ => ?_)
set_option maxHeartbeats 8000000 in
set_option maxRecDepth 100000 in
theorem frame_Bytes.calls (k : Nat) (a0_0 : Int) (a0_1 : Int) (a0_2 : ByteArray) (r1 : ByteArray) (r2 : Int) (w : World) (hg : Laid w) (h : frame_Bytes.f k a0_0 a0_1 a0_2 = some (r1, r2)) :
    Calls Tryd.prog 13 #[.agg #[.int .i64 a0_0, .int .i64 a0_1, .string a0_2]] w fun e w' => e = .returned (.tuple #[.string r1, .int .i64 r2]) ∧ Below w.heap.size w w' := by
  have HG := Aside0.mk hg
  clear hg
  have hu29 := Tryd.underlying29
  have HB := Aside0.mk (Below.refl w.heap.size w)
  have H : ((frame_Right.f k a0_0 a0_1 a0_2).bind fun t112 => (if t112 = true then ((num_Put.f k 1 (IntKind.u64.wrap (a0_0))).bind fun bt113 => ((num_Put.f k 2 (IntKind.u64.wrap (a0_1))).bind fun bt115 => ((num_Put.f k 4 (IntKind.u64.wrap ((a0_2.size : Int)))).bind fun bt117 => (if bt113.1.size + bt115.1.size ≤ 9223372036854775807 then (if (bt113.1 ++ bt115.1).size + bt117.1.size ≤ 9223372036854775807 then (if ((bt113.1 ++ bt115.1) ++ bt117.1).size + a0_2.size ≤ 9223372036854775807 then ((some (([206] : List Int) : List Int)).bind fun y119 => (if (((bt113.1 ++ bt115.1) ++ bt117.1) ++ a0_2).size + (strOfNums y119).size ≤ 9223372036854775807 then (some ((((bt113.1 ++ bt115.1) ++ bt117.1) ++ a0_2) ++ (strOfNums y119), 0)) else (none))) else (none)) else (none)) else (none))))) else (some ((⟨#[]⟩ : ByteArray), 1)))) = some (r1, r2) := h
  clear h
  replace H := Option.bind_eq_some_iff.mp H
  obtain ⟨t112, A20, H⟩ := H
  replace H : (if t112 = true then ((num_Put.f k 1 (IntKind.u64.wrap (a0_0))).bind fun bt113 => ((num_Put.f k 2 (IntKind.u64.wrap (a0_1))).bind fun bt115 => ((num_Put.f k 4 (IntKind.u64.wrap ((a0_2.size : Int)))).bind fun bt117 => (if bt113.1.size + bt115.1.size ≤ 9223372036854775807 then (if (bt113.1 ++ bt115.1).size + bt117.1.size ≤ 9223372036854775807 then (if ((bt113.1 ++ bt115.1) ++ bt117.1).size + a0_2.size ≤ 9223372036854775807 then ((some (([206] : List Int) : List Int)).bind fun y119 => (if (((bt113.1 ++ bt115.1) ++ bt117.1) ++ a0_2).size + (strOfNums y119).size ≤ 9223372036854775807 then (some ((((bt113.1 ++ bt115.1) ++ bt117.1) ++ a0_2) ++ (strOfNums y119), 0)) else (none))) else (none)) else (none)) else (none))))) else (some ((⟨#[]⟩ : ByteArray), 1))) = some (r1, r2) := H
  have A2 := Aside0.mk A20
  clear A20
  by_cases c3 : t112 = true
  · subst c3
    have H1 : ((num_Put.f k 1 (IntKind.u64.wrap (a0_0))).bind fun bt113 => ((num_Put.f k 2 (IntKind.u64.wrap (a0_1))).bind fun bt115 => ((num_Put.f k 4 (IntKind.u64.wrap ((a0_2.size : Int)))).bind fun bt117 => (if bt113.1.size + bt115.1.size ≤ 9223372036854775807 then (if (bt113.1 ++ bt115.1).size + bt117.1.size ≤ 9223372036854775807 then (if ((bt113.1 ++ bt115.1) ++ bt117.1).size + a0_2.size ≤ 9223372036854775807 then ((some (([206] : List Int) : List Int)).bind fun y119 => (if (((bt113.1 ++ bt115.1) ++ bt117.1) ++ a0_2).size + (strOfNums y119).size ≤ 9223372036854775807 then (some ((((bt113.1 ++ bt115.1) ++ bt117.1) ++ a0_2) ++ (strOfNums y119), 0)) else (none))) else (none)) else (none)) else (none))))) = some (r1, r2) := by rw [if_pos rfl] at H; exact H
    clear H
    have H := H1
    clear H1
    replace H := Option.bind_eq_some_iff.mp H
    obtain ⟨⟨t113, t114⟩, A40, H⟩ := H
    replace H : ((num_Put.f k 2 (IntKind.u64.wrap (a0_1))).bind fun bt115 => ((num_Put.f k 4 (IntKind.u64.wrap ((a0_2.size : Int)))).bind fun bt117 => (if t113.size + bt115.1.size ≤ 9223372036854775807 then (if (t113 ++ bt115.1).size + bt117.1.size ≤ 9223372036854775807 then (if ((t113 ++ bt115.1) ++ bt117.1).size + a0_2.size ≤ 9223372036854775807 then ((some (([206] : List Int) : List Int)).bind fun y119 => (if (((t113 ++ bt115.1) ++ bt117.1) ++ a0_2).size + (strOfNums y119).size ≤ 9223372036854775807 then (some ((((t113 ++ bt115.1) ++ bt117.1) ++ a0_2) ++ (strOfNums y119), 0)) else (none))) else (none)) else (none)) else (none)))) = some (r1, r2) := H
    have A4 := Aside0.mk A40
    clear A40
    replace H := Option.bind_eq_some_iff.mp H
    obtain ⟨⟨t115, t116⟩, A50, H⟩ := H
    replace H : ((num_Put.f k 4 (IntKind.u64.wrap ((a0_2.size : Int)))).bind fun bt117 => (if t113.size + t115.size ≤ 9223372036854775807 then (if (t113 ++ t115).size + bt117.1.size ≤ 9223372036854775807 then (if ((t113 ++ t115) ++ bt117.1).size + a0_2.size ≤ 9223372036854775807 then ((some (([206] : List Int) : List Int)).bind fun y119 => (if (((t113 ++ t115) ++ bt117.1) ++ a0_2).size + (strOfNums y119).size ≤ 9223372036854775807 then (some ((((t113 ++ t115) ++ bt117.1) ++ a0_2) ++ (strOfNums y119), 0)) else (none))) else (none)) else (none)) else (none))) = some (r1, r2) := H
    have A5 := Aside0.mk A50
    clear A50
    replace H := Option.bind_eq_some_iff.mp H
    obtain ⟨⟨t117, t118⟩, A60, H⟩ := H
    replace H : (if t113.size + t115.size ≤ 9223372036854775807 then (if (t113 ++ t115).size + t117.size ≤ 9223372036854775807 then (if ((t113 ++ t115) ++ t117).size + a0_2.size ≤ 9223372036854775807 then ((some (([206] : List Int) : List Int)).bind fun y119 => (if (((t113 ++ t115) ++ t117) ++ a0_2).size + (strOfNums y119).size ≤ 9223372036854775807 then (some ((((t113 ++ t115) ++ t117) ++ a0_2) ++ (strOfNums y119), 0)) else (none))) else (none)) else (none)) else (none)) = some (r1, r2) := H
    have A6 := Aside0.mk A60
    clear A60
    by_cases c7 : t113.size + t115.size ≤ 9223372036854775807
    · rw [if_pos c7] at H
      have c7b0 := eq_true c7
      have c7b1 : decide (t113.size + t115.size ≤ 9223372036854775807) = true := decide_eq_true c7
      try have c7b2 : (9223372036854775807 < t113.size + t115.size) = False := eq_false (Nat.not_lt.2 c7)
      by_cases c8 : (t113 ++ t115).size + t117.size ≤ 9223372036854775807
      · rw [if_pos c8] at H
        have c8b0 := eq_true c8
        have c8b1 : decide ((t113 ++ t115).size + t117.size ≤ 9223372036854775807) = true := decide_eq_true c8
        try have c8b2 : (9223372036854775807 < (t113 ++ t115).size + t117.size) = False := eq_false (Nat.not_lt.2 c8)
        by_cases c9 : ((t113 ++ t115) ++ t117).size + a0_2.size ≤ 9223372036854775807
        · rw [if_pos c9] at H
          have c9b0 := eq_true c9
          have c9b1 : decide (((t113 ++ t115) ++ t117).size + a0_2.size ≤ 9223372036854775807) = true := decide_eq_true c9
          try have c9b2 : (9223372036854775807 < ((t113 ++ t115) ++ t117).size + a0_2.size) = False := eq_false (Nat.not_lt.2 c9)
          obtain ⟨y119, hy119⟩ : ∃ y_ : List Int, y_ = (([206] : List Int)) := ⟨_, rfl⟩
          replace H : (if (((t113 ++ t115) ++ t117) ++ a0_2).size + (strOfNums y119).size ≤ 9223372036854775807 then (some ((((t113 ++ t115) ++ t117) ++ a0_2) ++ (strOfNums y119), 0)) else (none)) = some (r1, r2) := by first | (rw [hy119]; with_reducible exact H) | (have H2_ := (Option.bind_some _ _).symm.trans H; rw [hy119]; with_reducible exact H2_) | (have H2_ := (Option.bind_some _ _).symm.trans H; with_reducible exact H2_) | with_reducible exact H | (rw [hy119]; exact H) | exact H
          have Ny119 := Aside0.mk hy119
          clear hy119
          by_cases c10 : (((t113 ++ t115) ++ t117) ++ a0_2).size + (strOfNums y119).size ≤ 9223372036854775807
          · rw [if_pos c10] at H
            have c10b0 := eq_true c10
            have c10b1 : decide ((((t113 ++ t115) ++ t117) ++ a0_2).size + (strOfNums y119).size ≤ 9223372036854775807) = true := decide_eq_true c10
            try have c10b2 : (9223372036854775807 < (((t113 ++ t115) ++ t117) ++ a0_2).size + (strOfNums y119).size) = False := eq_false (Nat.not_lt.2 c10)
            simp only [Option.some.injEq, Prod.mk.injEq] at H
            obtain ⟨rfl, rfl⟩ := H
            have hw_ : IntKind.u64.wrap ((a0_2.size : Int)) = ((a0_2.size : Int)) := IntWalk.u64_in _ (by omega)
            have A6w := A6.out
            rw [hw_] at A6w
            clear A6
            have A6 := Aside0.mk A6w
            clear A6w hw_
            go_enter Tryd.func13, Tryd.ntmps13
            go_wp2_with (first | ((with_reducible refine gate_dst (N := 1) rfl ?_); refine box_event ?hg (N := 1) ?hd (cs := #[.int .i64 a0_0, .int .i64 a0_1, .string a0_2]) (t := 29) ?hr ?_; (case hd => rfl); (case hg => rfl); (case hr => first | (go_simp; done) | (go_simp; rfl)); intro gb111 hg w11 hbox hb; have n0_ := Aside0.mk (below_step (by repeat (first | (with_reducible first | exact HB.out | apply below_alloc | apply pw_below_drewN | apply below_drew1) | exact HB.out)) hb); have n1_ := Aside0.mk (hbox); have n2_ := Aside0.mk ((by rw [hg]; exact (below_size (by repeat (first | (with_reducible first | exact HB.out | apply below_alloc | apply pw_below_drewN | apply below_drew1) | exact HB.out))) : w.heap.size ≤ gb111)); have n3_ := Aside0.mk ((by rw [hg]; exact (below_size (by repeat (first | (with_reducible first | exact HB.out | apply below_alloc | apply pw_below_drewN | apply below_drew1) | exact HB.out))) : w.heap.size ≤ gb111)); clear HB; have HB := n0_; have BK111 := n1_; have GW111 := n2_; have GE111 := n3_; clear n0_ n1_ n2_ n3_; clear hb hbox hg; have hcz12_0 : w11.cell? ⟨gb111, 0, none⟩ = some (.int .i64 a0_0) := (blk_cell BK111.out 0).trans rfl; have hcz12_1 : w11.cell? ⟨gb111, 1, none⟩ = some (.int .i64 a0_1) := (blk_cell BK111.out 1).trans rfl; have hcz12_2 : w11.cell? ⟨gb111, 2, none⟩ = some (.string a0_2) := (blk_cell BK111.out 2).trans rfl; have hfz12_0 := blk_frozen BK111.out 0; have hfz12_1 := blk_frozen BK111.out 1; have hfz12_2 := blk_frozen BK111.out 2) | ((with_reducible refine gate_callee (f := 15) rfl ?_); refine goesL_ (some 11) rfl rfl Tryd.func15 (by kernel_rfl) rfl #[.agg #[.int .i64 a0_0, .int .i64 a0_1, .string a0_2]] rfl (by (try simp only [List.map_toArray, List.map_cons, List.map_nil]); first | done | rfl | (simp only [List.length_drop, List.length_take]; rfl)) ?_; (with_reducible refine (frame_Right.calls k a0_0 a0_1 a0_2 true _ ?lg A2.out).mono ?_); (case lg => exact (HG.out.below (by repeat (first | (with_reducible first | exact HB.out | apply below_alloc | apply pw_below_drewN | apply below_drew1 | refine below_set ?_ GE111.out) | exact HB.out)))); rintro e w13 ⟨rfl, hb⟩; refine ⟨_, rfl, ?_⟩; have n0_ := Aside0.mk (blk_below (g := gb111) (o := .cells #[.int .i64 a0_0, .int .i64 a0_1, .string a0_2] 29 (0, 0)) (by (with_reducible repeat (first | refine blk_drewN ?_ _ | refine blk_drew ?_ | refine blk_alloc ?_ _)); exact BK111.out) hb); have n1_ := Aside0.mk (below_step (by repeat (first | (with_reducible first | exact HB.out | apply below_alloc | apply pw_below_drewN | apply below_drew1 | refine below_set ?_ GE111.out) | exact HB.out)) hb); clear BK111; clear HB; have BK111 := n0_; have HB := n1_; clear n0_ n1_; (try clear hb); (try clear hb2); (try clear hk); (try clear hi); have hcz14_0 : w13.cell? ⟨gb111, 0, none⟩ = some (.int .i64 a0_0) := (blk_cell BK111.out 0).trans rfl; have hcz14_1 : w13.cell? ⟨gb111, 1, none⟩ = some (.int .i64 a0_1) := (blk_cell BK111.out 1).trans rfl; have hcz14_2 : w13.cell? ⟨gb111, 2, none⟩ = some (.string a0_2) := (blk_cell BK111.out 2).trans rfl; have hfz14_0 := blk_frozen BK111.out 0; have hfz14_1 := blk_frozen BK111.out 1; have hfz14_2 := blk_frozen BK111.out 2) | ((with_reducible refine gate_callee (f := 25) rfl ?_); refine goesL_ (some 17) rfl rfl Tryd.func25 (by kernel_rfl) rfl #[.int .i64 1, .int .u64 (IntKind.u64.wrap (a0_0))] rfl (by (try simp only [List.map_toArray, List.map_cons, List.map_nil]); first | done | rfl | (simp only [List.length_drop, List.length_take]; rfl)) ?_; (with_reducible refine (num_Put.calls k 1 (IntKind.u64.wrap (a0_0)) t113 t114 _ ?lg A4.out).mono ?_); (case lg => exact (HG.out.below (by repeat (first | (with_reducible first | exact HB.out | apply below_alloc | apply pw_below_drewN | apply below_drew1 | refine below_set ?_ GE111.out) | exact HB.out)))); rintro e w15 ⟨rfl, hb⟩; refine ⟨_, rfl, ?_⟩; have n0_ := Aside0.mk (blk_below (g := gb111) (o := .cells #[.int .i64 a0_0, .int .i64 a0_1, .string a0_2] 29 (0, 0)) (by (with_reducible repeat (first | refine blk_drewN ?_ _ | refine blk_drew ?_ | refine blk_alloc ?_ _)); exact BK111.out) hb); have n1_ := Aside0.mk (below_step (by repeat (first | (with_reducible first | exact HB.out | apply below_alloc | apply pw_below_drewN | apply below_drew1 | refine below_set ?_ GE111.out) | exact HB.out)) hb); clear BK111; clear HB; have BK111 := n0_; have HB := n1_; clear n0_ n1_; (try clear hb); (try clear hb2); (try clear hk); (try clear hi); have hcz16_0 : w15.cell? ⟨gb111, 0, none⟩ = some (.int .i64 a0_0) := (blk_cell BK111.out 0).trans rfl; have hcz16_1 : w15.cell? ⟨gb111, 1, none⟩ = some (.int .i64 a0_1) := (blk_cell BK111.out 1).trans rfl; have hcz16_2 : w15.cell? ⟨gb111, 2, none⟩ = some (.string a0_2) := (blk_cell BK111.out 2).trans rfl; have hfz16_0 := blk_frozen BK111.out 0; have hfz16_1 := blk_frozen BK111.out 1; have hfz16_2 := blk_frozen BK111.out 2) | ((with_reducible refine gate_callee (f := 25) rfl ?_); refine goesL_ (some 24) rfl rfl Tryd.func25 (by kernel_rfl) rfl #[.int .i64 2, .int .u64 (IntKind.u64.wrap (a0_1))] rfl (by (try simp only [List.map_toArray, List.map_cons, List.map_nil]); first | done | rfl | (simp only [List.length_drop, List.length_take]; rfl)) ?_; (with_reducible refine (num_Put.calls k 2 (IntKind.u64.wrap (a0_1)) t115 t116 _ ?lg A5.out).mono ?_); (case lg => exact (HG.out.below (by repeat (first | (with_reducible first | exact HB.out | apply below_alloc | apply pw_below_drewN | apply below_drew1 | refine below_set ?_ GE111.out) | exact HB.out)))); rintro e w17 ⟨rfl, hb⟩; refine ⟨_, rfl, ?_⟩; have n0_ := Aside0.mk (blk_below (g := gb111) (o := .cells #[.int .i64 a0_0, .int .i64 a0_1, .string a0_2] 29 (0, 0)) (by (with_reducible repeat (first | refine blk_drewN ?_ _ | refine blk_drew ?_ | refine blk_alloc ?_ _)); exact BK111.out) hb); have n1_ := Aside0.mk (below_step (by repeat (first | (with_reducible first | exact HB.out | apply below_alloc | apply pw_below_drewN | apply below_drew1 | refine below_set ?_ GE111.out) | exact HB.out)) hb); clear BK111; clear HB; have BK111 := n0_; have HB := n1_; clear n0_ n1_; (try clear hb); (try clear hb2); (try clear hk); (try clear hi); have hcz18_0 : w17.cell? ⟨gb111, 0, none⟩ = some (.int .i64 a0_0) := (blk_cell BK111.out 0).trans rfl; have hcz18_1 : w17.cell? ⟨gb111, 1, none⟩ = some (.int .i64 a0_1) := (blk_cell BK111.out 1).trans rfl; have hcz18_2 : w17.cell? ⟨gb111, 2, none⟩ = some (.string a0_2) := (blk_cell BK111.out 2).trans rfl; have hfz18_0 := blk_frozen BK111.out 0; have hfz18_1 := blk_frozen BK111.out 1; have hfz18_2 := blk_frozen BK111.out 2) | ((with_reducible refine gate_callee (f := 25) rfl ?_); refine goesL_ (some 32) rfl rfl Tryd.func25 (by kernel_rfl) rfl #[.int .i64 4, .int .u64 ((a0_2.size : Int))] rfl (by (try simp only [List.map_toArray, List.map_cons, List.map_nil]); first | done | rfl | (simp only [List.length_drop, List.length_take]; rfl)) ?_; (with_reducible refine (num_Put.calls k 4 ((a0_2.size : Int)) t117 t118 _ ?lg A6.out).mono ?_); (case lg => exact (HG.out.below (by repeat (first | (with_reducible first | exact HB.out | apply below_alloc | apply pw_below_drewN | apply below_drew1 | refine below_set ?_ GE111.out) | exact HB.out)))); rintro e w19 ⟨rfl, hb⟩; refine ⟨_, rfl, ?_⟩; have n0_ := Aside0.mk (blk_below (g := gb111) (o := .cells #[.int .i64 a0_0, .int .i64 a0_1, .string a0_2] 29 (0, 0)) (by (with_reducible repeat (first | refine blk_drewN ?_ _ | refine blk_drew ?_ | refine blk_alloc ?_ _)); exact BK111.out) hb); have n1_ := Aside0.mk (below_step (by repeat (first | (with_reducible first | exact HB.out | apply below_alloc | apply pw_below_drewN | apply below_drew1 | refine below_set ?_ GE111.out) | exact HB.out)) hb); clear BK111; clear HB; have BK111 := n0_; have HB := n1_; clear n0_ n1_; (try clear hb); (try clear hb2); (try clear hk); (try clear hi); have hcz20_0 : w19.cell? ⟨gb111, 0, none⟩ = some (.int .i64 a0_0) := (blk_cell BK111.out 0).trans rfl; have hcz20_1 : w19.cell? ⟨gb111, 1, none⟩ = some (.int .i64 a0_1) := (blk_cell BK111.out 1).trans rfl; have hcz20_2 : w19.cell? ⟨gb111, 2, none⟩ = some (.string a0_2) := (blk_cell BK111.out 2).trans rfl; have hfz20_0 := blk_frozen BK111.out 0; have hfz20_1 := blk_frozen BK111.out 1; have hfz20_2 := blk_frozen BK111.out 2) | ((with_reducible refine gate_dst (N := 43) rfl ?_); refine Kd.R_lit (Kd.int .u8) _ 5 ?hg (N := 43) ?hd (xs := ([206] : List Int)) (inner := [.int .u8 206]) (ok := fun _ => True) (okp := fun _ => True) ?hr ?hp (fun _ hk => hk) trivial (Below.refl _ _) (Nat.le_refl _) (by simp) ?_; (case hd => rfl); (case hg => rfl); (case hr => first | (go_simp; done) | (go_simp; rfl)); (case hp => exact (Reps.one (show Kd.M (Kd.int .u8) _ _ _ 206 [.int .u8 206] from rfl) (Reps.none _ _))); intro v120 w21 ho22 hb hg_ hnew_; clear hg_ hnew_; (first | rw [← Ny119.out] at ho22 | (simp only [Int.reduceToNat] at ho22; rw [← Ny119.out] at ho22)); have n0_ := Aside0.mk (Kd.R_lower ho22 (below_size (by repeat (first | (with_reducible first | exact HB.out | apply below_alloc | apply pw_below_drewN | apply below_drew1 | refine below_set ?_ GE111.out) | exact HB.out)))); have n1_ := Aside0.mk (blk_below (g := gb111) (o := .cells #[.int .i64 a0_0, .int .i64 a0_1, .string a0_2] 29 (0, 0)) (by (with_reducible repeat (first | refine blk_drewN ?_ _ | refine blk_drew ?_ | refine blk_alloc ?_ _)); exact BK111.out) hb); have n2_ := Aside0.mk (below_step (by repeat (first | (with_reducible first | exact HB.out | apply below_alloc | apply pw_below_drewN | apply below_drew1 | refine below_set ?_ GE111.out) | exact HB.out)) hb); clear BK111; clear HB; have HO121 := n0_; have BK111 := n1_; have HB := n2_; clear n0_ n1_ n2_; clear hb ho22; have hcv23 := own_string (P := Tryd.prog) Tryd.underlying53 Tryd.underlying5 Tryd.underlying9 (Kd.own_of_R HO121.out)))
            go_ret2
            exact ⟨by first | rfl | (simp [errW_none, errW_some] <;> rfl) | (simp [*, errW_none, errW_some] <;> rfl), by repeat (first | (with_reducible first | exact HB.out | apply below_alloc | apply pw_below_drewN | apply below_drew1 | refine below_set ?_ GE111.out) | exact HB.out)⟩
          · rw [if_neg c10] at H
            exact absurd H (by simp)
        · rw [if_neg c9] at H
          exact absurd H (by simp)
      · rw [if_neg c8] at H
        exact absurd H (by simp)
    · rw [if_neg c7] at H
      exact absurd H (by simp)
  · replace c3 := Bool.eq_false_iff.mpr c3
    subst c3
    have H1 : (some ((⟨#[]⟩ : ByteArray), 1)) = some (r1, r2) := by rw [if_neg (show ¬ (false = true) by decide)] at H; exact H
    clear H
    have H := H1
    clear H1
    simp only [Option.some.injEq, Prod.mk.injEq] at H
    obtain ⟨rfl, rfl⟩ := H
    go_enter Tryd.func13, Tryd.ntmps13
    go_wp2_with (first | ((with_reducible refine gate_dst (N := 1) rfl ?_); refine box_event ?hg (N := 1) ?hd (cs := #[.int .i64 a0_0, .int .i64 a0_1, .string a0_2]) (t := 29) ?hr ?_; (case hd => rfl); (case hg => rfl); (case hr => first | (go_simp; done) | (go_simp; rfl)); intro gb111 hg w24 hbox hb; have n0_ := Aside0.mk (below_step (by repeat (first | (with_reducible first | exact HB.out | apply below_alloc | apply pw_below_drewN | apply below_drew1) | exact HB.out)) hb); have n1_ := Aside0.mk (hbox); have n2_ := Aside0.mk ((by rw [hg]; exact (below_size (by repeat (first | (with_reducible first | exact HB.out | apply below_alloc | apply pw_below_drewN | apply below_drew1) | exact HB.out))) : w.heap.size ≤ gb111)); have n3_ := Aside0.mk ((by rw [hg]; exact (below_size (by repeat (first | (with_reducible first | exact HB.out | apply below_alloc | apply pw_below_drewN | apply below_drew1) | exact HB.out))) : w.heap.size ≤ gb111)); clear HB; have HB := n0_; have BK111 := n1_; have GW111 := n2_; have GE111 := n3_; clear n0_ n1_ n2_ n3_; clear hb hbox hg; have hcz25_0 : w24.cell? ⟨gb111, 0, none⟩ = some (.int .i64 a0_0) := (blk_cell BK111.out 0).trans rfl; have hcz25_1 : w24.cell? ⟨gb111, 1, none⟩ = some (.int .i64 a0_1) := (blk_cell BK111.out 1).trans rfl; have hcz25_2 : w24.cell? ⟨gb111, 2, none⟩ = some (.string a0_2) := (blk_cell BK111.out 2).trans rfl; have hfz25_0 := blk_frozen BK111.out 0; have hfz25_1 := blk_frozen BK111.out 1; have hfz25_2 := blk_frozen BK111.out 2) | ((with_reducible refine gate_callee (f := 15) rfl ?_); refine goesL_ (some 11) rfl rfl Tryd.func15 (by kernel_rfl) rfl #[.agg #[.int .i64 a0_0, .int .i64 a0_1, .string a0_2]] rfl (by (try simp only [List.map_toArray, List.map_cons, List.map_nil]); first | done | rfl | (simp only [List.length_drop, List.length_take]; rfl)) ?_; (with_reducible refine (frame_Right.calls k a0_0 a0_1 a0_2 false _ ?lg A2.out).mono ?_); (case lg => exact (HG.out.below (by repeat (first | (with_reducible first | exact HB.out | apply below_alloc | apply pw_below_drewN | apply below_drew1 | refine below_set ?_ GE111.out) | exact HB.out)))); rintro e w26 ⟨rfl, hb⟩; refine ⟨_, rfl, ?_⟩; have n0_ := Aside0.mk (blk_below (g := gb111) (o := .cells #[.int .i64 a0_0, .int .i64 a0_1, .string a0_2] 29 (0, 0)) (by (with_reducible repeat (first | refine blk_drewN ?_ _ | refine blk_drew ?_ | refine blk_alloc ?_ _)); exact BK111.out) hb); have n1_ := Aside0.mk (below_step (by repeat (first | (with_reducible first | exact HB.out | apply below_alloc | apply pw_below_drewN | apply below_drew1 | refine below_set ?_ GE111.out) | exact HB.out)) hb); clear BK111; clear HB; have BK111 := n0_; have HB := n1_; clear n0_ n1_; (try clear hb); (try clear hb2); (try clear hk); (try clear hi)))
    go_ret2
    exact ⟨by first | rfl | (simp [errW_none, errW_some] <;> rfl) | (simp [*, errW_none, errW_some] <;> rfl), by repeat (first | (with_reducible first | exact HB.out | apply below_alloc | apply pw_below_drewN | apply below_drew1 | refine below_set ?_ GE111.out) | exact HB.out)⟩


end Go.Proofs.YtdalcbhnnfabhaaDoor.F
namespace Go.Proofs.YtdalcbhnnfabhaaDoor.F
open Go.RowKit Go.Proofs.YtdalcbhnnfabhaaDoorW.PrintWords Go.Proofs.YtdalcbhnnfabhaaDoorW.PrintLast Go.Proofs.YtdalcbhnnfabhaaDoorW.PrintMore
set_option linter.unusedVariables false
set_option linter.unusedSimpArgs false

def kindB (ty : Int) : Bool := decide (ty = 1) || decide (ty = 2) || decide (ty = 3) || decide (ty = 8)
def rightB (ty ch : Int) (d : ByteArray) : Bool := kindB ty && (decide (0 ≤ ch) && decide (ch ≤ 65535)) && decide (d.size ≤ 131072) && (decide (ty ≠ 3) || decide (d.size ≠ 0)) && (decide (ty ≠ 8) || (decide (d.size = 0) && decide (ch = 0)))
theorem nil_size (d : ByteArray) : d.toList = ([] : List UInt8) ↔ d.size = 0 := by
  rw [toList_data, ← size_list]
  exact List.length_eq_zero_iff.symm
theorem right_j {k : Nat} (hk : 1 ≤ k) (x : Bool) (ty ch : Int) (d : ByteArray) : frame_Right.j0 k x ty ch d = some (!x && (kindB ty && (decide (0 ≤ ch) && decide (ch ≤ 65535)) && decide (d.size ≤ 131072) && (decide (ty ≠ 3) || decide (d.size ≠ 0)))) := by
  obtain ⟨k, rfl⟩ : ∃ j, k = j + 1 := ⟨k - 1, by omega⟩
  simp only [frame_Right.j0, nil_size, frame_kind.f, Option.bind_some, ge_iff_le]
  have e : decide ((d.size : Int) ≤ 131072) = decide (d.size ≤ 131072) := by simp; omega
  rw [e]
  cases x <;> simp only [kindB, if_true, if_false, reduceCtorEq, Bool.not_true, Bool.not_false, Bool.true_and, Bool.false_and]
  by_cases h3 : ty = 3 <;> by_cases h0 : d.size = 0 <;> by_cases hc : 0 ≤ ch <;> by_cases hd : ch ≤ 65535 <;> cases (decide (ty = 1) || decide (ty = 2) || decide (ty = 3) || decide (ty = 8)) <;> simp [h3, h0, hc, hd]
theorem right_k {k : Nat} (hk : 1 ≤ k) (ty ch : Int) (d : ByteArray) : frame_Right.f k ty ch d = some (rightB ty ch d) := by
  unfold frame_Right.f rightB
  rw [right_j hk, right_j hk, right_j hk]
  simp only [nil_size]
  by_cases h8 : ty = 8
  · by_cases h0 : d.size = 0
    · by_cases hc : ch = 0 <;> simp [h8, h0, hc]
    · simp [h8, h0]
  · simp [h8]
theorem right_size {ty ch : Int} {d : ByteArray} (h : rightB ty ch d = true) : d.size ≤ 131072 := by
  simp only [rightB, Bool.and_eq_true, decide_eq_true_eq] at h; exact h.1.1.2
theorem right_chan {ty ch : Int} {d : ByteArray} (h : rightB ty ch d = true) : 0 ≤ ch ∧ ch ≤ 65535 := by
  simp only [rightB, Bool.and_eq_true, decide_eq_true_eq] at h; exact h.1.1.1.2
theorem right_kind {ty ch : Int} {d : ByteArray} (h : rightB ty ch d = true) : kindB ty = true := by
  simp only [rightB, Bool.and_eq_true, decide_eq_true_eq] at h; exact h.1.1.1.1
theorem kind_cases {ty : Int} (h : kindB ty = true) : ty = 1 ∨ ty = 2 ∨ ty = 3 ∨ ty = 8 := by
  simp only [kindB, Bool.or_eq_true, decide_eq_true_eq] at h
  omega
/-- A frame's bytes. -/
def bytesL (ty ch : Int) (d : ByteArray) : List UInt8 := be 1 ty.toNat ++ be 2 ch.toNat ++ be 4 d.size ++ d.data.toList ++ [206]
def bytesR (ty ch : Int) (d : ByteArray) : ByteArray × Int := if rightB ty ch d = true then (toBA (bytesL ty ch d), 0) else (⟨#[]⟩, 1)
theorem bytesL_length (ty ch : Int) (d : ByteArray) : (bytesL ty ch d).length = d.size + 8 := by
  simp only [bytesL, List.length_append, be_length, size_list, List.length_cons, List.length_nil]; omega
theorem append_toBA (l : List UInt8) (d : ByteArray) : toBA l ++ d = toBA (l ++ d.data.toList) := by
  conv => lhs; rw [toBA_of d]
  rw [toBA_append]
theorem putR_of {n v : Int} (hn : isW n) (hv : v < 256 ^ n.toNat) : putR n v = (toBA (be n.toNat v.toNat), 0) := by
  unfold putR; rw [if_pos hn, if_pos hv]
theorem bytes_k {k : Nat} (hk : 12 ≤ k) (ty ch : Int) (d : ByteArray) : frame_Bytes.f k ty ch d = some (bytesR ty ch d) := by
  unfold frame_Bytes.f bytesR
  rw [right_k (by omega), Option.bind_some]
  by_cases h : rightB ty ch d = true
  · rw [if_pos h, if_pos h]
    have hs := right_size h
    obtain ⟨c0, c1⟩ := right_chan h
    have ht := kind_cases (right_kind h)
    have t0 : 0 ≤ ty ∧ ty < 256 := by omega
    rw [wrapU t0.1 (by omega), wrapU c0 (by omega), wrapU (show (0 : Int) ≤ (d.size : Int) by omega) (by omega),
      put_k hk _ _ t0.1 (by omega), put_k hk _ _ c0 (by omega), put_k hk _ _ (by omega) (by omega), Option.bind_some, Option.bind_some, Option.bind_some,
      putR_of (n := 1) (by decide) (by simpa using t0.2), putR_of (n := 2) (by decide) (by show ch < 256 ^ 2; omega), putR_of (n := 4) (by decide) (by show (d.size : Int) < 256 ^ 4; omega)]
    simp only [Option.bind_some]
    have e1 : (1 : Int).toNat = 1 := rfl
    have e2 : (2 : Int).toNat = 2 := rfl
    have e4 : (4 : Int).toNat = 4 := rfl
    have ed : ((d.size : Int)).toNat = d.size := by omega
    have eo : strOfNums [206] = toBA [206] := rfl
    rw [e1, e2, e4, ed, eo]
    have s1 := be_length 1 ty.toNat
    have s2 := be_length 2 ch.toNat
    have s4 := be_length 4 d.size
    rw [toBA_append, toBA_append, append_toBA, toBA_append]
    simp only [toBA_size, List.length_append, s1, s2, s4, size_list, List.length_cons, List.length_nil]
    rw [if_pos (by omega), if_pos (by omega), if_pos (by omega), if_pos (by omega)]
    rfl
  · rw [if_neg h, if_neg h]
end Go.Proofs.YtdalcbhnnfabhaaDoor.F
