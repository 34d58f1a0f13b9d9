/- Texts of this session for the law TableSwaps, one behind the other: tablewhole, Htabdeep, Hrange, Hbox, Htabmake, interchangelaw03shown, interchangeref01Take, PrefTake, interchangeref02TakeShort, interchangeref03inside, interchangeref03size, PrefShort. -/
import Derived.RangeFuncNested
import Derived.RangeFuncBox
import Derived.RangeFuncCalls
import Derived.OwnWalkIn
import Derived.TacticsInMore
import Derived.LoopIn
import Derived.WalkKit
import Derived.Test.YthdkmohelampbaaDoorBTableSwapsa
namespace Go.Proofs.YthdkmohelampbaaDoor.F
open Go.RowKit Go.Proofs.YthdkmohelampbaaDoorW.PrintWords Go.Proofs.YthdkmohelampbaaDoorW.PrintLast Go.Proofs.YthdkmohelampbaaDoorW.PrintMore
attribute [local go_sem] max2_int min2_int max_two min_two max_three min_three max_four min_four
set_option linter.unusedVariables false
set_option linter.unusedSimpArgs false

/-! ### table_whole: function 31 -/
def table_whole.f (a0 : ByteArray) : Option (Int) := (table_Take.f a0).bind fun bt117 => (if bt117.2.2 = 0 then (if bt117.2.1.toList = ([] : List UInt8) then (some bt117.2.2) else (some 3)) else (some bt117.2.2))
set_option maxHeartbeats 8000000 in
set_option maxRecDepth 100000 in
theorem table_whole.calls (a0 : ByteArray) (r : Int) (w : World) (hg : Laid w) (h : table_whole.f a0 = some r) :
    Calls Tryd.prog 31 #[.string a0] w fun e w' => e = .returned (.int .i64 r) ∧ Below w.heap.size w w' := by
  have HG := Aside0.mk hg
  clear hg
  have HB := Aside0.mk (Below.refl w.heap.size w)
  have H : ((table_Take.f a0).bind fun bt117 => (if bt117.2.2 = 0 then (if bt117.2.1.toList = ([] : List UInt8) then (some bt117.2.2) else (some 3)) else (some bt117.2.2))) = some r := h
  clear h
  replace H := Option.bind_eq_some_iff.mp H
  obtain ⟨⟨t117, t118, t119⟩, A20, H⟩ := H
  replace H : (if t119 = 0 then (if t118.toList = ([] : List UInt8) then (some t119) else (some 3)) else (some t119)) = some r := H
  have A2 := Aside0.mk A20
  clear A20
  by_cases c3 : t119 = 0
  · rw [if_pos c3] at H
    have c3b0 : (t119 == 0) = true := beq_iff_eq.mpr c3
    have c3b1 : (t119 != 0) = false := bne_eq_false_iff_eq.mpr c3
    clear c3
    by_cases c4 : t118.toList = ([] : List UInt8)
    · rw [if_pos c4] at H
      have c4b0 : (t118.toList == ([] : List UInt8)) = true := beq_iff_eq.mpr c4
      have c4b1 : (t118.toList != ([] : List UInt8)) = false := bne_eq_false_iff_eq.mpr c4
      clear c4
      obtain rfl := Option.some.inj H
      go_enter Tryd.func31, Tryd.ntmps31
      go_wp2_with (first | ((with_reducible refine gate_callee (f := 11) rfl ?_); refine goesL_ (some 8) rfl rfl Tryd.func11 (by kernel_rfl) rfl #[.string a0] rfl (by (try simp only [List.map_toArray, List.map_cons, List.map_nil]); first | done | rfl | (simp only [List.length_drop, List.length_take]; rfl)) ?_; (with_reducible refine (table_Take.calls a0 t117 t118 t119 _ ?lg A2.out).mono ?_); (case lg => exact (HG.out.below (by repeat (first | (with_reducible first | exact HB.out | apply below_alloc | apply pw_below_drewN | apply below_drew1) | exact HB.out)))); rintro e w5 ⟨rfl, hb⟩; refine ⟨_, rfl, ?_⟩; have n0_ := Aside0.mk (below_step (by repeat (first | (with_reducible first | exact HB.out | apply below_alloc | apply pw_below_drewN | apply below_drew1) | exact HB.out)) hb); clear HB; have HB := n0_; clear n0_; (try clear hb); (try clear hb2); (try clear hk); (try clear hi)))
      go_ret
      exact ⟨by first | rfl | (simp [errW_none, errW_some] <;> rfl) | (simp [*, errW_none, errW_some] <;> rfl), by repeat (first | (with_reducible first | exact HB.out | apply below_alloc | apply pw_below_drewN | apply below_drew1) | exact HB.out)⟩
    · rw [if_neg c4] at H
      have c4b0 : (t118.toList == ([] : List UInt8)) = false := beq_eq_false_iff_ne.mpr c4
      have c4b1 : (t118.toList != ([] : List UInt8)) = true := bne_iff_ne.mpr c4
      obtain rfl := Option.some.inj H
      go_enter Tryd.func31, Tryd.ntmps31
      go_wp2_with (first | ((with_reducible refine gate_callee (f := 11) rfl ?_); refine goesL_ (some 8) rfl rfl Tryd.func11 (by kernel_rfl) rfl #[.string a0] rfl (by (try simp only [List.map_toArray, List.map_cons, List.map_nil]); first | done | rfl | (simp only [List.length_drop, List.length_take]; rfl)) ?_; (with_reducible refine (table_Take.calls a0 t117 t118 t119 _ ?lg A2.out).mono ?_); (case lg => exact (HG.out.below (by repeat (first | (with_reducible first | exact HB.out | apply below_alloc | apply pw_below_drewN | apply below_drew1) | exact HB.out)))); rintro e w6 ⟨rfl, hb⟩; refine ⟨_, rfl, ?_⟩; have n0_ := Aside0.mk (below_step (by repeat (first | (with_reducible first | exact HB.out | apply below_alloc | apply pw_below_drewN | apply below_drew1) | exact HB.out)) hb); clear HB; have HB := n0_; clear n0_; (try clear hb); (try clear hb2); (try clear hk); (try clear hi)))
      go_ret
      exact ⟨by first | rfl | (simp [errW_none, errW_some] <;> rfl) | (simp [*, errW_none, errW_some] <;> rfl), by repeat (first | (with_reducible first | exact HB.out | apply below_alloc | apply pw_below_drewN | apply below_drew1) | exact HB.out)⟩
  · rw [if_neg c3] at H
    have c3b0 : (t119 == 0) = false := beq_eq_false_iff_ne.mpr c3
    have c3b1 : (t119 != 0) = true := bne_iff_ne.mpr c3
    obtain rfl := Option.some.inj H
    go_enter Tryd.func31, Tryd.ntmps31
    go_wp2_with (first | ((with_reducible refine gate_callee (f := 11) rfl ?_); refine goesL_ (some 8) rfl rfl Tryd.func11 (by kernel_rfl) rfl #[.string a0] rfl (by (try simp only [List.map_toArray, List.map_cons, List.map_nil]); first | done | rfl | (simp only [List.length_drop, List.length_take]; rfl)) ?_; (with_reducible refine (table_Take.calls a0 t117 t118 t119 _ ?lg A2.out).mono ?_); (case lg => exact (HG.out.below (by repeat (first | (with_reducible first | exact HB.out | apply below_alloc | apply pw_below_drewN | apply below_drew1) | exact HB.out)))); rintro e w7 ⟨rfl, hb⟩; refine ⟨_, rfl, ?_⟩; have n0_ := Aside0.mk (below_step (by repeat (first | (with_reducible first | exact HB.out | apply below_alloc | apply pw_below_drewN | apply below_drew1) | exact HB.out)) hb); clear HB; have HB := n0_; clear n0_; (try clear hb); (try clear hb2); (try clear hk); (try clear hi)))
    go_ret
    exact ⟨by first | rfl | (simp [errW_none, errW_some] <;> rfl) | (simp [*, errW_none, errW_some] <;> rfl), by repeat (first | (with_reducible first | exact HB.out | apply below_alloc | apply pw_below_drewN | apply below_drew1) | exact HB.out)⟩


end Go.Proofs.YthdkmohelampbaaDoor.F
namespace Go.Proofs.YthdkmohelampbaaDoor.F
open Go.RowKit Go.Proofs.YthdkmohelampbaaDoorW.PrintWords Go.Proofs.YthdkmohelampbaaDoorW.PrintLast Go.Proofs.YthdkmohelampbaaDoorW.PrintMore
set_option linter.unusedVariables false
set_option linter.unusedSimpArgs false
open Go.Maps
def wholeR (s : ByteArray) : Int := if (tabR s).2.1 = 0 then (if (tabR s).1.size = 0 then 0 else 3) else (tabR s).2.1
theorem whole_f (s : ByteArray) (hz : s.size ≤ 4611686018427387904) : table_whole.f s = some (wholeR s) := by
  unfold table_whole.f table_Take.f wholeR
  rw [if_pos hz, Option.bind_some]
  unfold takenR
  by_cases e : (tabR s).2.1 = 0
  · rw [if_pos e, if_pos e]
    simp only
    rw [if_pos trivial]
    by_cases e0 : (tabR s).1.size = 0
    · rw [if_pos e0, if_pos (by rw [ba_empty e0, toList_data])]
    · rw [if_neg e0, if_neg]
      intro h
      exact e0 (by rw [toList_data] at h; rw [← size_list, h]; rfl)
  · rw [if_neg e, if_neg e]
    simp only
    rw [if_neg e]
def deepR (s : ByteArray) : Int × Int := if wholeR s = 0 then ((tabR s).2.2, 0) else (0, wholeR s)
def table_Deep.f (a0 : ByteArray) : Option (Int × Int) := if a0.size ≤ 4611686018427387904 then some (deepR a0) else none
set_option maxHeartbeats 4000000 in
set_option maxRecDepth 100000 in
theorem table_Deep.calls (a0 : ByteArray) (r1 r2 : Int) (w : World) (hg : Laid w) (h : table_Deep.f a0 = some (r1, r2)) :
    Calls Tryd.prog 14 #[.string a0] w fun e w' => e = .returned (.tuple #[.int .i64 r1, .int .i64 r2]) ∧ Below w.heap.size w w' := by
  have hz : a0.size ≤ 4611686018427387904 := by
    unfold table_Deep.f at h
    by_cases e : a0.size ≤ 4611686018427387904
    · exact e
    · rw [if_neg e] at h; cases h
  have ht := Aside0.mk (whole_f a0 hz)
  unfold table_Deep.f at h
  rw [if_pos hz] at h
  have HW := Aside0.mk (fun (w0 w' : World) (hL : Laid w0) (hs : SizesAt w0.heap.size w') (hb : Below w0.heap.size w0 w') => tab_calls hL a0 hz (TK.make hs hb))
  replace h := Option.some.inj h
  unfold deepR at h
  have hwh := wholeR a0
  generalize wholeR a0 = q at ht h
  generalize tabR a0 = t at h HW
  obtain ⟨t1, t2, t3⟩ := t
  simp only at h
  by_cases e : q = 0
  · subst e
    rw [if_pos rfl] at h
    obtain ⟨rfl, rfl⟩ := Prod.mk.injEq .. ▸ h
    have HG := Aside0.mk hg
    clear hg
    go_enter Tryd.func14, Tryd.ntmps14
    go_wp2_with (first | (go_at_call 31; refine (table_whole.calls _ _ _ HG.out ht.out).mono ?_; rintro e w1 ⟨rfl, hb1⟩) | (go_at_call 23; refine (table_sizes.calls _).mono ?_; rintro e w' ⟨rfl, hsz, hb⟩) | (go_at_call 24; refine (HW.out _ _ (HG.out.below hb1) hsz hb).mono ?_; rintro e w2 ⟨rfl, hT⟩; have hc1 := hT.cell1))
    go_ret2
    exact ⟨rfl, hb1.trans (hT.2.2.2.2.mono hb1.size)⟩
  · rw [if_neg e] at h
    obtain ⟨rfl, rfl⟩ := Prod.mk.injEq .. ▸ h
    have e1 : (q != 0) = true := by simpa using e
    go_enter Tryd.func14, Tryd.ntmps14
    go_wp2_with (first | (go_at_call 31; refine (table_whole.calls _ _ _ hg ht.out).mono ?_; rintro e w1 ⟨rfl, hb1⟩))
    go_ret2
    exact ⟨rfl, hb1⟩
end Go.Proofs.YthdkmohelampbaaDoor.F
namespace Go.Proofs.YthdkmohelampbaaDoor.F
open Go.RowKit Go.Proofs.YthdkmohelampbaaDoorW.PrintWords Go.Proofs.YthdkmohelampbaaDoorW.PrintLast Go.Proofs.YthdkmohelampbaaDoorW.PrintMore
set_option linter.unusedVariables false
set_option linter.unusedSimpArgs false

/-- How the body of a round may be left. -/
def sharedPost {σ : Type} (B : Nat) (J2 : σ → World → Prop) (Jx : Code → σ → World → Prop) (s : σ) (W : World) : Exit → Act → World → Prop
  | .normal, _, W' => KeepsFrom B W W' ∧ J2 s W'
  | .ret, _, W' => KeepsFrom B W W' ∧ Jx .ret s W'
  | .exit id, _, W' => KeepsFrom B W W' ∧ Jx (.exit id) s W'
  | .goto t, _, W' => KeepsFrom B W W' ∧ Jx (.goto t) s W'
  | .panic _, _, _ => False
  | .outgrown, _, _ => False

section
variable {F : Fence} {n : Nat} {P : Program}
/-- THE STATEMENT. J s: as yield is called with encs s · J1 s a: behind the assignment · J2 s: behind the round · Jx c s: the round has left by c · E: the iterator has come to its end. -/
theorem wpIn_rangeFunc_shared {σ : Type} {g : Operand} {ps : Array Tmp} {assign body : Code} {Q : Exit → Act → World → Prop} {a : Act} {w : World}
    (hro : F.round = none) (h1 : 1 ≤ n) {gf : Nat} {lb : Array Value} (hg : a.eval g = .func (.func gf) #[] lb) (hFg : F.fn gf) (eg : ∀ args w, (callFunc gf args).run P w = .ok (.enter gf args) w)
    (encs : σ → Array Value) (hps : ∀ s, (encs s).size = ps.size)
    (J : σ → World → Prop) (J1 : σ × Act → World → Prop) (J2 : σ → World → Prop) (Jx : Code → σ → World → Prop) (E : Unit → World → Prop)
    (hJ1 : OwnFrom w.heap.size J1) (hJ2 : OwnFrom w.heap.size J2) (hJx : ∀ c, OwnFrom w.heap.size (Jx c)) (hE : OwnFrom w.heap.size E)
    (hseq : ∀ (l : Nat) (B : World → Prop) (X : σ → World → Prop) (o1 o2 : Obj) (W1 : World), (w.alloc o1).alloc o2 = W1 → l = w.heap.size + 1 → (∀ W W', KeepsFrom w.heap.size W W' → B W → B W') → B W1 →
      (∀ s W, J s W → B W → YieldAt F (n - 1 - 1) P l (encs s) W fun e W' => (e = .returned (.bool true) ∧ J2 s W' ∧ B W') ∨ (e = .returned (.bool false) ∧ X s W')) →
      CallsIn F (n - 1) P gf (#[.func (.yield l) #[] #[]] ++ lb) W1 fun e W' => (∃ v, e = .returned v) ∧ ((E () W' ∧ B W') ∨ ∃ s, X s W'))
    (hassign : ∀ (l : Nat) (s : σ) (W : World) (K : Act → World → Prop), w.heap.size + 1 < W.heap.size → J s W → (∀ a' W', KeepsFrom w.heap.size W W' → J1 (s, a') W' → K a' W') →
      assign.wpIn (F.inRound l) (n - 1 - 1) P (Exit.then K (fun _ _ _ => False)) { tmps := (ps.zip (encs s)).foldl (fun t (p, v) => t.setIfInBounds p v) a.tmps, defers := [] } W)
    (hbody : ∀ (l : Nat) (s : σ) (a' : Act) (W : World), w.heap.size + 1 < W.heap.size → J1 (s, a') W → body.wpIn (F.inRound l) (n - 1 - 1) P (sharedPost w.heap.size J2 Jx s W) a' W)
    (hdone : ∀ (D : Nat) (W : World), w.heap.size ≤ D → E () W → W.heap[D]? = some (.deferred (some [])) → Q .normal { a with defers := { target := .collected D, args := #[] } :: a.defers } W)
    (hstop : ∀ (D : Nat) (c : Code) (s : σ) (W : World), w.heap.size ≤ D → Jx c s W → W.heap[D]? = some (.deferred (some [])) → c.wpIn F n P Q { a with defers := { target := .collected D, args := #[] } :: a.defers } W) :
    (Code.rangeFunc g ps assign body).wpIn F n P Q a w := by
  refine wpIn_rangeFunc ?_
  intro fn hfn
  rw [hro]
  obtain ⟨rec, hrec⟩ : ∃ rec : LoopState → Option Code → Loop, rec = fun st pe => { state := st, pending := pe, fn, tmps := a.tmps, params := ps, assign, body, defers := w.heap.size } := ⟨_, rfl⟩
  obtain ⟨W1, hW1⟩ : ∃ W1, (w.alloc (.deferred (some []))).alloc (.loop (rec .ready none)) = W1 := ⟨_, rfl⟩
  have hL1 : W1.heap[w.heap.size + 1]? = some (.loop (rec .ready none)) := by
    rw [← hW1]; have := World.alloc_heap_new (w.alloc (.deferred (some []))) (.loop (rec .ready none)); rwa [World.size_alloc] at this
  have hK1 : W1.heap[w.heap.size]? = some (.deferred (some [])) := by
    rw [← hW1]; exact (Below.heap_alloc _ _ _ (by simp)).trans (World.alloc_heap_new w _)
  refine ⟨w.heap.size + 1, [{ target := .collected w.heap.size, args := #[] }], W1, { target := .fn (.func gf) lb, args := #[.func (.yield (w.heap.size + 1)) #[] #[]] }, W1, gf,
    #[.func (.yield (w.heap.size + 1)) #[] #[]] ++ lb, W1, ?_, ?_, ?_, ?_, fun _ => h1, ?_⟩
  · rw [← hW1, hrec]; exact run_enterLoop_outer _ _ _ _ _
  · simp only [resolve, hg]
    simp [go_sem]
  · intro f' hf'; simp [Target.leads] at hf'; subst hf'; exact hFg
  · simp [invoke, go_sem, eg]
  · refine (hseq (w.heap.size + 1)
      (fun W => W.heap[w.heap.size + 1]? = some (.loop (rec .ready none)) ∧ W.heap[w.heap.size]? = some (.deferred (some [])))
      (fun s W => ∃ c, Jx c s W ∧ W.heap[w.heap.size + 1]? = some (.loop (rec .done (some c))) ∧ W.heap[w.heap.size]? = some (.deferred (some [])))
      _ _ W1 hW1 rfl
      (fun W W' hk hs => ⟨hk.same _ _ (by omega) hs.1 rfl, hk.same _ _ (Nat.le_refl _) hs.2 rfl⟩) ⟨hL1, hK1⟩ ?_).mono ?_
    · -- one round
      rintro s W hi ⟨hl, hk⟩
      have hlt : w.heap.size + 1 < W.heap.size := (Array.getElem?_eq_some_iff.1 hl).1
      have hy := run_yield (P := P) (args := encs s) hl (by rw [hrec]; exact hps s)
      rw [hrec] at hy
      refine ⟨fn, _, assign, body, hy, roundIn_of_wpIn hfn (hassign _ s W _ hlt hi fun a1 Wa hka hi1 => ?_)⟩
      have hla := hka.same _ _ (by omega) hl rfl
      have hda := hka.same _ _ (Nat.le_refl _) hk rfl
      have hlta : w.heap.size + 1 < Wa.heap.size := (Array.getElem?_eq_some_iff.1 hla).1
      refine ⟨_, run_beginRound hla (by rw [hrec]), ?_⟩
      have hl2 : (Wa.putObj (w.heap.size + 1) (.loop { rec .ready none with state := .busy })).heap[w.heap.size + 1]? = some (.loop { rec .ready none with state := .busy }) := World.putObj_heap_same hlta
      have hk2 : (Wa.putObj (w.heap.size + 1) (.loop { rec .ready none with state := .busy })).heap[w.heap.size]? = some (.deferred (some [])) := (World.putObj_heap_other (by omega)).trans hda
      refine wpIn_mono (hbody _ s a1 _ (by rw [World.putObj_size]; exact hlta) (hJ1.putObj (s := (s, a1)) _ hi1 (by omega) hla rfl)) ?_
      have fin : ∀ (jump : Option Code) (W3 : World), KeepsFrom w.heap.size (Wa.putObj (w.heap.size + 1) (.loop { rec .ready none with state := .busy })) W3 →
          (Instr.endRound (w.heap.size + 1) jump).run P W3 = .ok (.bool jump.isNone) (W3.putObj (w.heap.size + 1) (.loop (rec (if jump.isNone then .ready else .done) jump))) ∧
          W3.heap[w.heap.size + 1]? = some (.loop { rec .ready none with state := .busy }) ∧
          (W3.putObj (w.heap.size + 1) (.loop (rec (if jump.isNone then .ready else .done) jump))).heap[w.heap.size + 1]? = some (.loop (rec (if jump.isNone then .ready else .done) jump)) ∧
          (W3.putObj (w.heap.size + 1) (.loop (rec (if jump.isNone then .ready else .done) jump))).heap[w.heap.size]? = some (.deferred (some [])) := fun jump W3 hk3 => by
        have hl3 := hk3.same _ _ (by omega) hl2 rfl
        have := run_endRound (P := P) jump hl3
        rw [hrec] at this ⊢
        exact ⟨this, by rw [hrec] at hl3; exact hl3, World.putObj_heap_same (Array.getElem?_eq_some_iff.1 hl3).1, (World.putObj_heap_other (by omega)).trans (hk3.same _ _ (Nat.le_refl _) hk2 rfl)⟩
      rintro e a3 W3 hp
      cases e with
      | normal =>
        obtain ⟨hk3, hi3⟩ := hp
        obtain ⟨hr, hl3, hl4, hk4⟩ := fin none W3 hk3
        exact ⟨_, _, hr, .inl ⟨rfl, hJ2.putObj _ hi3 (by omega) hl3 rfl, hl4, hk4⟩⟩
      | ret =>
        obtain ⟨hk3, hi3⟩ := hp
        obtain ⟨hr, hl3, hl4, hk4⟩ := fin (some .ret) W3 hk3
        exact ⟨_, _, hr, .inr ⟨rfl, .ret, (hJx _).putObj _ hi3 (by omega) hl3 rfl, hl4, hk4⟩⟩
      | exit id =>
        obtain ⟨hk3, hi3⟩ := hp
        obtain ⟨hr, hl3, hl4, hk4⟩ := fin (some (.exit id)) W3 hk3
        exact ⟨_, _, hr, .inr ⟨rfl, .exit id, (hJx _).putObj _ hi3 (by omega) hl3 rfl, hl4, hk4⟩⟩
      | goto t =>
        obtain ⟨hk3, hi3⟩ := hp
        obtain ⟨hr, hl3, hl4, hk4⟩ := fin (some (.goto t)) W3 hk3
        exact ⟨_, _, hr, .inr ⟨rfl, .goto t, (hJx _).putObj _ hi3 (by omega) hl3 rfl, hl4, hk4⟩⟩
      | panic ch => exact hp.elim
      | outgrown => exact hp.elim
    · -- behind the iterator
      rintro e W2 ⟨⟨v, rfl⟩, (⟨hi, hl, hk⟩ | ⟨s, c, hi, hl, hk⟩)⟩
      · exact ⟨none, _, by have := run_endLoop (P := P) hl (by rw [hrec]; simp); rw [hrec] at this; exact this, hdone _ _ (Nat.le_refl _) (hE.putObj _ hi (by omega) hl rfl) ((World.putObj_heap_other (by omega)).trans hk)⟩
      · exact ⟨some c, _, by have := run_endLoop (P := P) hl (by rw [hrec]; simp); rw [hrec] at this; exact this, hstop _ c s _ (Nat.le_refl _) ((hJx c).putObj _ hi (by omega) hl rfl) ((World.putObj_heap_other (by omega)).trans hk)⟩
end
end Go.Proofs.YthdkmohelampbaaDoor.F
namespace Go.Proofs.YthdkmohelampbaaDoor.F
open Go.RowKit Go.Proofs.YthdkmohelampbaaDoorW.PrintWords Go.Proofs.YthdkmohelampbaaDoorW.PrintLast Go.Proofs.YthdkmohelampbaaDoorW.PrintMore
set_option linter.unusedVariables false
set_option linter.unusedSimpArgs false

theorem boxed_below {W W' : World} {B : Nat} {t : TypeId} {v : Value} (h : Boxed W B t v) (hb : Below W.heap.size W W') : Boxed W' B t v := (hb.block B h.lt).trans h
theorem R_other {α : Type} {d : Kd α} {e base : Nat} {ok : Nat → Prop} {W W' : World} {v : Value} {xs : List α} (h : d.R e W base ok v xs) {row : Option Nat} (hg : W.grownBy W' row) (hr : ∀ r, row = some r → ∃ o : Obj, W.heap[r]? = some o ∧ o.isCells = false) : d.R e W' base ok v xs := by
  refine Kd.R_mono (Kd.R_grown (Kd.R_bound h) hg fun k hk e => ?_) (fun k hk => hk.1)
  obtain ⟨_, _, _, q, _, cells, hc⟩ := hk
  obtain ⟨o, ho, hn⟩ := hr k e.symm
  rw [hc] at ho; cases ho; cases hn
theorem boxed_other {W W' : World} {B : Nat} {t : TypeId} {v : Value} (h : Boxed W B t v) {row : Option Nat} (hg : W.grownBy W' row) (hr : ∀ r, row = some r → ∃ o : Obj, W.heap[r]? = some o ∧ o.isCells = false) : Boxed W' B t v :=
  h.kept hg fun e => by
    obtain ⟨o, ho, hn⟩ := hr B e.symm
    rw [show W.heap[B]? = _ from h] at ho; cases ho; cases hn
theorem keepsFrom_below {B : Nat} {W W' : World} (h : Below W.heap.size W W') : KeepsFrom B W W' :=
  ⟨h.size, fun k o _ hk _ => (h.block k (Array.getElem?_eq_some_iff.1 hk).1).trans hk⟩
theorem boxed_at (W : World) (m : Nat) (t : TypeId) (v : Value) (e : W.heap.size = m) : Boxed (W.alloc (.cells #[v] t)) m t v := e ▸ Boxed.new W t v
theorem row_lower {w : World} {base base' e size n : Nat} {v : Value} {xs : List Value} (h : w.ownsRow base e size v n xs) (hb : base' ≤ base) : w.ownsRow base' e size v n xs := by
  obtain ⟨h1, h2 | ⟨g, cap, cur, h3, h4, h5⟩⟩ := h
  · exact ⟨h1, .inl h2⟩
  · exact ⟨h1, .inr ⟨g, cap, cur, h3, Nat.le_trans hb h4, h5⟩⟩
theorem row_ne {w : World} {base e size n B : Nat} {v : Value} {xs : List Value} (h : w.ownsRow base e size v n xs) (hB : B < base) : some B ≠ v.ownBlock := by
  obtain ⟨_, ⟨rfl, _⟩ | ⟨g, cap, cur, rfl, h4, _⟩⟩ := h
  · simp [Value.ownBlock]
  · simp only [Value.ownBlock, ne_eq, Option.some.injEq]; omega
theorem row_below {w w' : World} {base e size n : Nat} {v : Value} {xs : List Value} (h : w.ownsRow base e size v n xs) (hb : Below w.heap.size w w') : w'.ownsRow base e size v n xs := by
  obtain ⟨h1, h2 | ⟨g, cap, cur, h3, h4, h5, h6⟩⟩ := h
  · exact ⟨h1, .inl h2⟩
  · exact ⟨h1, .inr ⟨g, cap, cur, h3, h4, (hb.block g (Array.getElem?_eq_some_iff.1 h5).1).trans h5, h6⟩⟩
theorem row_other {W W' : World} {base e size n : Nat} {v : Value} {xs : List Value} (h : W.ownsRow base e size v n xs) {row : Option Nat} (hg : W.grownBy W' row) (hr : ∀ r, row = some r → ∃ o : Obj, W.heap[r]? = some o ∧ o.isCells = false) : W'.ownsRow base e size v n xs := by
  obtain ⟨h1, h2 | ⟨g, cap, cur, h3, h4, h5, h6⟩⟩ := h
  · exact ⟨h1, .inl h2⟩
  · refine ⟨h1, .inr ⟨g, cap, cur, h3, h4, (hg.block g (Array.getElem?_eq_some_iff.1 h5).1 fun e => ?_).trans h5, h6⟩⟩
    obtain ⟨o, ho, hn⟩ := hr g e.symm
    rw [h5] at ho; cases ho; cases hn
theorem row_strs {w : World} {base e : Nat} {v : Value} {xs : List ByteArray} (h : w.ownsRow base e 1 v xs.length (xs.map Value.string)) : Kd.R Kd.string e w base (fun _ => True) v xs := by
  refine ⟨fun _ _ => trivial, xs.map Value.string, h, ⟨by simp [Kd.string, Kd.scalar], fun j p hp => ?_⟩⟩
  show ((xs.map Value.string).drop (j * 1)).take 1 = [Value.string p]
  have hj := (List.getElem?_eq_some_iff.1 hp).1
  have e := (List.getElem?_eq_some_iff.1 hp).2
  rw [Nat.mul_one, List.drop_eq_getElem_cons (by simpa using hj)]
  simp [e]
end Go.Proofs.YthdkmohelampbaaDoor.F
namespace Go.Proofs.YthdkmohelampbaaDoor.F
open Go.RowKit Go.Proofs.YthdkmohelampbaaDoorW.PrintWords Go.Proofs.YthdkmohelampbaaDoorW.PrintLast Go.Proofs.YthdkmohelampbaaDoorW.PrintMore
set_option linter.unusedVariables false
set_option linter.unusedSimpArgs false
open Go.Maps
attribute [local go_sem] Oper.semAt_some
def sumB (l : List ByteArray) : Nat := (l.map ByteArray.size).sum
def mkGo : List ByteArray → List ByteArray → ByteArray → ByteArray × Int
  | [], _, acc => (acc, 0)
  | _ :: _, [], _ => (⟨#[]⟩, 2)
  | key :: ks, val :: vs, acc => if (layR 1 key).2 = 0 then (if (takenR val (tvalR val)).2.2 = 0 then (if (takenR val (tvalR val)).2.1.size = 0 then mkGo ks vs (acc ++ ((layR 1 key).1 ++ val)) else (⟨#[]⟩, 3)) else (⟨#[]⟩, (takenR val (tvalR val)).2.2)) else (⟨#[]⟩, (layR 1 key).2)
/-- the text's length, and the text; is it a table? -/
def closeR (t : ByteArray × Int) : ByteArray × Int := if t.2 = 0 then (if wholeR t.1 = 0 then (t.1, 0) else (⟨#[]⟩, wholeR t.1)) else (⟨#[]⟩, t.2)
def makeR (ks vs : List ByteArray) : ByteArray × Int :=
  if ks.length = vs.length then (if (mkGo ks vs ⟨#[]⟩).2 = 0 then closeR (layR 4 (mkGo ks vs ⟨#[]⟩).1) else (⟨#[]⟩, (mkGo ks vs ⟨#[]⟩).2)) else (⟨#[]⟩, 1)
def makeOk (l0 l1 : List ByteArray) : Prop := sumB l0 + sumB l1 + 8 * l0.length ≤ 1099511627776
instance (l0 l1 : List ByteArray) : Decidable (makeOk l0 l1) := inferInstanceAs (Decidable (_ ≤ _))
def table_Make.f (l0 l1 : List ByteArray) : Option (ByteArray × Int) := if makeOk l0 l1 then some (makeR l0 l1) else none
/-- a builder in block b that holds s -/
def Bld (B b : Nat) (s : ByteArray) (W : World) : Prop := Lib.IsBuilder 59 5 B b (Lib.strCells s) W
theorem strCells_app (s x : ByteArray) : Lib.strCells s ++ Lib.strCells x = Lib.strCells (s ++ x) := by
  unfold Lib.strCells
  rw [← List.map_append, append_data]
theorem Bld.below {B b : Nat} {s : ByteArray} {W W' : World} (h : Bld B b s W) (hb : Below W.heap.size W W') : Bld B b s W' := by
  have f : ∀ p, Lib.BuilderAt 59 5 B b p (Lib.strCells s) W → Lib.BuilderAt 59 5 B b p (Lib.strCells s) W' := by
    rintro p ⟨h1, v, h2, h3, h4⟩
    exact ⟨h1, v, (hb.block b (Array.getElem?_eq_some_iff.1 h2).1).trans h2, row_below h3 hb, h4⟩
  rcases h with h | h
  · exact .inl (f _ h)
  · exact .inr (f _ h)
theorem Bld.write {B b : Nat} {s x : ByteArray} {W : World} (h : Bld B b s W) (hlen : s.size + x.size ≤ 140737488355328) (hBw : B ≤ W.heap.size) :
    Calls Tryd.prog 28 #[.pointer (some ⟨b, 0, none⟩), .string x] W fun e w' => e = .returned (.tuple #[.int .i64 x.size, .nilIface]) ∧ Bld B b (s ++ x) w' ∧ Below B W w' := by
  refine (Any.Builder_WriteString laysW extraB B b (Lib.strCells s) x W h (by rw [Lib.strCells_length]; exact hlen) hBw).mono ?_
  rintro e w' ⟨rfl, h1, h2⟩
  exact ⟨rfl, .inr (by rw [← strCells_app]; exact h1), h2⟩
theorem Bld.string {B b : Nat} {s : ByteArray} {W : World} (h : Bld B b s W) (hBw : B ≤ W.heap.size) :
    Calls Tryd.prog 30 #[.pointer (some ⟨b, 0, none⟩)] W fun e w' => e = .returned (.string s) ∧ Below B W w' :=
  Any.Builder_String_any laysS extraB B b s.data.toList W h hBw
theorem Bld.new (w : World) : Bld w.heap.size w.heap.size ⟨#[]⟩ (w.alloc (.cells #[.pointer none, .slice none 0 0] 59)) := by
  refine .inl ⟨Nat.le_refl _, .slice none 0 0, Array.getElem?_push_size, ⟨rfl, .inl ⟨rfl, rfl⟩⟩, by simp [Value.ownBlock]⟩
theorem mkGo_cons (key val acc : ByteArray) (ks vs : List ByteArray) : mkGo (key :: ks) (val :: vs) acc = if (layR 1 key).2 = 0 then (if (takenR val (tvalR val)).2.2 = 0 then (if (takenR val (tvalR val)).2.1.size = 0 then mkGo ks vs (acc ++ ((layR 1 key).1 ++ val)) else (⟨#[]⟩, 3)) else (⟨#[]⟩, (takenR val (tvalR val)).2.2)) else (⟨#[]⟩, (layR 1 key).2) := rfl
theorem drop_getD (l : List ByteArray) (k : Nat) (h : k < l.length) : l.drop k = l.getD k ⟨#[]⟩ :: l.drop (k + 1) := by
  rw [List.drop_eq_getElem_cons h]
  congr 1
  simp [h]
theorem mk_ms (n k : Nat) (h : k < n) : n - ((k : Int) + 1).toNat < n - (k : Int).toNat := by omega
theorem mk_sz {acc k1 val : ByteArray} {a b n k key N : Nat} (hl : k1.size ≤ key + 8) (h : acc.size + (key + a) + (val.size + b) + 8 * (n - k) ≤ N) (hk : k < n) : (acc ++ (k1 ++ val)).size + a + b + 8 * (n - (k + 1)) ≤ N := by
  rw [size_append, size_append]; omega
theorem sumB_cons (x : ByteArray) (l : List ByteArray) : sumB (x :: l) = x.size + sumB l := by simp [sumB]
set_option maxHeartbeats 4000000 in
set_option maxRecDepth 100000 in
theorem table_Make.calls (A0 : Option Addr) (c0 : Nat) (l0 : List ByteArray) (A1 : Option Addr) (c1 : Nat) (l1 : List ByteArray) (r1 : ByteArray) (r2 : Int) (w : World) (hg : Laid w) (hr0 : Kd.C Kd.string w A0 l0.length l0) (hc0 : l0.length ≤ c0) (hr1 : Kd.C Kd.string w A1 l1.length l1) (hc1 : l1.length ≤ c1) (h : table_Make.f l0 l1 = some (r1, r2)) :
    Calls Tryd.prog 12 #[.slice A0 l0.length c0, .slice A1 l1.length c1] w fun e w' => e = .returned (.tuple #[.string r1, .int .i64 r2]) ∧ Below w.heap.size w w' := by
  have hz : makeOk l0 l1 := by
    unfold table_Make.f at h
    split at h
    · assumption
    · cases h
  unfold table_Make.f at h
  rw [if_pos hz] at h
  replace h := Option.some.inj h
  unfold makeR at h
  unfold makeOk at hz
  have HG := Aside0.mk hg
  have HR0 := Aside0.mk hr0
  have HR1 := Aside0.mk hr1
  clear hg hr0 hr1
  by_cases e : l0.length = l1.length
  · rw [if_pos e] at h
    have en : ((l0.length : Int) != (l1.length : Int)) = false := bne_eq_false_iff_eq.mpr (by omega)
    have H := Aside0.mk h
    have E := Aside0.mk e
    clear h e
    go_enter Tryd.func12, Tryd.ntmps12
    go_wp2
    go_loopw [23] (fun v wr => ∃ (k : Nat) (acc : ByteArray), v = .int .i64 k ∧ Aside0 (k ≤ l0.length) ∧ Aside0 (mkGo (l0.drop k) (l1.drop k) acc = mkGo l0 l1 ⟨#[]⟩) ∧ Aside0 (acc.size + sumB (l0.drop k) + sumB (l1.drop k) + 8 * (l0.length - k) ≤ 1099511627776) ∧ Bld w.heap.size w.heap.size acc wr ∧ Aside0 (Below w.heap.size w wr)) (fun v _ => l0.length - (intOf v).toNat)
    case atStart => exact ⟨0, ⟨#[]⟩, rfl, ⟨Nat.zero_le _⟩, ⟨rfl⟩, ⟨by show 0 + _ + _ + _ ≤ _; simpa using hz⟩, Bld.new w, ⟨(Below.refl _ w).alloc (Nat.le_refl _) _⟩⟩
    case round =>
      obtain ⟨k, acc, rfl, hk, hgo, hsz, hB, hbw⟩ := hrel
      have hll : l0.length ≤ 137438953472 := by omega
      clear hz
      by_cases hlt : k < l0.length
      · have hlt' : decide ((k : Int) < (l0.length : Int)) = true := decide_eq_true (by omega)
        obtain ⟨ad0, hA0, -⟩ := Kd.at_string HR0.out (k : Int) (by omega) (by omega)
        obtain ⟨ad1, hA1, -⟩ := Kd.at_string HR1.out (k : Int) (by omega) (by have := E.out; omega)
        subst hA0 hA1
        have hAt0 : ∀ W', Below w.heap.size w W' → W'.cell? (ad0.add k) = some (.string (l0.getD k ⟨#[]⟩)) := by
          intro W' hb
          obtain ⟨ad, hA, hc⟩ := Kd.at_string (Kd.C_below HR0.out hb) (k : Int) (by omega) (by omega)
          cases hA
          rwa [Int.toNat_natCast] at hc
        have hAt1 : ∀ W', Below w.heap.size w W' → W'.cell? (ad1.add k) = some (.string (l1.getD k ⟨#[]⟩)) := by
          intro W' hb
          obtain ⟨ad, hA, hc⟩ := Kd.at_string (Kd.C_below HR1.out hb) (k : Int) (by omega) (by have := E.out; omega)
          cases hA
          rwa [Int.toNat_natCast] at hc
        have hlt1 : (k : Int) < (l1.length : Int) := by have := E.out; omega
        have hlt0 : (k : Int) < (l0.length : Int) := by omega
        have hk0 : (0 : Int) ≤ (k : Int) := by omega
        have hd0 : l0.drop k = l0.getD k ⟨#[]⟩ :: l0.drop (k + 1) := drop_getD l0 k hlt
        have hd1 : l1.drop k = l1.getD k ⟨#[]⟩ :: l1.drop (k + 1) := drop_getD l1 k (by have := E.out; omega)
        rw [hd0, hd1, mkGo_cons] at hgo
        rw [hd0, hd1, sumB_cons, sumB_cons] at hsz
        have hc := hAt0 wr hbw.out
        generalize l0.getD k ⟨#[]⟩ = key at hAt0 hgo hsz hc
        generalize l1.getD k ⟨#[]⟩ = val at hAt1 hgo hsz
        have hs := hsz.out
        have hms := Aside0.mk (mk_ms l0.length k hlt)
        have hsh := Aside0.mk (short_k (k := 12) (by decide) key (by omega))
        have hlz := lay_size 1 key
        have hvl : table_Value.f val = some (takenR val (tvalR val)) := by unfold table_Value.f; rw [if_pos (by omega)]
        generalize takenR val (tvalR val) = tv at hvl hgo
        obtain ⟨v1, v2, v3⟩ := tv
        generalize layR 1 key = lk at hsh hlz hgo
        obtain ⟨k1, k2⟩ := lk
        simp only at hgo hlz
        have HVL := Aside0.mk hvl
        have hnx := Aside0.mk (mk_sz hlz hs hlt)
        have hwl : Aside0 (acc.size + (k1 ++ val).size ≤ 140737488355328) := ⟨by rw [size_append]; omega⟩
        have hcat : k1.size + val.size ≤ 9223372036854775807 := by omega
        have HLT := Aside0.mk hlt
        clear hvl hd0 hd1 HR0 HR1 hs hlz
        by_cases e1 : k2 = 0
        · subst e1
          rw [if_pos rfl] at hgo
          by_cases e2 : v3 = 0
          · subst e2
            rw [if_pos rfl] at hgo
            by_cases e3 : v2.size = 0
            · rw [if_pos e3] at hgo
              have hv2 : v2 = ⟨#[]⟩ := ba_empty e3
              subst hv2
              go_wp2_with (first | (go_at_call 27; (refine (text_Short.calls 12 key k1 0 _ (HG.out.below hbw.out) hsh.out).mono ?_); rintro e w1 ⟨rfl, hb1⟩; have hbw1 := hbw.out.trans (hb1.mono hbw.out.size); have hx1 := hAt1 _ hbw1) | (go_at_call 15; (refine (table_Value.calls val v1 ⟨#[]⟩ 0 _ (HG.out.below hbw1) HVL.out).mono ?_); rintro e w2 ⟨rfl, hb2⟩; have hbw2 := hbw1.trans (hb2.mono hbw1.size); have hx2 := hAt1 _ hbw2) | (go_at_call 28; (refine (((hB.below hb1).below hb2).write (x := k1 ++ val) hwl.out hbw2.size).mono ?_); rintro e w3 ⟨rfl, hB3, hb3⟩))
              have hw1 : wrap64 ((k : Int) + 1) = (k : Int) + 1 := wrap64_of (by omega) (by omega)
              go_roundw
              case measure => exact hms.out
              case rel => exact ⟨k + 1, acc ++ (k1 ++ val), by go_num, HLT, hgo, hnx, hB3, ⟨hbw2.trans hb3⟩⟩
            · rw [if_neg e3] at hgo
              have hne : (!v2.toList.isEmpty) = true := not_empty e3
              go_wp2_with (first | (go_at_call 27; (refine (text_Short.calls 12 key k1 0 _ (HG.out.below hbw.out) hsh.out).mono ?_); rintro e w1 ⟨rfl, hb1⟩; have hbw1 := hbw.out.trans (hb1.mono hbw.out.size); have hx1 := hAt1 _ hbw1) | (go_at_call 15; (refine (table_Value.calls val v1 v2 0 _ (HG.out.below hbw1) HVL.out).mono ?_); rintro e w2 ⟨rfl, hb2⟩; have hbw2 := hbw1.trans (hb2.mono hbw1.size); have hx2 := hAt1 _ hbw2))
              go_ret2
              have hR := H.out
              rw [← hgo.out] at hR
              simp only at hR
              rw [if_neg (show ¬ (3 : Int) = 0 by decide)] at hR
              obtain ⟨rfl, rfl⟩ := Prod.mk.inj hR
              exact ⟨rfl, hbw2⟩
          · rw [if_neg e2] at hgo
            have e2' : (v3 != 0) = true := by simpa using e2
            go_wp2_with (first | (go_at_call 27; (refine (text_Short.calls 12 key k1 0 _ (HG.out.below hbw.out) hsh.out).mono ?_); rintro e w1 ⟨rfl, hb1⟩; have hbw1 := hbw.out.trans (hb1.mono hbw.out.size); have hx1 := hAt1 _ hbw1) | (go_at_call 15; (refine (table_Value.calls val v1 v2 v3 _ (HG.out.below hbw1) HVL.out).mono ?_); rintro e w2 ⟨rfl, hb2⟩; have hbw2 := hbw1.trans (hb2.mono hbw1.size); have hx2 := hAt1 _ hbw2))
            go_ret2
            have hR := H.out
            rw [← hgo.out] at hR
            simp only at hR
            rw [if_neg e2] at hR
            obtain ⟨rfl, rfl⟩ := Prod.mk.inj hR
            exact ⟨rfl, hbw2⟩
        · have e1' : (k2 != 0) = true := by simpa using e1
          rw [if_neg e1] at hgo
          go_wp2_with (first | (go_at_call 27; (refine (text_Short.calls 12 key k1 k2 _ (HG.out.below hbw.out) hsh.out).mono ?_); rintro e w1 ⟨rfl, hb1⟩; have hbw1 := hbw.out.trans (hb1.mono hbw.out.size); have hx1 := hAt1 _ hbw1))
          go_ret2
          have hR := H.out
          rw [← hgo.out] at hR
          simp only at hR
          rw [if_neg e1] at hR
          obtain ⟨rfl, rfl⟩ := Prod.mk.inj hR
          exact ⟨rfl, hbw1⟩
      · obtain rfl : k = l0.length := by have := hk.out; omega
        have hlt' : decide ((l0.length : Int) < (l0.length : Int)) = false := decide_eq_false (by omega)
        rw [List.drop_length] at hgo
        have hR := H.out
        rw [← hgo.out] at hR
        simp only [mkGo] at hR
        rw [if_pos trivial] at hR
        unfold closeR at hR
        have hs := hsz.out
        have hln := Aside0.mk (long_k (k := 12) (by decide) acc (by omega))
        have hlz := lay_size 4 acc
        generalize layR 4 acc = t at hR hln hlz
        obtain ⟨t1, t2⟩ := t
        simp only at hR hlz
        have hwh := Aside0.mk (whole_f t1 (by omega))
        generalize wholeR t1 = q at hR hwh
        have HR := Aside0.mk hR
        clear hR HR0 HR1 hgo H
        by_cases e1 : t2 = 0
        · subst e1
          have hR := HR.out
          rw [if_pos rfl] at hR
          by_cases e2 : q = 0
          · subst e2
            rw [if_pos rfl] at hR
            obtain ⟨rfl, rfl⟩ := Prod.mk.inj hR
            clear hR HR
            go_wp2_with (first | (go_at_call 30; refine (hB.string hbw.out.size).mono ?_; rintro e w1 ⟨rfl, hb1⟩; have hbw1 := hbw.out.trans hb1) | (go_at_call 29; refine (text_Long.calls 12 acc t1 0 _ (HG.out.below hbw1) hln.out).mono ?_; rintro e w2 ⟨rfl, hb2⟩; have hbw2 := hbw1.trans (hb2.mono hbw1.size)) | (go_at_call 31; refine (table_whole.calls t1 0 _ (HG.out.below hbw2) hwh.out).mono ?_; rintro e w3 ⟨rfl, hb3⟩; have hbw3 := hbw2.trans (hb3.mono hbw2.size)))
            go_ret2
            exact ⟨rfl, hbw3⟩
          · rw [if_neg e2] at hR
            obtain ⟨rfl, rfl⟩ := Prod.mk.inj hR
            clear hR HR
            have e2' : (q != 0) = true := by simpa using e2
            go_wp2_with (first | (go_at_call 30; refine (hB.string hbw.out.size).mono ?_; rintro e w1 ⟨rfl, hb1⟩; have hbw1 := hbw.out.trans hb1) | (go_at_call 29; refine (text_Long.calls 12 acc t1 0 _ (HG.out.below hbw1) hln.out).mono ?_; rintro e w2 ⟨rfl, hb2⟩; have hbw2 := hbw1.trans (hb2.mono hbw1.size)) | (go_at_call 31; refine (table_whole.calls t1 q _ (HG.out.below hbw2) hwh.out).mono ?_; rintro e w3 ⟨rfl, hb3⟩; have hbw3 := hbw2.trans (hb3.mono hbw2.size)))
            go_ret2
            exact ⟨rfl, hbw3⟩
        · have hR := HR.out
          rw [if_neg e1] at hR
          obtain ⟨rfl, rfl⟩ := Prod.mk.inj hR
          clear hR HR
          have e1' : (t2 != 0) = true := by simpa using e1
          go_wp2_with (first | (go_at_call 30; refine (hB.string hbw.out.size).mono ?_; rintro e w1 ⟨rfl, hb1⟩; have hbw1 := hbw.out.trans hb1) | (go_at_call 29; refine (text_Long.calls 12 acc t1 t2 _ (HG.out.below hbw1) hln.out).mono ?_; rintro e w2 ⟨rfl, hb2⟩; have hbw2 := hbw1.trans (hb2.mono hbw1.size)))
          go_ret2
          exact ⟨rfl, hbw2⟩
  · rw [if_neg e] at h
    obtain ⟨rfl, rfl⟩ := Prod.mk.inj h
    have en : ((l0.length : Int) != (l1.length : Int)) = true := bne_iff_ne.mpr (by omega)
    clear h
    go_enter Tryd.func12, Tryd.ntmps12
    go_wp2
    go_ret2
    exact ⟨rfl, Below.refl _ _⟩
end Go.Proofs.YthdkmohelampbaaDoor.F
namespace Go.Proofs.YthdkmohelampbaaDoor.F
open Go.RowKit Go.Proofs.YthdkmohelampbaaDoorW.PrintWords Go.Proofs.YthdkmohelampbaaDoorW.PrintLast Go.Proofs.YthdkmohelampbaaDoorW.PrintMore
attribute [local go_sem] max2_int min2_int max_two min_two max_three min_three max_four min_four
set_option linter.unusedVariables false
set_option linter.unusedSimpArgs false

/-! ### interchangelaw03_shown: function 10 -/
def interchangelaw03_shown.f  : Option (Bool) := (table_Make.f (([(⟨#[97]⟩ : ByteArray)] : List ByteArray)) (([(⟨#[116, 1]⟩ : ByteArray)] : List ByteArray))).bind fun bt126 => (if bt126.2 = 0 then (some (bt126.1.toList == ([0, 0, 0, 4, 1, 97, 116, 1] : List UInt8))) else (some false))
set_option maxHeartbeats 8000000 in
set_option maxRecDepth 100000 in
theorem interchangelaw03_shown.calls  (r : Bool) (w : World) (hg : Laid w) (h : interchangelaw03_shown.f  = some r) :
    Calls Tryd.prog 10 #[] w fun e w' => e = .returned (.bool r) ∧ Below w.heap.size w w' := by
  have HG := Aside0.mk hg
  clear hg
  have HB := Aside0.mk (Below.refl w.heap.size w)
  have H : ((table_Make.f (([(⟨#[97]⟩ : ByteArray)] : List ByteArray)) (([(⟨#[116, 1]⟩ : ByteArray)] : List ByteArray))).bind fun bt126 => (if bt126.2 = 0 then (some (bt126.1.toList == ([0, 0, 0, 4, 1, 97, 116, 1] : List UInt8))) else (some false))) = some r := h
  clear h
  obtain ⟨y120, hy120⟩ : ∃ y_ : List ByteArray, y_ = (([(⟨#[97]⟩ : ByteArray)] : List ByteArray)) := ⟨_, rfl⟩
  replace H : ((table_Make.f y120 (([(⟨#[116, 1]⟩ : ByteArray)] : List ByteArray))).bind fun bt126 => (if bt126.2 = 0 then (some (bt126.1.toList == ([0, 0, 0, 4, 1, 97, 116, 1] : List UInt8))) else (some false))) = some r := by first | (rw [hy120]; with_reducible exact H) | (have H2_ := (Option.bind_some _ _).symm.trans H; rw [hy120]; with_reducible exact H2_) | (have H2_ := (Option.bind_some _ _).symm.trans H; with_reducible exact H2_) | with_reducible exact H | (rw [hy120]; exact H) | exact H
  have Ny120 := Aside0.mk hy120
  clear hy120
  obtain ⟨y123, hy123⟩ : ∃ y_ : List ByteArray, y_ = (([(⟨#[116, 1]⟩ : ByteArray)] : List ByteArray)) := ⟨_, rfl⟩
  replace H : ((table_Make.f y120 y123).bind fun bt126 => (if bt126.2 = 0 then (some (bt126.1.toList == ([0, 0, 0, 4, 1, 97, 116, 1] : List UInt8))) else (some false))) = some r := by first | (rw [hy123]; with_reducible exact H) | (have H2_ := (Option.bind_some _ _).symm.trans H; rw [hy123]; with_reducible exact H2_) | (have H2_ := (Option.bind_some _ _).symm.trans H; with_reducible exact H2_) | with_reducible exact H | (rw [hy123]; exact H) | exact H
  have Ny123 := Aside0.mk hy123
  clear hy123
  replace H := Option.bind_eq_some_iff.mp H
  obtain ⟨⟨t126, t127⟩, A10, H⟩ := H
  replace H : (if t127 = 0 then (some (t126.toList == ([0, 0, 0, 4, 1, 97, 116, 1] : List UInt8))) else (some false)) = some r := H
  have A1 := Aside0.mk A10
  clear A10
  by_cases c2 : t127 = 0
  · rw [if_pos c2] at H
    have c2b0 : (t127 == 0) = true := beq_iff_eq.mpr c2
    have c2b1 : (t127 != 0) = false := bne_eq_false_iff_eq.mpr c2
    clear c2
    obtain rfl := Option.some.inj H
    go_enter Tryd.func10, Tryd.ntmps10
    go_wp2_with (first | ((with_reducible refine gate_dst (N := 4) rfl ?_); refine Kd.R_lit Kd.string _ 9 ?hg (N := 4) ?hd (xs := ([(⟨#[97]⟩ : ByteArray)] : List ByteArray)) (inner := [.string (⟨#[97]⟩ : ByteArray)]) (ok := fun _ => True) (okp := fun _ => True) ?hr ?hp (fun _ hk => hk) trivial (Below.refl _ _) (Nat.le_refl _) (by simp) ?_; (case hd => rfl); (case hg => rfl); (case hr => first | (go_simp; done) | (go_simp; rfl)); (case hp => exact (Reps.one (show Kd.M Kd.string _ _ _ (⟨#[97]⟩ : ByteArray) [.string (⟨#[97]⟩ : ByteArray)] from rfl) (Reps.none _ _))); intro v121 w3 ho4 hb hg_ hnew_; clear hg_ hnew_; (first | rw [← Ny120.out] at ho4 | (simp only [Int.reduceToNat] at ho4; rw [← Ny120.out] at ho4)); have n0_ := Aside0.mk (Kd.R_lower ho4 (below_size (by repeat (first | (with_reducible first | exact HB.out | apply below_alloc | apply pw_below_drewN | apply below_drew1) | exact HB.out)))); have n1_ := Aside0.mk (below_step (by repeat (first | (with_reducible first | exact HB.out | apply below_alloc | apply pw_below_drewN | apply below_drew1) | exact HB.out)) hb); clear HB; have HO122 := n0_; have HB := n1_; clear n0_ n1_; clear hb ho4) | ((with_reducible refine gate_dst (N := 5) rfl ?_); refine Kd.R_lit Kd.string _ 9 ?hg (N := 5) ?hd (xs := ([(⟨#[116, 1]⟩ : ByteArray)] : List ByteArray)) (inner := [.string (⟨#[116, 1]⟩ : ByteArray)]) (ok := fun _ => True) (okp := fun _ => True) ?hr ?hp (fun _ hk => hk) trivial (Below.refl _ _) (Nat.le_refl _) (by simp) ?_; (case hd => rfl); (case hg => rfl); (case hr => first | (go_simp; done) | (go_simp; rfl)); (case hp => exact (Reps.one (show Kd.M Kd.string _ _ _ (⟨#[116, 1]⟩ : ByteArray) [.string (⟨#[116, 1]⟩ : ByteArray)] from rfl) (Reps.none _ _))); intro v124 w5 ho6 hb hg_ hnew_; clear hg_ hnew_; (first | rw [← Ny123.out] at ho6 | (simp only [Int.reduceToNat] at ho6; rw [← Ny123.out] at ho6)); have n0_ := Aside0.mk (Kd.R_elder' (by (with_reducible repeat (first | apply Kd.R_alloc | apply Kd.R_drewN | apply Kd.R_drew)); exact HO122.out) (Kd.R_base ho6) hb); have n1_ := Aside0.mk (Kd.R_lower (Kd.R_new' ho6 (Kd.R_lt (by (with_reducible repeat (first | apply Kd.R_alloc | apply Kd.R_drewN | apply Kd.R_drew)); exact HO122.out))) (below_size (by repeat (first | (with_reducible first | exact HB.out | apply below_alloc | apply pw_below_drewN | apply below_drew1) | exact HB.out)))); have n2_ := Aside0.mk (below_step (by repeat (first | (with_reducible first | exact HB.out | apply below_alloc | apply pw_below_drewN | apply below_drew1) | exact HB.out)) hb); clear HO122; clear HB; have HO122 := n0_; have HO125 := n1_; have HB := n2_; clear n0_ n1_ n2_; clear hb ho6; obtain ⟨Ao7, co7, eo7⟩ := Kd.R_slice HO122.out; subst eo7; obtain ⟨Ao8, co8, eo8⟩ := Kd.R_slice HO125.out; subst eo8) | ((with_reducible refine gate_callee (f := 12) rfl ?_); refine goesL_ (some 6) rfl rfl Tryd.func12 (by kernel_rfl) rfl #[.slice Ao7 y120.length co7, .slice Ao8 y123.length co8] rfl (by (try simp only [List.map_toArray, List.map_cons, List.map_nil]); first | done | rfl | (simp only [List.length_drop, List.length_take]; rfl)) ?_; (with_reducible refine (table_Make.calls _ _ y120 _ _ y123 t126 t127 _ ?lg ?side1 ?side2 ?side3 ?side4 A1.out).mono ?_); (case lg => exact (HG.out.below (by repeat (first | (with_reducible first | exact HB.out | apply below_alloc | apply pw_below_drewN | apply below_drew1) | exact HB.out)))); (case side1 => repeat (first | exact (Kd.R_reads' HO122.out).2.2 | (with_reducible refine Kd.C_alloc ?_ _) | (with_reducible refine Kd.C_drewN ?_ _) | (with_reducible refine Kd.C_drew ?_))); (case side2 => exact (Kd.R_reads' HO122.out).2.1); (case side3 => repeat (first | exact (Kd.R_reads' HO125.out).2.2 | (with_reducible refine Kd.C_alloc ?_ _) | (with_reducible refine Kd.C_drewN ?_ _) | (with_reducible refine Kd.C_drew ?_))); (case side4 => exact (Kd.R_reads' HO125.out).2.1); rintro e w9 ⟨rfl, hb⟩; refine ⟨_, rfl, ?_⟩; have n0_ := Aside0.mk (Kd.R_below (by (with_reducible repeat (first | apply Kd.R_alloc | apply Kd.R_drewN | apply Kd.R_drew)); exact HO122.out) hb); have n1_ := Aside0.mk (Kd.R_below (by (with_reducible repeat (first | apply Kd.R_alloc | apply Kd.R_drewN | apply Kd.R_drew)); exact HO125.out) hb); have n2_ := Aside0.mk (below_step (by repeat (first | (with_reducible first | exact HB.out | apply below_alloc | apply pw_below_drewN | apply below_drew1) | exact HB.out)) hb); clear HO122; clear HO125; clear HB; have HO122 := n0_; have HO125 := n1_; have HB := n2_; clear n0_ n1_ n2_; (try clear hb); (try clear hb2); (try clear hk); (try clear hi)))
    go_ret
    exact ⟨by first | rfl | (simp [errW_none, errW_some] <;> rfl) | (simp [*, errW_none, errW_some] <;> rfl), by repeat (first | (with_reducible first | exact HB.out | apply below_alloc | apply pw_below_drewN | apply below_drew1) | exact HB.out)⟩
  · rw [if_neg c2] at H
    have c2b0 : (t127 == 0) = false := beq_eq_false_iff_ne.mpr c2
    have c2b1 : (t127 != 0) = true := bne_iff_ne.mpr c2
    obtain rfl := Option.some.inj H
    go_enter Tryd.func10, Tryd.ntmps10
    go_wp2_with (first | ((with_reducible refine gate_dst (N := 4) rfl ?_); refine Kd.R_lit Kd.string _ 9 ?hg (N := 4) ?hd (xs := ([(⟨#[97]⟩ : ByteArray)] : List ByteArray)) (inner := [.string (⟨#[97]⟩ : ByteArray)]) (ok := fun _ => True) (okp := fun _ => True) ?hr ?hp (fun _ hk => hk) trivial (Below.refl _ _) (Nat.le_refl _) (by simp) ?_; (case hd => rfl); (case hg => rfl); (case hr => first | (go_simp; done) | (go_simp; rfl)); (case hp => exact (Reps.one (show Kd.M Kd.string _ _ _ (⟨#[97]⟩ : ByteArray) [.string (⟨#[97]⟩ : ByteArray)] from rfl) (Reps.none _ _))); intro v121 w10 ho11 hb hg_ hnew_; clear hg_ hnew_; (first | rw [← Ny120.out] at ho11 | (simp only [Int.reduceToNat] at ho11; rw [← Ny120.out] at ho11)); have n0_ := Aside0.mk (Kd.R_lower ho11 (below_size (by repeat (first | (with_reducible first | exact HB.out | apply below_alloc | apply pw_below_drewN | apply below_drew1) | exact HB.out)))); have n1_ := Aside0.mk (below_step (by repeat (first | (with_reducible first | exact HB.out | apply below_alloc | apply pw_below_drewN | apply below_drew1) | exact HB.out)) hb); clear HB; have HO122 := n0_; have HB := n1_; clear n0_ n1_; clear hb ho11) | ((with_reducible refine gate_dst (N := 5) rfl ?_); refine Kd.R_lit Kd.string _ 9 ?hg (N := 5) ?hd (xs := ([(⟨#[116, 1]⟩ : ByteArray)] : List ByteArray)) (inner := [.string (⟨#[116, 1]⟩ : ByteArray)]) (ok := fun _ => True) (okp := fun _ => True) ?hr ?hp (fun _ hk => hk) trivial (Below.refl _ _) (Nat.le_refl _) (by simp) ?_; (case hd => rfl); (case hg => rfl); (case hr => first | (go_simp; done) | (go_simp; rfl)); (case hp => exact (Reps.one (show Kd.M Kd.string _ _ _ (⟨#[116, 1]⟩ : ByteArray) [.string (⟨#[116, 1]⟩ : ByteArray)] from rfl) (Reps.none _ _))); intro v124 w12 ho13 hb hg_ hnew_; clear hg_ hnew_; (first | rw [← Ny123.out] at ho13 | (simp only [Int.reduceToNat] at ho13; rw [← Ny123.out] at ho13)); have n0_ := Aside0.mk (Kd.R_elder' (by (with_reducible repeat (first | apply Kd.R_alloc | apply Kd.R_drewN | apply Kd.R_drew)); exact HO122.out) (Kd.R_base ho13) hb); have n1_ := Aside0.mk (Kd.R_lower (Kd.R_new' ho13 (Kd.R_lt (by (with_reducible repeat (first | apply Kd.R_alloc | apply Kd.R_drewN | apply Kd.R_drew)); exact HO122.out))) (below_size (by repeat (first | (with_reducible first | exact HB.out | apply below_alloc | apply pw_below_drewN | apply below_drew1) | exact HB.out)))); have n2_ := Aside0.mk (below_step (by repeat (first | (with_reducible first | exact HB.out | apply below_alloc | apply pw_below_drewN | apply below_drew1) | exact HB.out)) hb); clear HO122; clear HB; have HO122 := n0_; have HO125 := n1_; have HB := n2_; clear n0_ n1_ n2_; clear hb ho13; obtain ⟨Ao14, co14, eo14⟩ := Kd.R_slice HO122.out; subst eo14; obtain ⟨Ao15, co15, eo15⟩ := Kd.R_slice HO125.out; subst eo15) | ((with_reducible refine gate_callee (f := 12) rfl ?_); refine goesL_ (some 6) rfl rfl Tryd.func12 (by kernel_rfl) rfl #[.slice Ao14 y120.length co14, .slice Ao15 y123.length co15] rfl (by (try simp only [List.map_toArray, List.map_cons, List.map_nil]); first | done | rfl | (simp only [List.length_drop, List.length_take]; rfl)) ?_; (with_reducible refine (table_Make.calls _ _ y120 _ _ y123 t126 t127 _ ?lg ?side1 ?side2 ?side3 ?side4 A1.out).mono ?_); (case lg => exact (HG.out.below (by repeat (first | (with_reducible first | exact HB.out | apply below_alloc | apply pw_below_drewN | apply below_drew1) | exact HB.out)))); (case side1 => repeat (first | exact (Kd.R_reads' HO122.out).2.2 | (with_reducible refine Kd.C_alloc ?_ _) | (with_reducible refine Kd.C_drewN ?_ _) | (with_reducible refine Kd.C_drew ?_))); (case side2 => exact (Kd.R_reads' HO122.out).2.1); (case side3 => repeat (first | exact (Kd.R_reads' HO125.out).2.2 | (with_reducible refine Kd.C_alloc ?_ _) | (with_reducible refine Kd.C_drewN ?_ _) | (with_reducible refine Kd.C_drew ?_))); (case side4 => exact (Kd.R_reads' HO125.out).2.1); rintro e w16 ⟨rfl, hb⟩; refine ⟨_, rfl, ?_⟩; have n0_ := Aside0.mk (Kd.R_below (by (with_reducible repeat (first | apply Kd.R_alloc | apply Kd.R_drewN | apply Kd.R_drew)); exact HO122.out) hb); have n1_ := Aside0.mk (Kd.R_below (by (with_reducible repeat (first | apply Kd.R_alloc | apply Kd.R_drewN | apply Kd.R_drew)); exact HO125.out) hb); have n2_ := Aside0.mk (below_step (by repeat (first | (with_reducible first | exact HB.out | apply below_alloc | apply pw_below_drewN | apply below_drew1) | exact HB.out)) hb); clear HO122; clear HO125; clear HB; have HO122 := n0_; have HO125 := n1_; have HB := n2_; clear n0_ n1_ n2_; (try clear hb); (try clear hb2); (try clear hk); (try clear hi)))
    go_ret
    exact ⟨by first | rfl | (simp [errW_none, errW_some] <;> rfl) | (simp [*, errW_none, errW_some] <;> rfl), by repeat (first | (with_reducible first | exact HB.out | apply below_alloc | apply pw_below_drewN | apply below_drew1) | exact HB.out)⟩


end Go.Proofs.YthdkmohelampbaaDoor.F
namespace Go.Proofs.YthdkmohelampbaaDoor.F
open Go.RowKit Go.Proofs.YthdkmohelampbaaDoorW.PrintWords Go.Proofs.YthdkmohelampbaaDoorW.PrintLast Go.Proofs.YthdkmohelampbaaDoorW.PrintMore
attribute [local go_sem] max2_int min2_int max_two min_two max_three min_three max_four min_four
set_option linter.unusedVariables false
set_option linter.unusedSimpArgs false

/-! ### interchangeref01_Take: function 52 -/
mutual
def interchangeref01_Take.j0 : Nat → ByteArray → Int → Bool → Option (Int × ByteArray × Int)
  | 0, _, _, _ => none
  | k + 1, x0, x1, x22 => if x22 = true then (some (0, (⟨#[]⟩ : ByteArray), 1)) else (if (x0.size : Int) < x1 then (some (0, (⟨#[]⟩ : ByteArray), 2)) else (interchangeref01_Take.l0 k x0 x1 0 0))
def interchangeref01_Take.l0 : Nat → ByteArray → Int → Int → Int → Option (Int × ByteArray × Int)
  | 0, _, _, _, _ => none
  | k + 1, x0, x1, x7, x8 => if x8 < x1 then (if 0 ≤ x8 then (if x8 < (x0.size : Int) then (interchangeref01_Take.l0 k x0 x1 (IntKind.u64.wrap ((IntKind.u64.wrap (256 * x7)) + (IntKind.u64.wrap (bt x0 x8)))) (wrap64 (x8 + 1))) else (none)) else (none)) else (if 0 ≤ x1 then (if x1 ≤ (x0.size : Int) then (some (x7, x0.extract (x1 : Int).toNat x0.size, 0)) else (none)) else (none))
end
def interchangeref01_Take.f (k : Nat) (a0 : ByteArray) (a1 : Int) : Option (Int × ByteArray × Int) := if a1 = 1 then (interchangeref01_Take.j0 k a0 a1 false) else (if a1 = 2 then (interchangeref01_Take.j0 k a0 a1 false) else (if a1 = 4 then (interchangeref01_Take.j0 k a0 a1 false) else (interchangeref01_Take.j0 k a0 a1 (a1 != 8))))
theorem interchangeref01_Take.mono_l : ∀ k, (∀ y0 y1 y2, LeO (interchangeref01_Take.j0 k y0 y1 y2) (interchangeref01_Take.j0 (k + 1) y0 y1 y2)) ∧ (∀ y0 y1 y2 y3, LeO (interchangeref01_Take.l0 k y0 y1 y2 y3) (interchangeref01_Take.l0 (k + 1) y0 y1 y2 y3))
  | 0 => ⟨fun _ _ _ r h => by simp [interchangeref01_Take.j0] at h, fun _ _ _ _ r h => by simp [interchangeref01_Take.l0] at h⟩
  | k + 1 => by
    obtain ⟨ih0, ih1⟩ := interchangeref01_Take.mono_l k
    refine ⟨?_, ?_⟩
    · intro y0 y1 y2
      unfold interchangeref01_Take.j0
      repeat' first
      | (with_reducible exact ih0 _ _ _)
      | (with_reducible exact ih1 _ _ _ _)
      | (with_reducible exact LeO.refl _)
      | (with_reducible exact LeO.none _)
      | (with_reducible refine LeO.ite ?_ ?_)
      | (with_reducible refine LeO.bind ?_ (fun _ => ?_))
      | exact ih0 _ _ _
      | exact ih1 _ _ _ _
      | exact LeO.none _
      | refine LeO.ite ?_ ?_
      | refine LeO.bind ?_ (fun _ => ?_)
    · intro y0 y1 y2 y3
      unfold interchangeref01_Take.l0
      repeat' first
      | (with_reducible exact ih0 _ _ _)
      | (with_reducible exact ih1 _ _ _ _)
      | (with_reducible exact LeO.refl _)
      | (with_reducible exact LeO.none _)
      | (with_reducible refine LeO.ite ?_ ?_)
      | (with_reducible refine LeO.bind ?_ (fun _ => ?_))
      | exact ih0 _ _ _
      | exact ih1 _ _ _ _
      | exact LeO.none _
      | refine LeO.ite ?_ ?_
      | refine LeO.bind ?_ (fun _ => ?_)
theorem interchangeref01_Take.mono : ∀ a0 a1 k, LeO (interchangeref01_Take.f k a0 a1) (interchangeref01_Take.f (k + 1) a0 a1) := by
  intro a0 a1 k
  obtain ⟨ih0, ih1⟩ := interchangeref01_Take.mono_l k
  unfold interchangeref01_Take.f
  repeat' first
      | (with_reducible exact ih0 _ _ _)
      | (with_reducible exact ih1 _ _ _ _)
      | (with_reducible exact LeO.refl _)
      | (with_reducible exact LeO.none _)
      | (with_reducible refine LeO.ite ?_ ?_)
      | (with_reducible refine LeO.bind ?_ (fun _ => ?_))
      | exact ih0 _ _ _
      | exact ih1 _ _ _ _
      | exact LeO.none _
      | refine LeO.ite ?_ ?_
      | refine LeO.bind ?_ (fun _ => ?_)
set_option maxHeartbeats 8000000 in
set_option maxRecDepth 100000 in
theorem interchangeref01_Take.calls (k : Nat) (a0 : ByteArray) (a1 : Int) (r1 : Int) (r2 : ByteArray) (r3 : Int) (w : World) (h : interchangeref01_Take.f k a0 a1 = some (r1, r2, r3)) :
    Calls Tryd.prog 52 #[.string a0, .int .i64 a1] w fun e w' => e = .returned (.tuple #[.int .u64 r1, .string r2, .int .i64 r3]) ∧ Drawn0 w w' := by
  have H : (if a1 = 1 then (interchangeref01_Take.j0 k a0 a1 false) else (if a1 = 2 then (interchangeref01_Take.j0 k a0 a1 false) else (if a1 = 4 then (interchangeref01_Take.j0 k a0 a1 false) else (interchangeref01_Take.j0 k a0 a1 (a1 != 8))))) = some (r1, r2, r3) := h
  clear h
  have HC3 := Aside0.mk H
  clear H
  go_enter Tryd.func52, Tryd.ntmps52
  go_upto_region 1 with (fail)
  repeat (go_quiet (fail); go_upto_region 1 with (fail))
  go_cut [22] (fun v22 wc => ∃ (kq : Nat) (x22_2 : Bool), v22 = .bool x22_2 ∧ Aside0 (interchangeref01_Take.j0 kq a0 a1 x22_2 = some (r1, r2, r3)) ∧ Aside0 (kq ≤ k) ∧ Drawn0 w wc)
  case first =>
    have H := HC3.out
    clear HC3
    by_cases c4 : a1 = 1
    · rw [if_pos c4] at H
      have c4b0 : (a1 == 1) = true := beq_iff_eq.mpr c4
      have c4b1 : (a1 != 1) = false := bne_eq_false_iff_eq.mpr c4
      clear c4
      (first | rw [c4b0] | (simp only [i64_w, i32_w]; rw [c4b0]) | skip)
      have H' := Aside0.mk H
      clear H
      go_wp2
      repeat (go_quiet (fail); try go_wp2)
      go_meet
      case rel => exact ⟨_, (false), (by first | rfl | (simp; done) | (simp [*]; done)), H', ⟨by first | omega | exact Nat.le_refl _⟩, by repeat (first | exact Drawn0.refl _ | apply Drawn0.step)⟩
    · rw [if_neg c4] at H
      have c4b0 : (a1 == 1) = false := beq_eq_false_iff_ne.mpr c4
      have c4b1 : (a1 != 1) = true := bne_iff_ne.mpr c4
      (first | rw [c4b0] | (simp only [i64_w, i32_w]; rw [c4b0]) | skip)
      by_cases c5 : a1 = 2
      · rw [if_pos c5] at H
        have c5b0 : (a1 == 2) = true := beq_iff_eq.mpr c5
        have c5b1 : (a1 != 2) = false := bne_eq_false_iff_eq.mpr c5
        clear c5
        have H' := Aside0.mk H
        clear H
        go_wp2
        repeat (go_quiet (fail); try go_wp2)
        go_meet
        case rel => exact ⟨_, (false), (by first | rfl | (simp; done) | (simp [*]; done)), H', ⟨by first | omega | exact Nat.le_refl _⟩, by repeat (first | exact Drawn0.refl _ | apply Drawn0.step)⟩
      · rw [if_neg c5] at H
        have c5b0 : (a1 == 2) = false := beq_eq_false_iff_ne.mpr c5
        have c5b1 : (a1 != 2) = true := bne_iff_ne.mpr c5
        by_cases c6 : a1 = 4
        · rw [if_pos c6] at H
          have c6b0 : (a1 == 4) = true := beq_iff_eq.mpr c6
          have c6b1 : (a1 != 4) = false := bne_eq_false_iff_eq.mpr c6
          clear c6
          have H' := Aside0.mk H
          clear H
          go_wp2
          repeat (go_quiet (fail); try go_wp2)
          go_meet
          case rel => exact ⟨_, (false), (by first | rfl | (simp; done) | (simp [*]; done)), H', ⟨by first | omega | exact Nat.le_refl _⟩, by repeat (first | exact Drawn0.refl _ | apply Drawn0.step)⟩
        · rw [if_neg c6] at H
          have c6b0 : (a1 == 4) = false := beq_eq_false_iff_ne.mpr c6
          have c6b1 : (a1 != 4) = true := bne_iff_ne.mpr c6
          have H' := Aside0.mk H
          clear H
          go_wp2
          repeat (go_quiet (fail); try go_wp2)
          go_meet
          case rel => exact ⟨_, ((a1 != 8)), (by first | rfl | (simp; done) | (simp [*]; done)), H', ⟨by first | omega | exact Nat.le_refl _⟩, by repeat (first | exact Drawn0.refl _ | apply Drawn0.step)⟩
  case rest =>
    clear HC3
    try clear p2
    try clear c4
    try clear c4b0
    try clear c4b1
    try clear c5
    try clear c5b0
    try clear c5b1
    try clear c6
    try clear c6b0
    try clear c6b1
    obtain ⟨kq, x22_2, rfl, HA, HJ2, ⟨mc2, rfl⟩⟩ := hcut
    cases kq with
    | zero => exact absurd HA.out (by simp [interchangeref01_Take.j0])
    | succ kj2 =>
      have H := HA.out
      clear HA
      simp only [interchangeref01_Take.j0] at H
      by_cases c7 : x22_2 = true
      · subst c7
        have H1 : (some (0, (⟨#[]⟩ : ByteArray), 1)) = some (r1, r2, r3) := by rw [if_pos rfl] at H; exact H
        clear H
        have H := H1
        clear H1
        simp only [Option.some.injEq, Prod.mk.injEq] at H
        obtain ⟨rfl, rfl, rfl⟩ := H
        go_wp2
        repeat (go_quiet (fail); try go_wp2)
        go_ret3
        exact ⟨by first | rfl | (simp; done) | (simp [*]; done), by repeat (first | exact Drawn0.refl _ | apply Drawn0.step)⟩
      · replace c7 := Bool.eq_false_iff.mpr c7
        subst c7
        have H1 : (if (a0.size : Int) < a1 then (some (0, (⟨#[]⟩ : ByteArray), 2)) else (interchangeref01_Take.l0 kj2 a0 a1 0 0)) = some (r1, r2, r3) := by rw [if_neg (show ¬ (false = true) by decide)] at H; exact H
        clear H
        have H := H1
        clear H1
        by_cases c8 : (a0.size : Int) < a1
        · rw [if_pos c8] at H
          have c8b0 : decide ((a0.size : Int) < a1) = true := decide_eq_true c8
          clear c8
          simp only [Option.some.injEq, Prod.mk.injEq] at H
          obtain ⟨rfl, rfl, rfl⟩ := H
          go_wp2
          repeat (go_quiet (fail); try go_wp2)
          go_ret3
          exact ⟨by first | rfl | (simp; done) | (simp [*]; done), by repeat (first | exact Drawn0.refl _ | apply Drawn0.step)⟩
        · rw [if_neg c8] at H
          have c8b0 : decide ((a0.size : Int) < a1) = false := decide_eq_false c8
          clear c8
          have H' := Aside0.mk H
          clear H
          go_wp2
          repeat (go_quiet (fail); try go_wp2)
          go_loopg [7, 8] kj2 (fun kq v7 v8 w' => ∃ (x7_2 : Int) (x8_2 : Int), v7 = .int .u64 x7_2 ∧ v8 = .int .i64 x8_2 ∧ Aside0 (interchangeref01_Take.l0 kq a0 a1 x7_2 x8_2 = some (r1, r2, r3)) ∧ Aside0 (kq ≤ kj2) ∧ Drawn0 w w')
          case atStart => exact ⟨(0), (0), (by first | rfl | (simp; done) | (simp [*]; done)), (by first | rfl | (simp; done) | (simp [*]; done)), H', ⟨Nat.le_refl _⟩, by repeat (first | exact Drawn0.refl _ | apply Drawn0.step)⟩
          case round =>
            clear H'
            try clear c2
            try clear p2
            try clear c4
            try clear c4b0
            try clear c4b1
            try clear c5
            try clear c5b0
            try clear c5b1
            try clear c6
            try clear c6b0
            try clear c6b1
            try clear c7
            try clear c8
            try clear c8b0
            try clear p2
            obtain ⟨x7_2, x8_2, rfl, rfl, HA, HK2, ⟨m2, rfl⟩⟩ := hrel
            cases gk with
            | zero => exact absurd HA.out (by simp [interchangeref01_Take.l0])
            | succ k2 =>
              have H := HA.out
              clear HA
              simp only [interchangeref01_Take.l0] at H
              by_cases c9 : x8_2 < a1
              · rw [if_pos c9] at H
                have c9b0 : decide (x8_2 < a1) = true := decide_eq_true c9
                clear c9
                by_cases c10 : 0 ≤ x8_2
                · rw [if_pos c10] at H
                  have c10b0 : decide (0 ≤ x8_2) = true := decide_eq_true c10
                  clear c10
                  by_cases c11 : x8_2 < (a0.size : Int)
                  · rw [if_pos c11] at H
                    have c11b0 : decide (x8_2 < (a0.size : Int)) = true := decide_eq_true c11
                    clear c11
                    have H' := Aside0.mk H
                    clear H
                    have p12 : 0 ≤ (x8_2 : Int) := of_decide_eq_true (by first | (with_reducible assumption) | assumption)
                    have q12 : x8_2 < (a0.size : Int) := of_decide_eq_true (by first | (with_reducible assumption) | assumption)
                    have hx12 := bt_at a0 x8_2
                    replace p12 := eq_true p12
                    replace q12 := eq_true q12
                    go_wp2
                    repeat (go_quiet (fail); try go_wp2)
                    go_roundg k2
                    case measure => have := HJ2.out; have := HK2.out; omega
                    case rel => exact ⟨(IntKind.u64.wrap ((IntKind.u64.wrap (256 * x7_2)) + (IntKind.u64.wrap (bt a0 x8_2)))), (wrap64 (x8_2 + 1)), (by first | rfl | (simp; done) | (simp [*]; done)), (by first | rfl | (simp; done) | (simp [*]; done)), H', ⟨by have := HJ2.out; have := HK2.out; omega⟩, by repeat (first | exact Drawn0.refl _ | apply Drawn0.step)⟩
                  · rw [if_neg c11] at H
                    exact absurd H (by simp)
                · rw [if_neg c10] at H
                  exact absurd H (by simp)
              · rw [if_neg c9] at H
                have c9b0 : decide (x8_2 < a1) = false := decide_eq_false c9
                clear c9
                by_cases c13 : 0 ≤ a1
                · rw [if_pos c13] at H
                  have c13b0 := eq_true c13
                  have c13b1 : decide (0 ≤ a1) = true := decide_eq_true c13
                  clear c13
                  by_cases c14 : a1 ≤ (a0.size : Int)
                  · rw [if_pos c14] at H
                    have c14b0 := eq_true c14
                    have c14b1 : decide (a1 ≤ (a0.size : Int)) = true := decide_eq_true c14
                    clear c14
                    simp only [Option.some.injEq, Prod.mk.injEq] at H
                    obtain ⟨rfl, rfl, rfl⟩ := H
                    go_wp2
                    repeat (go_quiet (fail); try go_wp2)
                    go_ret3
                    exact ⟨by first | rfl | (simp; done) | (simp [*]; done), by repeat (first | exact Drawn0.refl _ | apply Drawn0.step)⟩
                  · rw [if_neg c14] at H
                    exact absurd H (by simp)
                · rw [if_neg c13] at H
                  exact absurd H (by simp)


end Go.Proofs.YthdkmohelampbaaDoor.F
namespace Go.Proofs.YthdkmohelampbaaDoor.F
open Go.RowKit Go.Proofs.YthdkmohelampbaaDoorW.PrintWords Go.Proofs.YthdkmohelampbaaDoorW.PrintLast Go.Proofs.YthdkmohelampbaaDoorW.PrintMore
set_option linter.unusedVariables false
set_option linter.unusedSimpArgs false

theorem rtake_loop (s : ByteArray) (n : Nat) (hn : n ≤ 8) (hs : n ≤ s.size) (d : Nat) : ∀ (k i : Nat), n = i + d → d < k →
    interchangeref01_Take.l0 k s n ((beNum (s.data.toList.take i) : Nat) : Int) i = some (((beNum (s.data.toList.take n) : Nat) : Int), s.extract n s.size, 0) := by
  induction d with
  | zero =>
    intro k i hi hk
    obtain ⟨k, rfl⟩ : ∃ m, k = m + 1 := ⟨k - 1, by omega⟩
    obtain rfl : n = i := by omega
    simp only [interchangeref01_Take.l0]
    rw [if_neg (by omega), if_pos (by omega), if_pos (by omega)]
    simp
  | succ d ih =>
    intro k i hi hk
    obtain ⟨k, rfl⟩ : ∃ m, k = m + 1 := ⟨k - 1, by omega⟩
    simp only [interchangeref01_Take.l0]
    rw [if_pos (by omega), if_pos (by omega), if_pos (by omega), bt_get s i (by omega)]
    have hx : beNum (s.data.toList.take i) < 72057594037927936 := by
      have h1 := beNum_lt (s.data.toList.take i)
      have h2 : (s.data.toList.take i).length ≤ 7 := by rw [List.length_take]; omega
      have h3 : 256 ^ (s.data.toList.take i).length ≤ 256 ^ 7 := Nat.pow_le_pow_right (by decide) h2
      omega
    have hb := (s.data.toList[i]'(by simp only [Array.length_toList]; show i < s.size; omega)).toNat_lt
    rw [wrapU (x := 256 * _) (by omega) (by omega), wrapU (x := ((s.data.toList[i]'(by simp only [Array.length_toList]; show i < s.size; omega)).toNat : Int)) (by omega) (by omega), wrapU (by omega) (by omega)]
    have e3 : wrap64 ((i : Int) + 1) = ((i + 1 : Nat) : Int) := by rw [wrap64_of (by omega) (by omega)]; omega
    have e4 : (256 * ((beNum (s.data.toList.take i) : Nat) : Int) + ((s.data.toList[i]'(by simp only [Array.length_toList]; show i < s.size; omega)).toNat : Int)) = ((beNum (s.data.toList.take (i + 1)) : Nat) : Int) := by
      rw [take_succ_num s i (by omega)]; omega
    rw [e3, e4]
    exact ih k (i + 1) (by omega) (by omega)
theorem rtake_flag (k : Nat) (s : ByteArray) (a0 : Int) : interchangeref01_Take.f k s a0 = interchangeref01_Take.j0 k s a0 (decide (¬ isW a0)) := by
  unfold interchangeref01_Take.f isW
  by_cases h1 : a0 = 1
  · rw [if_pos h1]; simp [h1]
  by_cases h2 : a0 = 2
  · rw [if_neg h1, if_pos h2]; simp [h2]
  by_cases h4 : a0 = 4
  · rw [if_neg h1, if_neg h2, if_pos h4]; simp [h4]
  rw [if_neg h1, if_neg h2, if_neg h4]
  by_cases h8 : a0 = 8
  · simp [h8]
  · have : (a0 != 8) = true := by simp [h8]
    rw [this]
    simp [h1, h2, h4, h8]
theorem rtake_at (s : ByteArray) (n : Int) : interchangeref01_Take.f 11 s n = some (takeR s n) := by
  rw [rtake_flag]
  unfold takeR
  simp only [interchangeref01_Take.j0]
  by_cases hw : isW n
  · rw [if_pos hw, if_neg (by simp [hw])]
    by_cases hl : (s.size : Int) < n
    · rw [if_pos hl, if_pos hl]
    · rw [if_neg hl, if_neg hl]
      obtain ⟨m, rfl⟩ : ∃ m : Nat, n = m := ⟨n.toNat, by rcases hw with h | h | h | h <;> omega⟩
      have hm : m ≤ 8 := by rcases hw with h | h | h | h <;> omega
      have := rtake_loop s m hm (by omega) m 10 0 (by omega) (by omega)
      simpa [beNum] using this
  · rw [if_neg hw, if_pos (by simp [hw])]
theorem rtake_ev (s : ByteArray) (n : Int) : Ev (fun k => interchangeref01_Take.f k s n) (takeR s n) := Ev.of (interchangeref01_Take.mono s n) (rtake_at s n)
theorem rtake_k {k : Nat} (hk : 12 ≤ k) (s : ByteArray) (n : Int) : interchangeref01_Take.f k s n = some (takeR s n) := at_rounds (interchangeref01_Take.mono s n) (Nat.le_trans (by decide) hk) (rtake_at s n)
end Go.Proofs.YthdkmohelampbaaDoor.F
namespace Go.Proofs.YthdkmohelampbaaDoor.F
open Go.RowKit Go.Proofs.YthdkmohelampbaaDoorW.PrintWords Go.Proofs.YthdkmohelampbaaDoorW.PrintLast Go.Proofs.YthdkmohelampbaaDoorW.PrintMore
attribute [local go_sem] max2_int min2_int max_two min_two max_three min_three max_four min_four
set_option linter.unusedVariables false
set_option linter.unusedSimpArgs false

/-! ### interchangeref02_TakeShort: function 47 -/
def interchangeref02_TakeShort.f (a0 : ByteArray) : Option (ByteArray × ByteArray × Int) := if (a0.size : Int) < 1 then (some ((⟨#[]⟩ : ByteArray), (⟨#[]⟩ : ByteArray), 2)) else (if 0 < (a0.size : Int) then (if (a0.size : Int) < (wrap64 (1 + (wrap64 (bt a0 0)))) then (some ((⟨#[]⟩ : ByteArray), (⟨#[]⟩ : ByteArray), 2)) else (if 1 ≤ (wrap64 (1 + (wrap64 (bt a0 0)))) then (if (wrap64 (1 + (wrap64 (bt a0 0)))) ≤ (a0.size : Int) then (if 0 ≤ (wrap64 (1 + (wrap64 (bt a0 0)))) then (some (a0.extract 1 ((wrap64 (1 + (wrap64 (bt a0 0)))) : Int).toNat, a0.extract ((wrap64 (1 + (wrap64 (bt a0 0)))) : Int).toNat a0.size, 0)) else (none)) else (none)) else (none))) else (none))
set_option maxHeartbeats 8000000 in
set_option maxRecDepth 100000 in
theorem interchangeref02_TakeShort.calls (a0 : ByteArray) (r1 : ByteArray) (r2 : ByteArray) (r3 : Int) (w : World) (h : interchangeref02_TakeShort.f a0 = some (r1, r2, r3)) :
    Calls Tryd.prog 47 #[.string a0] w fun e w' => e = .returned (.tuple #[.string r1, .string r2, .int .i64 r3]) ∧ Drawn0 w w' := by
  have H : (if (a0.size : Int) < 1 then (some ((⟨#[]⟩ : ByteArray), (⟨#[]⟩ : ByteArray), 2)) else (if 0 < (a0.size : Int) then (if (a0.size : Int) < (wrap64 (1 + (wrap64 (bt a0 0)))) then (some ((⟨#[]⟩ : ByteArray), (⟨#[]⟩ : ByteArray), 2)) else (if 1 ≤ (wrap64 (1 + (wrap64 (bt a0 0)))) then (if (wrap64 (1 + (wrap64 (bt a0 0)))) ≤ (a0.size : Int) then (if 0 ≤ (wrap64 (1 + (wrap64 (bt a0 0)))) then (some (a0.extract 1 ((wrap64 (1 + (wrap64 (bt a0 0)))) : Int).toNat, a0.extract ((wrap64 (1 + (wrap64 (bt a0 0)))) : Int).toNat a0.size, 0)) else (none)) else (none)) else (none))) else (none))) = some (r1, r2, r3) := h
  clear h
  by_cases c2 : (a0.size : Int) < 1
  · rw [if_pos c2] at H
    have c2b0 : decide ((a0.size : Int) < 1) = true := decide_eq_true c2
    have c2b1 : decide (a0.size < 1) = true := decide_eq_true (by omega)
    clear c2
    simp only [Option.some.injEq, Prod.mk.injEq] at H
    obtain ⟨rfl, rfl, rfl⟩ := H
    go_enter Tryd.func47, Tryd.ntmps47
    go_wp2
    repeat (go_quiet (fail); try go_wp2)
    go_ret3
    exact ⟨by first | rfl | (simp; done) | (simp [*]; done), by repeat (first | exact Drawn0.refl _ | apply Drawn0.step)⟩
  · rw [if_neg c2] at H
    have c2b0 : decide ((a0.size : Int) < 1) = false := decide_eq_false c2
    have c2b1 : decide (a0.size < 1) = false := decide_eq_false (by omega)
    clear c2
    by_cases c3 : 0 < (a0.size : Int)
    · rw [if_pos c3] at H
      have c3b0 : decide (0 < (a0.size : Int)) = true := decide_eq_true c3
      have c3b1 : decide (0 < a0.size) = true := decide_eq_true (by omega)
      clear c3
      by_cases c5 : (a0.size : Int) < (wrap64 (1 + (wrap64 (bt a0 0))))
      · rw [if_pos c5] at H
        have c5b0 : decide ((a0.size : Int) < (wrap64 (1 + (wrap64 (bt a0 0))))) = true := decide_eq_true c5
        clear c5
        simp only [Option.some.injEq, Prod.mk.injEq] at H
        obtain ⟨rfl, rfl, rfl⟩ := H
        have p4 : 0 ≤ (0 : Int) := (by omega)
        have q4 : 0 < a0.size := (by have : (0 : Int) < (a0.size : Int) := of_decide_eq_true (by first | (with_reducible assumption) | assumption); omega)
        have hx4 : ∀ h : 0 < a0.size, ((a0[0]'h).toNat : Int) = bt a0 0 := bt_at a0 0
        clear p4
        have qi4 : (0 < (a0.size : Int)) = True := eq_true (of_decide_eq_true (by first | (with_reducible assumption) | assumption))
        replace q4 := eq_true q4
        go_enter Tryd.func47, Tryd.ntmps47
        go_wp2
        repeat (go_quiet (fail); try go_wp2)
        go_ret3
        exact ⟨by first | rfl | (simp; done) | (simp [*]; done), by repeat (first | exact Drawn0.refl _ | apply Drawn0.step)⟩
      · rw [if_neg c5] at H
        have c5b0 : decide ((a0.size : Int) < (wrap64 (1 + (wrap64 (bt a0 0))))) = false := decide_eq_false c5
        clear c5
        by_cases c7 : 1 ≤ (wrap64 (1 + (wrap64 (bt a0 0))))
        · rw [if_pos c7] at H
          have c7b0 := eq_true c7
          have c7b1 : decide (1 ≤ (wrap64 (1 + (wrap64 (bt a0 0))))) = true := decide_eq_true c7
          by_cases c8 : (wrap64 (1 + (wrap64 (bt a0 0)))) ≤ (a0.size : Int)
          · rw [if_pos c8] at H
            have c8b0 := eq_true c8
            have c8b1 : decide ((wrap64 (1 + (wrap64 (bt a0 0)))) ≤ (a0.size : Int)) = true := decide_eq_true c8
            obtain ⟨ji9, hji9⟩ : ∃ j_ : Int, (wrap64 (1 + (wrap64 (bt a0 0)))) = j_ := ⟨_, rfl⟩
            replace H : (if 0 ≤ (ji9) then (some (a0.extract 1 ((ji9) : Int).toNat, a0.extract ((ji9) : Int).toNat a0.size, 0)) else (none)) = some (r1, r2, r3) := by first | (rw [hji9] at H; exact H) | (simp only [hji9] at H ⊢; exact H)
            (try rw [hji9] at c5b0)
            (try rw [hji9] at c7b0)
            (try rw [hji9] at c7b1)
            (try rw [hji9] at c7)
            (try rw [hji9] at c8b0)
            (try rw [hji9] at c8b1)
            (try rw [hji9] at c8)
            have hji9w : (IntKind.i64.wrap (1 + (wrap64 (bt a0 0)))) = ji9 := (i64_w _).trans hji9
            by_cases c10 : 0 ≤ (ji9)
            · rw [if_pos c10] at H
              have c10b0 := eq_true c10
              have c10b1 : decide (0 ≤ (ji9)) = true := decide_eq_true c10
              clear c10
              have c11b0 := eq_true (of_decide_eq_true (by first | (with_reducible assumption) | assumption) : (ji9) ≤ (a0.size : Int))
              simp only [Option.some.injEq, Prod.mk.injEq] at H
              obtain ⟨rfl, rfl, rfl⟩ := H
              have p4 : 0 ≤ (0 : Int) := (by omega)
              have q4 : 0 < a0.size := (by have : (0 : Int) < (a0.size : Int) := of_decide_eq_true (by first | (with_reducible assumption) | assumption); omega)
              have hx4 : ∀ h : 0 < a0.size, ((a0[0]'h).toNat : Int) = bt a0 0 := bt_at a0 0
              clear p4
              have qi4 : (0 < (a0.size : Int)) = True := eq_true (of_decide_eq_true (by first | (with_reducible assumption) | assumption))
              replace q4 := eq_true q4
              have p6 : 0 ≤ (0 : Int) := (by omega)
              have q6 : 0 < a0.size := (by have : (0 : Int) < (a0.size : Int) := of_decide_eq_true (by first | (with_reducible assumption) | assumption); omega)
              have hx6 : ∀ h : 0 < a0.size, ((a0[0]'h).toNat : Int) = bt a0 0 := bt_at a0 0
              clear p6
              have qi6 : (0 < (a0.size : Int)) = True := eq_true (of_decide_eq_true (by first | (with_reducible assumption) | assumption))
              replace q6 := eq_true q6
              go_enter Tryd.func47, Tryd.ntmps47
              go_wp2
              repeat (go_quiet (fail); try go_wp2)
              go_ret3
              exact ⟨by first | rfl | (simp; done) | (simp only [← hji9] <;> (first | rfl | simp)) | (simp [*]; done), by repeat (first | exact Drawn0.refl _ | apply Drawn0.step)⟩
            · rw [if_neg c10] at H
              exact absurd H (by simp)
          · rw [if_neg c8] at H
            exact absurd H (by simp)
        · rw [if_neg c7] at H
          exact absurd H (by simp)
    · rw [if_neg c3] at H
      exact absurd H (by simp)


end Go.Proofs.YthdkmohelampbaaDoor.F
namespace Go.Proofs.YthdkmohelampbaaDoor.F
open Go.RowKit Go.Proofs.YthdkmohelampbaaDoorW.PrintWords Go.Proofs.YthdkmohelampbaaDoorW.PrintLast Go.Proofs.YthdkmohelampbaaDoorW.PrintMore
attribute [local go_sem] max2_int min2_int max_two min_two max_three min_three max_four min_four
set_option linter.unusedVariables false
set_option linter.unusedSimpArgs false

/-! ### interchangeref03_inside: function 42 -/
def interchangeref03_inside.f (k : Nat) (a0 : ByteArray) : Option (ByteArray × ByteArray × Int) := (interchangeref01_Take.f k a0 4).bind fun bt135 => (if bt135.2.2 = 0 then (if bt135.1 > (IntKind.u64.wrap ((bt135.2.1.size : Int))) then (some ((⟨#[]⟩ : ByteArray), (⟨#[]⟩ : ByteArray), 2)) else (if 0 ≤ bt135.1 then (if bt135.1 ≤ (bt135.2.1.size : Int) then (some (bt135.2.1.extract 0 (bt135.1 : Int).toNat, bt135.2.1.extract (bt135.1 : Int).toNat bt135.2.1.size, 0)) else (none)) else (none))) else (some ((⟨#[]⟩ : ByteArray), (⟨#[]⟩ : ByteArray), 2)))
theorem interchangeref03_inside.mono : ∀ a0 k, LeO (interchangeref03_inside.f k a0) (interchangeref03_inside.f (k + 1) a0) := by
  intro a0 k
  unfold interchangeref03_inside.f
  repeat' first
      | (with_reducible exact interchangeref01_Take.mono _ _ _)
      | (with_reducible exact LeO.refl _)
      | (with_reducible exact LeO.none _)
      | (with_reducible refine LeO.ite ?_ ?_)
      | (with_reducible refine LeO.bind ?_ (fun _ => ?_))
      | exact interchangeref01_Take.mono _ _ _
      | exact LeO.none _
      | refine LeO.ite ?_ ?_
      | refine LeO.bind ?_ (fun _ => ?_)
set_option maxHeartbeats 8000000 in
set_option maxRecDepth 100000 in
theorem interchangeref03_inside.calls (k : Nat) (a0 : ByteArray) (r1 : ByteArray) (r2 : ByteArray) (r3 : Int) (w : World) (h : interchangeref03_inside.f k a0 = some (r1, r2, r3)) :
    Calls Tryd.prog 42 #[.string a0] w fun e w' => e = .returned (.tuple #[.string r1, .string r2, .int .i64 r3]) ∧ Drawn0 w w' := by
  have H : ((interchangeref01_Take.f k a0 4).bind fun bt135 => (if bt135.2.2 = 0 then (if bt135.1 > (IntKind.u64.wrap ((bt135.2.1.size : Int))) then (some ((⟨#[]⟩ : ByteArray), (⟨#[]⟩ : ByteArray), 2)) else (if 0 ≤ bt135.1 then (if bt135.1 ≤ (bt135.2.1.size : Int) then (some (bt135.2.1.extract 0 (bt135.1 : Int).toNat, bt135.2.1.extract (bt135.1 : Int).toNat bt135.2.1.size, 0)) else (none)) else (none))) else (some ((⟨#[]⟩ : ByteArray), (⟨#[]⟩ : ByteArray), 2)))) = some (r1, r2, r3) := h
  clear h
  replace H := Option.bind_eq_some_iff.mp H
  obtain ⟨⟨t135, t136, t137⟩, A20, H⟩ := H
  replace H : (if t137 = 0 then (if t135 > (IntKind.u64.wrap ((t136.size : Int))) then (some ((⟨#[]⟩ : ByteArray), (⟨#[]⟩ : ByteArray), 2)) else (if 0 ≤ t135 then (if t135 ≤ (t136.size : Int) then (some (t136.extract 0 (t135 : Int).toNat, t136.extract (t135 : Int).toNat t136.size, 0)) else (none)) else (none))) else (some ((⟨#[]⟩ : ByteArray), (⟨#[]⟩ : ByteArray), 2))) = some (r1, r2, r3) := H
  have A2 := Aside0.mk A20
  clear A20
  by_cases c3 : t137 = 0
  · rw [if_pos c3] at H
    have c3b0 : (t137 == 0) = true := beq_iff_eq.mpr c3
    have c3b1 : (t137 != 0) = false := bne_eq_false_iff_eq.mpr c3
    clear c3
    by_cases c4 : t135 > (IntKind.u64.wrap ((t136.size : Int)))
    · rw [if_pos c4] at H
      have c4b0 : decide ((IntKind.u64.wrap ((t136.size : Int))) < t135) = true := decide_eq_true c4
      clear c4
      simp only [Option.some.injEq, Prod.mk.injEq] at H
      obtain ⟨rfl, rfl, rfl⟩ := H
      go_enter Tryd.func42, Tryd.ntmps42
      go_wp2_with (first | (go_at_call 52; (with_reducible refine (interchangeref01_Take.calls k a0 4 t135 t136 t137 _ A2.out).mono ?_); rintro e w' ⟨rfl, ⟨nd, rfl⟩⟩; (try first | exact ⟨rfl, _, World.drewN_drewN _ _ _⟩ | exact ⟨rfl, _, Eq.trans (World.drewN_drewN _ _ _) (congrArg (World.drewN _) (Nat.add_assoc _ _ _))⟩)))
      repeat (go_quiet (first | (go_at_call 52; (with_reducible refine (interchangeref01_Take.calls k a0 4 t135 t136 t137 _ A2.out).mono ?_); rintro e w' ⟨rfl, ⟨nd, rfl⟩⟩; (try first | exact ⟨rfl, _, World.drewN_drewN _ _ _⟩ | exact ⟨rfl, _, Eq.trans (World.drewN_drewN _ _ _) (congrArg (World.drewN _) (Nat.add_assoc _ _ _))⟩))); try go_wp2_with (first | (go_at_call 52; (with_reducible refine (interchangeref01_Take.calls k a0 4 t135 t136 t137 _ A2.out).mono ?_); rintro e w' ⟨rfl, ⟨nd, rfl⟩⟩; (try first | exact ⟨rfl, _, World.drewN_drewN _ _ _⟩ | exact ⟨rfl, _, Eq.trans (World.drewN_drewN _ _ _) (congrArg (World.drewN _) (Nat.add_assoc _ _ _))⟩))))
      go_ret3
      exact ⟨by first | rfl | (simp; done) | (simp [*]; done), by repeat (first | exact Drawn0.refl _ | apply Drawn0.step)⟩
    · rw [if_neg c4] at H
      have c4b0 : decide ((IntKind.u64.wrap ((t136.size : Int))) < t135) = false := decide_eq_false c4
      clear c4
      by_cases c5 : 0 ≤ t135
      · rw [if_pos c5] at H
        have c5b0 := eq_true c5
        have c5b1 : decide (0 ≤ t135) = true := decide_eq_true c5
        clear c5
        by_cases c6 : t135 ≤ (t136.size : Int)
        · rw [if_pos c6] at H
          have c6b0 := eq_true c6
          have c6b1 : decide (t135 ≤ (t136.size : Int)) = true := decide_eq_true c6
          clear c6
          have c7b0 := eq_true (of_decide_eq_true (by first | (with_reducible assumption) | assumption) : 0 ≤ t135)
          have c8b0 := eq_true (of_decide_eq_true (by first | (with_reducible assumption) | assumption) : t135 ≤ (t136.size : Int))
          simp only [Option.some.injEq, Prod.mk.injEq] at H
          obtain ⟨rfl, rfl, rfl⟩ := H
          go_enter Tryd.func42, Tryd.ntmps42
          go_wp2_with (first | (go_at_call 52; (with_reducible refine (interchangeref01_Take.calls k a0 4 t135 t136 t137 _ A2.out).mono ?_); rintro e w' ⟨rfl, ⟨nd, rfl⟩⟩; (try first | exact ⟨rfl, _, World.drewN_drewN _ _ _⟩ | exact ⟨rfl, _, Eq.trans (World.drewN_drewN _ _ _) (congrArg (World.drewN _) (Nat.add_assoc _ _ _))⟩)))
          repeat (go_quiet (first | (go_at_call 52; (with_reducible refine (interchangeref01_Take.calls k a0 4 t135 t136 t137 _ A2.out).mono ?_); rintro e w' ⟨rfl, ⟨nd, rfl⟩⟩; (try first | exact ⟨rfl, _, World.drewN_drewN _ _ _⟩ | exact ⟨rfl, _, Eq.trans (World.drewN_drewN _ _ _) (congrArg (World.drewN _) (Nat.add_assoc _ _ _))⟩))); try go_wp2_with (first | (go_at_call 52; (with_reducible refine (interchangeref01_Take.calls k a0 4 t135 t136 t137 _ A2.out).mono ?_); rintro e w' ⟨rfl, ⟨nd, rfl⟩⟩; (try first | exact ⟨rfl, _, World.drewN_drewN _ _ _⟩ | exact ⟨rfl, _, Eq.trans (World.drewN_drewN _ _ _) (congrArg (World.drewN _) (Nat.add_assoc _ _ _))⟩))))
          go_ret3
          exact ⟨by first | rfl | (simp; done) | (simp [*]; done), by repeat (first | exact Drawn0.refl _ | apply Drawn0.step)⟩
        · rw [if_neg c6] at H
          exact absurd H (by simp)
      · rw [if_neg c5] at H
        exact absurd H (by simp)
  · rw [if_neg c3] at H
    have c3b0 : (t137 == 0) = false := beq_eq_false_iff_ne.mpr c3
    have c3b1 : (t137 != 0) = true := bne_iff_ne.mpr c3
    simp only [Option.some.injEq, Prod.mk.injEq] at H
    obtain ⟨rfl, rfl, rfl⟩ := H
    go_enter Tryd.func42, Tryd.ntmps42
    go_wp2_with (first | (go_at_call 52; (with_reducible refine (interchangeref01_Take.calls k a0 4 t135 t136 t137 _ A2.out).mono ?_); rintro e w' ⟨rfl, ⟨nd, rfl⟩⟩; (try first | exact ⟨rfl, _, World.drewN_drewN _ _ _⟩ | exact ⟨rfl, _, Eq.trans (World.drewN_drewN _ _ _) (congrArg (World.drewN _) (Nat.add_assoc _ _ _))⟩)))
    repeat (go_quiet (first | (go_at_call 52; (with_reducible refine (interchangeref01_Take.calls k a0 4 t135 t136 t137 _ A2.out).mono ?_); rintro e w' ⟨rfl, ⟨nd, rfl⟩⟩; (try first | exact ⟨rfl, _, World.drewN_drewN _ _ _⟩ | exact ⟨rfl, _, Eq.trans (World.drewN_drewN _ _ _) (congrArg (World.drewN _) (Nat.add_assoc _ _ _))⟩))); try go_wp2_with (first | (go_at_call 52; (with_reducible refine (interchangeref01_Take.calls k a0 4 t135 t136 t137 _ A2.out).mono ?_); rintro e w' ⟨rfl, ⟨nd, rfl⟩⟩; (try first | exact ⟨rfl, _, World.drewN_drewN _ _ _⟩ | exact ⟨rfl, _, Eq.trans (World.drewN_drewN _ _ _) (congrArg (World.drewN _) (Nat.add_assoc _ _ _))⟩))))
    go_ret3
    exact ⟨by first | rfl | (simp; done) | (simp [*]; done), by repeat (first | exact Drawn0.refl _ | apply Drawn0.step)⟩


end Go.Proofs.YthdkmohelampbaaDoor.F
namespace Go.Proofs.YthdkmohelampbaaDoor.F
open Go.RowKit Go.Proofs.YthdkmohelampbaaDoorW.PrintWords Go.Proofs.YthdkmohelampbaaDoorW.PrintLast Go.Proofs.YthdkmohelampbaaDoorW.PrintMore
attribute [local go_sem] max2_int min2_int max_two min_two max_three min_three max_four min_four
set_option linter.unusedVariables false
set_option linter.unusedSimpArgs false

/-! ### interchangeref03_size: function 46 -/
mutual
def interchangeref03_size.j0 : Nat → Int → Bool → Option (Int)
  | 0, _, _ => none
  | k + 1, x0, x14 => if x14 = true then (some 1) else (if x0 = 115 then (interchangeref03_size.j1 k x0 true) else (interchangeref03_size.j1 k x0 (x0 == 117)))
def interchangeref03_size.j1 : Nat → Int → Bool → Option (Int)
  | 0, _, _ => none
  | k + 1, x0, x20 => if x20 = true then (some 2) else (if x0 = 73 then (interchangeref03_size.j2 k x0 true) else (if x0 = 105 then (interchangeref03_size.j2 k x0 true) else (interchangeref03_size.j2 k x0 (x0 == 102))))
def interchangeref03_size.j2 : Nat → Int → Bool → Option (Int)
  | 0, _, _ => none
  | k + 1, x0, x30 => if x30 = true then (some 4) else (if x0 = 68 then (some 5) else (if x0 = 108 then (some 8) else (if x0 = 100 then (some 8) else (if x0 = 84 then (some 8) else (some (-1))))))
end
def interchangeref03_size.f (k : Nat) (a0 : Int) : Option (Int) := if a0 = 86 then (some 0) else (if a0 = 116 then (interchangeref03_size.j0 k a0 true) else (if a0 = 98 then (interchangeref03_size.j0 k a0 true) else (interchangeref03_size.j0 k a0 (a0 == 66))))
theorem interchangeref03_size.mono_l : ∀ k, (∀ y0 y1, LeO (interchangeref03_size.j0 k y0 y1) (interchangeref03_size.j0 (k + 1) y0 y1)) ∧ (∀ y0 y1, LeO (interchangeref03_size.j1 k y0 y1) (interchangeref03_size.j1 (k + 1) y0 y1)) ∧ (∀ y0 y1, LeO (interchangeref03_size.j2 k y0 y1) (interchangeref03_size.j2 (k + 1) y0 y1))
  | 0 => ⟨fun _ _ r h => by simp [interchangeref03_size.j0] at h, fun _ _ r h => by simp [interchangeref03_size.j1] at h, fun _ _ r h => by simp [interchangeref03_size.j2] at h⟩
  | k + 1 => by
    obtain ⟨ih0, ih1, ih2⟩ := interchangeref03_size.mono_l k
    refine ⟨?_, ?_, ?_⟩
    · intro y0 y1
      unfold interchangeref03_size.j0
      repeat' first
      | (with_reducible exact ih0 _ _)
      | (with_reducible exact ih1 _ _)
      | (with_reducible exact ih2 _ _)
      | (with_reducible exact LeO.refl _)
      | (with_reducible exact LeO.none _)
      | (with_reducible refine LeO.ite ?_ ?_)
      | (with_reducible refine LeO.bind ?_ (fun _ => ?_))
      | exact ih0 _ _
      | exact ih1 _ _
      | exact ih2 _ _
      | exact LeO.none _
      | refine LeO.ite ?_ ?_
      | refine LeO.bind ?_ (fun _ => ?_)
    · intro y0 y1
      unfold interchangeref03_size.j1
      repeat' first
      | (with_reducible exact ih0 _ _)
      | (with_reducible exact ih1 _ _)
      | (with_reducible exact ih2 _ _)
      | (with_reducible exact LeO.refl _)
      | (with_reducible exact LeO.none _)
      | (with_reducible refine LeO.ite ?_ ?_)
      | (with_reducible refine LeO.bind ?_ (fun _ => ?_))
      | exact ih0 _ _
      | exact ih1 _ _
      | exact ih2 _ _
      | exact LeO.none _
      | refine LeO.ite ?_ ?_
      | refine LeO.bind ?_ (fun _ => ?_)
    · intro y0 y1
      unfold interchangeref03_size.j2
      repeat' first
      | (with_reducible exact ih0 _ _)
      | (with_reducible exact ih1 _ _)
      | (with_reducible exact ih2 _ _)
      | (with_reducible exact LeO.refl _)
      | (with_reducible exact LeO.none _)
      | (with_reducible refine LeO.ite ?_ ?_)
      | (with_reducible refine LeO.bind ?_ (fun _ => ?_))
      | exact ih0 _ _
      | exact ih1 _ _
      | exact ih2 _ _
      | exact LeO.none _
      | refine LeO.ite ?_ ?_
      | refine LeO.bind ?_ (fun _ => ?_)
theorem interchangeref03_size.mono : ∀ a0 k, LeO (interchangeref03_size.f k a0) (interchangeref03_size.f (k + 1) a0) := by
  intro a0 k
  obtain ⟨ih0, ih1, ih2⟩ := interchangeref03_size.mono_l k
  unfold interchangeref03_size.f
  repeat' first
      | (with_reducible exact ih0 _ _)
      | (with_reducible exact ih1 _ _)
      | (with_reducible exact ih2 _ _)
      | (with_reducible exact LeO.refl _)
      | (with_reducible exact LeO.none _)
      | (with_reducible refine LeO.ite ?_ ?_)
      | (with_reducible refine LeO.bind ?_ (fun _ => ?_))
      | exact ih0 _ _
      | exact ih1 _ _
      | exact ih2 _ _
      | exact LeO.none _
      | refine LeO.ite ?_ ?_
      | refine LeO.bind ?_ (fun _ => ?_)
set_option maxHeartbeats 8000000 in
set_option maxRecDepth 100000 in
theorem interchangeref03_size.calls (k : Nat) (a0 : Int) (r : Int) (w : World) (h : interchangeref03_size.f k a0 = some r) :
    Calls Tryd.prog 46 #[.int .u8 a0] w fun e w' => e = .returned (.int .i64 r) ∧ Drawn0 w w' := by
  have H : (if a0 = 86 then (some 0) else (if a0 = 116 then (interchangeref03_size.j0 k a0 true) else (if a0 = 98 then (interchangeref03_size.j0 k a0 true) else (interchangeref03_size.j0 k a0 (a0 == 66))))) = some r := h
  clear h
  by_cases c2 : a0 = 86
  · rw [if_pos c2] at H
    have c2b0 : (a0 == 86) = true := beq_iff_eq.mpr c2
    have c2b1 : (a0 != 86) = false := bne_eq_false_iff_eq.mpr c2
    clear c2
    obtain rfl := Option.some.inj H
    go_enter Tryd.func46, Tryd.ntmps46
    go_wp2
    go_ret
    exact ⟨by first | rfl | (simp; done) | (simp [*]; done), by repeat (first | exact Drawn0.refl _ | apply Drawn0.step)⟩
  · rw [if_neg c2] at H
    have c2b0 : (a0 == 86) = false := beq_eq_false_iff_ne.mpr c2
    have c2b1 : (a0 != 86) = true := bne_iff_ne.mpr c2
    have HC3 := Aside0.mk H
    clear H
    go_enter Tryd.func46, Tryd.ntmps46
    go_upto_region 3 with (fail)
    go_cut [14] (fun v14 wc => ∃ (kq : Nat) (x14_2 : Bool), v14 = .bool x14_2 ∧ Aside0 (interchangeref03_size.j0 kq a0 x14_2 = some r) ∧ Aside0 (kq ≤ k) ∧ Drawn0 w wc)
    case first =>
      have H := HC3.out
      clear HC3
      by_cases c4 : a0 = 116
      · rw [if_pos c4] at H
        have c4b0 : (a0 == 116) = true := beq_iff_eq.mpr c4
        have c4b1 : (a0 != 116) = false := bne_eq_false_iff_eq.mpr c4
        clear c4
        (first | rw [c4b0] | (simp only [i64_w, i32_w]; rw [c4b0]) | skip)
        have H' := Aside0.mk H
        clear H
        go_wp2
        go_meet
        case rel => exact ⟨_, (true), (by first | rfl | (simp; done) | (simp [*]; done)), H', ⟨by first | omega | exact Nat.le_refl _⟩, by repeat (first | exact Drawn0.refl _ | apply Drawn0.step)⟩
      · rw [if_neg c4] at H
        have c4b0 : (a0 == 116) = false := beq_eq_false_iff_ne.mpr c4
        have c4b1 : (a0 != 116) = true := bne_iff_ne.mpr c4
        (first | rw [c4b0] | (simp only [i64_w, i32_w]; rw [c4b0]) | skip)
        by_cases c5 : a0 = 98
        · rw [if_pos c5] at H
          have c5b0 : (a0 == 98) = true := beq_iff_eq.mpr c5
          have c5b1 : (a0 != 98) = false := bne_eq_false_iff_eq.mpr c5
          clear c5
          have H' := Aside0.mk H
          clear H
          go_wp2
          go_meet
          case rel => exact ⟨_, (true), (by first | rfl | (simp; done) | (simp [*]; done)), H', ⟨by first | omega | exact Nat.le_refl _⟩, by repeat (first | exact Drawn0.refl _ | apply Drawn0.step)⟩
        · rw [if_neg c5] at H
          have c5b0 : (a0 == 98) = false := beq_eq_false_iff_ne.mpr c5
          have c5b1 : (a0 != 98) = true := bne_iff_ne.mpr c5
          have H' := Aside0.mk H
          clear H
          go_wp2
          go_meet
          case rel => exact ⟨_, ((a0 == 66)), (by first | rfl | (simp; done) | (simp [*]; done)), H', ⟨by first | omega | exact Nat.le_refl _⟩, by repeat (first | exact Drawn0.refl _ | apply Drawn0.step)⟩
    case rest =>
      clear HC3
      try clear c2
      try clear c2b0
      try clear c2b1
      try clear p2
      try clear c4
      try clear c4b0
      try clear c4b1
      try clear c5
      try clear c5b0
      try clear c5b1
      obtain ⟨kq, x14_2, rfl, HA, HJ2, ⟨mc2, rfl⟩⟩ := hcut
      cases kq with
      | zero => exact absurd HA.out (by simp [interchangeref03_size.j0])
      | succ kj2 =>
        have H := HA.out
        clear HA
        simp only [interchangeref03_size.j0] at H
        by_cases c6 : x14_2 = true
        · subst c6
          have H1 : (some 1) = some r := by rw [if_pos rfl] at H; exact H
          clear H
          have H := H1
          clear H1
          obtain rfl := Option.some.inj H
          go_wp2
          go_ret
          exact ⟨by first | rfl | (simp; done) | (simp [*]; done), by repeat (first | exact Drawn0.refl _ | apply Drawn0.step)⟩
        · replace c6 := Bool.eq_false_iff.mpr c6
          subst c6
          have H1 : (if a0 = 115 then (interchangeref03_size.j1 kj2 a0 true) else (interchangeref03_size.j1 kj2 a0 (a0 == 117))) = some r := by rw [if_neg (show ¬ (false = true) by decide)] at H; exact H
          clear H
          have H := H1
          clear H1
          have HC7 := Aside0.mk H
          clear H
          go_upto_region 5 with (fail)
          go_cut [20] (fun v20 wc => ∃ (kq : Nat) (x20_6 : Bool), v20 = .bool x20_6 ∧ Aside0 (interchangeref03_size.j1 kq a0 x20_6 = some r) ∧ Aside0 (kq ≤ kj2) ∧ Drawn0 w wc)
          case first =>
            have H := HC7.out
            clear HC7
            by_cases c8 : a0 = 115
            · rw [if_pos c8] at H
              have c8b0 : (a0 == 115) = true := beq_iff_eq.mpr c8
              have c8b1 : (a0 != 115) = false := bne_eq_false_iff_eq.mpr c8
              clear c8
              (first | rw [c8b0] | (simp only [i64_w, i32_w]; rw [c8b0]) | skip)
              have H' := Aside0.mk H
              clear H
              go_wp2
              go_meet
              case rel => exact ⟨_, (true), (by first | rfl | (simp; done) | (simp [*]; done)), H', ⟨by have := HJ2.out; first | omega | exact Nat.le_refl _⟩, by repeat (first | exact Drawn0.refl _ | apply Drawn0.step)⟩
            · rw [if_neg c8] at H
              have c8b0 : (a0 == 115) = false := beq_eq_false_iff_ne.mpr c8
              have c8b1 : (a0 != 115) = true := bne_iff_ne.mpr c8
              (first | rw [c8b0] | (simp only [i64_w, i32_w]; rw [c8b0]) | skip)
              have H' := Aside0.mk H
              clear H
              go_wp2
              go_meet
              case rel => exact ⟨_, ((a0 == 117)), (by first | rfl | (simp; done) | (simp [*]; done)), H', ⟨by have := HJ2.out; first | omega | exact Nat.le_refl _⟩, by repeat (first | exact Drawn0.refl _ | apply Drawn0.step)⟩
          case rest =>
            clear HC7
            try clear c2
            try clear c2b0
            try clear c2b1
            try clear p2
            try clear c4
            try clear c4b0
            try clear c4b1
            try clear c5
            try clear c5b0
            try clear c5b1
            try clear c6
            try clear c8
            try clear c8b0
            try clear c8b1
            try clear p2
            obtain ⟨kq, x20_6, rfl, HA, HJ6, ⟨mc6, rfl⟩⟩ := hcut
            cases kq with
            | zero => exact absurd HA.out (by simp [interchangeref03_size.j1])
            | succ kj6 =>
              have H := HA.out
              clear HA
              simp only [interchangeref03_size.j1] at H
              by_cases c9 : x20_6 = true
              · subst c9
                have H1 : (some 2) = some r := by rw [if_pos rfl] at H; exact H
                clear H
                have H := H1
                clear H1
                obtain rfl := Option.some.inj H
                go_wp2
                go_ret
                exact ⟨by first | rfl | (simp; done) | (simp [*]; done), by repeat (first | exact Drawn0.refl _ | apply Drawn0.step)⟩
              · replace c9 := Bool.eq_false_iff.mpr c9
                subst c9
                have H1 : (if a0 = 73 then (interchangeref03_size.j2 kj6 a0 true) else (if a0 = 105 then (interchangeref03_size.j2 kj6 a0 true) else (interchangeref03_size.j2 kj6 a0 (a0 == 102)))) = some r := by rw [if_neg (show ¬ (false = true) by decide)] at H; exact H
                clear H
                have H := H1
                clear H1
                have HC10 := Aside0.mk H
                clear H
                go_upto_region 7 with (fail)
                go_cut [30] (fun v30 wc => ∃ (kq : Nat) (x30_9 : Bool), v30 = .bool x30_9 ∧ Aside0 (interchangeref03_size.j2 kq a0 x30_9 = some r) ∧ Aside0 (kq ≤ kj6) ∧ Drawn0 w wc)
                case first =>
                  have H := HC10.out
                  clear HC10
                  by_cases c11 : a0 = 73
                  · rw [if_pos c11] at H
                    have c11b0 : (a0 == 73) = true := beq_iff_eq.mpr c11
                    have c11b1 : (a0 != 73) = false := bne_eq_false_iff_eq.mpr c11
                    clear c11
                    (first | rw [c11b0] | (simp only [i64_w, i32_w]; rw [c11b0]) | skip)
                    have H' := Aside0.mk H
                    clear H
                    go_wp2
                    go_meet
                    case rel => exact ⟨_, (true), (by first | rfl | (simp; done) | (simp [*]; done)), H', ⟨by have := HJ2.out; have := HJ6.out; first | omega | exact Nat.le_refl _⟩, by repeat (first | exact Drawn0.refl _ | apply Drawn0.step)⟩
                  · rw [if_neg c11] at H
                    have c11b0 : (a0 == 73) = false := beq_eq_false_iff_ne.mpr c11
                    have c11b1 : (a0 != 73) = true := bne_iff_ne.mpr c11
                    (first | rw [c11b0] | (simp only [i64_w, i32_w]; rw [c11b0]) | skip)
                    by_cases c12 : a0 = 105
                    · rw [if_pos c12] at H
                      have c12b0 : (a0 == 105) = true := beq_iff_eq.mpr c12
                      have c12b1 : (a0 != 105) = false := bne_eq_false_iff_eq.mpr c12
                      clear c12
                      have H' := Aside0.mk H
                      clear H
                      go_wp2
                      go_meet
                      case rel => exact ⟨_, (true), (by first | rfl | (simp; done) | (simp [*]; done)), H', ⟨by have := HJ2.out; have := HJ6.out; first | omega | exact Nat.le_refl _⟩, by repeat (first | exact Drawn0.refl _ | apply Drawn0.step)⟩
                    · rw [if_neg c12] at H
                      have c12b0 : (a0 == 105) = false := beq_eq_false_iff_ne.mpr c12
                      have c12b1 : (a0 != 105) = true := bne_iff_ne.mpr c12
                      have H' := Aside0.mk H
                      clear H
                      go_wp2
                      go_meet
                      case rel => exact ⟨_, ((a0 == 102)), (by first | rfl | (simp; done) | (simp [*]; done)), H', ⟨by have := HJ2.out; have := HJ6.out; first | omega | exact Nat.le_refl _⟩, by repeat (first | exact Drawn0.refl _ | apply Drawn0.step)⟩
                case rest =>
                  clear HC10
                  try clear c1
                  try clear c2
                  try clear c2b0
                  try clear c2b1
                  try clear p2
                  try clear c4
                  try clear c4b0
                  try clear c4b1
                  try clear c5
                  try clear c5b0
                  try clear c5b1
                  try clear c6
                  try clear c8
                  try clear c8b0
                  try clear c8b1
                  try clear c9
                  try clear c11
                  try clear c11b0
                  try clear c11b1
                  try clear c12
                  try clear c12b0
                  try clear c12b1
                  try clear p2
                  obtain ⟨kq, x30_9, rfl, HA, HJ9, ⟨mc9, rfl⟩⟩ := hcut
                  cases kq with
                  | zero => exact absurd HA.out (by simp [interchangeref03_size.j2])
                  | succ kj9 =>
                    have H := HA.out
                    clear HA
                    simp only [interchangeref03_size.j2] at H
                    by_cases c13 : x30_9 = true
                    · subst c13
                      have H1 : (some 4) = some r := by rw [if_pos rfl] at H; exact H
                      clear H
                      have H := H1
                      clear H1
                      obtain rfl := Option.some.inj H
                      go_wp2
                      go_ret
                      exact ⟨by first | rfl | (simp; done) | (simp [*]; done), by repeat (first | exact Drawn0.refl _ | apply Drawn0.step)⟩
                    · replace c13 := Bool.eq_false_iff.mpr c13
                      subst c13
                      have H1 : (if a0 = 68 then (some 5) else (if a0 = 108 then (some 8) else (if a0 = 100 then (some 8) else (if a0 = 84 then (some 8) else (some (-1)))))) = some r := by rw [if_neg (show ¬ (false = true) by decide)] at H; exact H
                      clear H
                      have H := H1
                      clear H1
                      by_cases c14 : a0 = 68
                      · rw [if_pos c14] at H
                        have c14b0 : (a0 == 68) = true := beq_iff_eq.mpr c14
                        have c14b1 : (a0 != 68) = false := bne_eq_false_iff_eq.mpr c14
                        clear c14
                        obtain rfl := Option.some.inj H
                        go_wp2
                        go_ret
                        exact ⟨by first | rfl | (simp; done) | (simp [*]; done), by repeat (first | exact Drawn0.refl _ | apply Drawn0.step)⟩
                      · rw [if_neg c14] at H
                        have c14b0 : (a0 == 68) = false := beq_eq_false_iff_ne.mpr c14
                        have c14b1 : (a0 != 68) = true := bne_iff_ne.mpr c14
                        by_cases c15 : a0 = 108
                        · rw [if_pos c15] at H
                          have c15b0 : (a0 == 108) = true := beq_iff_eq.mpr c15
                          have c15b1 : (a0 != 108) = false := bne_eq_false_iff_eq.mpr c15
                          clear c15
                          obtain rfl := Option.some.inj H
                          go_wp2
                          go_ret
                          exact ⟨by first | rfl | (simp; done) | (simp [*]; done), by repeat (first | exact Drawn0.refl _ | apply Drawn0.step)⟩
                        · rw [if_neg c15] at H
                          have c15b0 : (a0 == 108) = false := beq_eq_false_iff_ne.mpr c15
                          have c15b1 : (a0 != 108) = true := bne_iff_ne.mpr c15
                          by_cases c16 : a0 = 100
                          · rw [if_pos c16] at H
                            have c16b0 : (a0 == 100) = true := beq_iff_eq.mpr c16
                            have c16b1 : (a0 != 100) = false := bne_eq_false_iff_eq.mpr c16
                            clear c16
                            obtain rfl := Option.some.inj H
                            go_wp2
                            go_ret
                            exact ⟨by first | rfl | (simp; done) | (simp [*]; done), by repeat (first | exact Drawn0.refl _ | apply Drawn0.step)⟩
                          · rw [if_neg c16] at H
                            have c16b0 : (a0 == 100) = false := beq_eq_false_iff_ne.mpr c16
                            have c16b1 : (a0 != 100) = true := bne_iff_ne.mpr c16
                            by_cases c17 : a0 = 84
                            · rw [if_pos c17] at H
                              have c17b0 : (a0 == 84) = true := beq_iff_eq.mpr c17
                              have c17b1 : (a0 != 84) = false := bne_eq_false_iff_eq.mpr c17
                              clear c17
                              obtain rfl := Option.some.inj H
                              go_wp2
                              go_ret
                              exact ⟨by first | rfl | (simp; done) | (simp [*]; done), by repeat (first | exact Drawn0.refl _ | apply Drawn0.step)⟩
                            · rw [if_neg c17] at H
                              have c17b0 : (a0 == 84) = false := beq_eq_false_iff_ne.mpr c17
                              have c17b1 : (a0 != 84) = true := bne_iff_ne.mpr c17
                              obtain rfl := Option.some.inj H
                              go_wp2
                              go_ret
                              exact ⟨by first | rfl | (simp; done) | (simp [*]; done), by repeat (first | exact Drawn0.refl _ | apply Drawn0.step)⟩


end Go.Proofs.YthdkmohelampbaaDoor.F
namespace Go.Proofs.YthdkmohelampbaaDoor.F
open Go.RowKit Go.Proofs.YthdkmohelampbaaDoorW.PrintWords Go.Proofs.YthdkmohelampbaaDoorW.PrintLast Go.Proofs.YthdkmohelampbaaDoorW.PrintMore
set_option linter.unusedVariables false
set_option linter.unusedSimpArgs false

theorem take_four (s : ByteArray) : (takeR s 4).2.2 = 0 ∨ (takeR s 4).2.2 = 2 := by
  unfold takeR
  rw [if_pos isW4]
  split
  · exact .inr rfl
  · exact .inl rfl
theorem bt_zero (s : ByteArray) (h : 0 < s.size) : bt s 0 = ((s.data.toList.headD 0).toNat : Int) := by
  rw [show (0 : Int) = ((0 : Nat) : Int) from rfl, bt_get s 0 h]
  have : ∀ (l : List UInt8) (hl : 0 < l.length), ((l[0].toNat : Nat) : Int) = ((l.headD 0).toNat : Int) := by
    intro l hl
    cases l with
    | nil => simp at hl
    | cons b r => rfl
  exact this _ _
theorem take_one (s : ByteArray) (h : 0 < s.size) : takeR s 1 = (((s.data.toList.headD 0).toNat : Int), s.extract 1 s.size, 0) := by
  unfold takeR
  rw [if_pos isW1, if_neg (by omega)]
  have : beNum (s.data.toList.take 1) = (s.data.toList.headD 0).toNat := by
    cases e : s.data.toList with
    | nil => rw [← size_list, e] at h; simp at h
    | cons b r => simp [beNum]
  show (((beNum (s.data.toList.take 1) : Nat) : Int), s.extract 1 s.size, (0 : Int)) = _
  rw [this]
theorem rtshort_f (s : ByteArray) (hz : s.size ≤ 4611686018427387904) : interchangeref02_TakeShort.f s = some (ltakeR 1 s) := by
  unfold interchangeref02_TakeShort.f
  by_cases h : s.size = 0
  · rw [if_pos (by omega)]
    have ht : takeR s 1 = (0, ⟨#[]⟩, 2) := by
      unfold takeR
      rw [if_pos isW1, if_pos (by omega)]
    unfold ltakeR
    rw [ht]
    rfl
  · have hp : 0 < s.size := by omega
    have t1 := take_one s hp
    have hv := (s.data.toList.headD 0).toNat_lt
    rw [if_neg (by omega), if_pos (by omega), bt_zero s hp]
    unfold ltakeR
    rw [t1]
    generalize (s.data.toList.headD 0).toNat = v at hv
    have w1 : wrap64 (1 + wrap64 (v : Int)) = ((1 + v : Nat) : Int) := by unfold wrap64; omega
    have hrs : (s.extract 1 s.size).size = s.size - 1 := by rw [extract_drop, toBA_size, List.length_drop, size_list]
    rw [w1]
    simp only
    rw [if_pos trivial, hrs]
    by_cases l : s.size < 1 + v
    · rw [if_pos (by omega), if_neg (by omega)]
    · rw [if_neg (by omega), if_pos (by omega), if_pos (by omega), if_pos (by omega), if_pos (by omega)]
      rw [Int.toNat_natCast, Int.toNat_natCast]
      have a1 : s.extract 1 (1 + v) = (s.extract 1 s.size).extract 0 v := eq_of_list (by
        rw [Lib.extract_data, extract_take, toBA_list, extract_drop, toBA_list]; congr 1; omega)
      have a2 : s.extract (1 + v) s.size = (s.extract 1 s.size).extract v (s.size - 1) := eq_of_list (by
        conv => rhs; rw [← hrs]
        rw [extract_drop, toBA_list, extract_drop, toBA_list, extract_drop, toBA_list, List.drop_drop])
      rw [a1, a2]
/-- a length, and what stands within it -/
theorem rinside_k {k : Nat} (hk : 12 ≤ k) (s : ByteArray) (hz : s.size ≤ 4611686018427387904) : interchangeref03_inside.f k s = some (ltakeR 4 s) := by
  unfold interchangeref03_inside.f
  rw [rtake_k hk, Option.bind_some]
  have hb := (take_bound s 4).1
  have hr := take_rest s 4
  have h4 := take_four s
  unfold ltakeR
  generalize takeR s 4 = t at hb hr h4
  obtain ⟨t1, t2, t3⟩ := t
  simp only at hb hr h4 ⊢
  by_cases e : t3 = 0
  · rw [if_pos e, if_pos e, wrapU (by omega) (by omega)]
    by_cases l : t1 ≤ (t2.size : Int)
    · rw [if_neg (by omega), if_pos hb, if_pos l, if_pos l]
    · rw [if_pos (by omega), if_neg l]
  · rw [if_neg e, if_neg e]
    rcases h4 with h | h
    · exact absurd h e
    · rw [h]
def sizeI (c : Nat) : Int := match sizeU c with | some n => (n : Int) | none => -1
theorem rsize_at (c : UInt8) : interchangeref03_size.f 40 (c.toNat : Int) = some (sizeI c.toNat) := by
  have h : ∀ n : Fin 256, interchangeref03_size.f 40 (n.val : Int) = some (sizeI n.val) := by decide +kernel
  exact h ⟨c.toNat, c.toNat_lt⟩
theorem rsize_k {k : Nat} (hk : 40 ≤ k) (c : UInt8) : interchangeref03_size.f k (c.toNat : Int) = some (sizeI c.toNat) := at_rounds (interchangeref03_size.mono (c.toNat : Int)) hk (rsize_at c)
end Go.Proofs.YthdkmohelampbaaDoor.F
