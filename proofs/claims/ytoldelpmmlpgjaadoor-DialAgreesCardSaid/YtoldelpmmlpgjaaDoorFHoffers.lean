/- dial.Offers' contract. -/
import Derived.Test.YtoldelpmmlpgjaaDoorFHofferiter
import Derived.Shelf.RegionOpen
namespace Go.Proofs.YtoldelpmmlpgjaaDoor.F
open Go.RowKit Go.Proofs.YtoldelpmmlpgjaaDoorW.PrintWords Go.Proofs.YtoldelpmmlpgjaaDoorW.PrintLast Go.Proofs.YtoldelpmmlpgjaaDoorW.PrintMore
set_option linter.unusedVariables false
set_option linter.unusedSimpArgs false
attribute [local go_sem] Oper.semAt_some

theorem results_cell1 {P : Program} {fn : Func} {p : Tmp} {ty : TypeId} {d : TypeDesc} {v : Value} (h : fn.results = #[.cell p ty]) (tmps : Array Value) (w : World) (a : Addr) (hp : tmps.getD p undef = .pointer (some a)) (hu : P.underlying ty = some d)
    (hd : (match d with | .struct _ | .array _ _ => true | _ => false) = false) (hc : w.cell? a = some v) : (results fn tmps).run P w = .ok v w := by
  have hp' : tmps[p]?.getD undef = .pointer (some a) := by simpa using hp
  have ha : (isAgg ty).run P w = .ok false w := by cases d <;> simp_all [isAgg, run_underlying hu]
  simp [results, h, hp', asAddr, loadVar, ha, go_sem, hc]
def dial_Offers.f (a0 a1 : ByteArray) : Option Bool := if a0.size ≤ 4611686018427387904 then some (offR a0 a1) else none
theorem OJ.own {w0 : World} {n B : Nat} {word : ByteArray} (hn : n ≤ w0.heap.size) (hB : n ≤ B) {tot : Bool} {big : Nat} : OwnFrom B (OJ w0 n word tot big) :=
  fun x W W' row h hg hr => ⟨OHeld.own hn hB (fun x : ByteArray => x) x W W' row h.1 hg hr, h.2⟩
theorem OJ2.own {w0 : World} {n B : Nat} {word : ByteArray} (hn : n ≤ w0.heap.size) (hB : n ≤ B) {tot : Bool} {big : Nat} : OwnFrom B (OJ2 w0 n word tot big) :=
  fun x W W' row h hg hr => ⟨OHeld.own hn hB (fun x : ByteArray => x) x W W' row h.1 hg hr, h.2⟩
theorem OE.own {w0 : World} {n B : Nat} (hn : n ≤ w0.heap.size) (hB : n ≤ B) {tot : Bool} : OwnFrom B (fun (_ : Unit) W => OE w0 n tot W) := by
  rintro x W W' row ⟨h3, h4, h5⟩ hg hr
  have hr' : ∀ r, row = some r → ∃ o : Obj, W.heap[r]? = some o ∧ o.isCells = false := fun r e => (hr r e).2
  exact ⟨boxed_other h3 hg hr', h4, ownFrom_below (β := Unit) hn hB x W W' row h5 hg hr⟩
/-- where a word was found -/
def OX (w0 : World) (n : Nat) (tot : Bool) (c : Code) (_ : ByteArray) (W : World) : Prop := c = .ret ∧ Boxed W (n + 1) 4 (.bool true) ∧ tot = true ∧ Below n w0 W
theorem OX.own {w0 : World} {n B : Nat} (hn : n ≤ w0.heap.size) (hB : n ≤ B) {tot : Bool} (c : Code) : OwnFrom B (OX w0 n tot c) := by
  rintro x W W' row ⟨h2, h3, h4, h5⟩ hg hr
  have hr' : ∀ r, row = some r → ∃ o : Obj, W.heap[r]? = some o ∧ o.isCells = false := fun r e => (hr r e).2
  exact ⟨h2, boxed_other h3 hg hr', h4, ownFrom_below (β := ByteArray) hn hB x W W' row h5 hg hr⟩
/-- behind the assignment -/
def OJ1 (w0 : World) (n : Nat) (word : ByteArray) (tot : Bool) (big : Nat) (tm : Value → Array Value) (x : ByteArray × Act) (W : World) : Prop :=
  x.2 = { tmps := tm ((oencs x.1).getD 0 undef), defers := [] } ∧ OJ w0 n word tot big x.1 W
theorem OJ1.own {w0 : World} {n B : Nat} {word : ByteArray} (hn : n ≤ w0.heap.size) (hB : n ≤ B) {tot : Bool} {big : Nat} {tm : Value → Array Value} : OwnFrom B (OJ1 w0 n word tot big tm) :=
  fun x W W' row h hg hr => ⟨h.1, OJ.own hn hB x.1 W W' row h.2 hg hr⟩
set_option maxHeartbeats 4000000 in
set_option maxRecDepth 100000 in
theorem dial_Offers.calls (a0 a1 : ByteArray) (r : Bool) (w : World) (h : dial_Offers.f a0 a1 = some r) :
    Calls Tryd.prog 9 #[.string a0, .string a1] w fun e w' => e = .returned (.bool r) ∧ Below w.heap.size w w' := by
  have hz : a0.size ≤ 4611686018427387904 := by
    unfold dial_Offers.f at h
    split at h
    · assumption
    · cases h
  have hs : offR a0 a1 = r := by
    unfold dial_Offers.f at h
    rw [if_pos hz] at h
    exact Option.some.inj h
  clear h
  replace hs := Aside0.mk hs
  replace hz := Aside0.mk hz
  refine (callsIn_wide (n := 4)).1 ?_
  refine callsIn_of_wp_marks Tryd.func9 rfl trivial ?_ rfl
  simp only [Tryd.ntmps9, List.size_toArray, List.length_cons, List.length_nil, Nat.reduceAdd, Nat.reduceSub, Array.replicate_succ, Array.replicate_zero, List.push_toArray, List.append_toArray, List.nil_append, List.cons_append]
  gi_wp2_with (refine ⟨trivial, ?_⟩; gi_at_call 16; refine (callsIn_wide.2 (splitSeq_calls _ _ _)).mono ?_; rintro e w' ⟨rfl, rfl⟩)
  have hn5 : ∀ (o1 o2 o3 o4 o5 : Obj), (((((w.alloc o1).alloc o2).alloc o3).alloc o4).alloc o5).heap.size = w.heap.size + 5 := by intros; simp
  have hF0 : OHeld w w.heap.size a1 a0 (((((w.alloc (.cells #[.string a1] 9)).alloc (.cells #[.bool false] 4)).alloc (.cells #[.string a0] 9)).alloc (.cells #[.string ⟨#[32]⟩] 9)).alloc (.cells #[.int .i64 0] 3)) := by
    refine ⟨((((Boxed.new w _ _).alloc _).alloc _).alloc _).alloc _, (((boxed_at _ _ _ _ (by simp)).alloc _).alloc _).alloc _, ((boxed_at _ _ _ _ (by simp)).alloc _).alloc _, (boxed_at _ _ _ _ (by simp)).alloc _, boxed_at _ _ _ _ (by simp), ?_⟩
    exact (((((Below.refl _ w).alloc (Nat.le_refl _) _).alloc (by simp) _).alloc (by simp; omega) _).alloc (by simp; omega) _).alloc (by simp; omega) _
  refine wpIn_rangeFunc_shared rfl (by decide) (gf := 23) (lb := #[.pointer (some ⟨w.heap.size + 3, 0, none⟩), .pointer (some ⟨w.heap.size + 2, 0, none⟩), .pointer (some ⟨w.heap.size + 4, 0, none⟩)]) rfl trivial (enters_of Tryd.func23 (by kernel_rfl) rfl)
    oencs (fun _ => rfl) (OJ w w.heap.size a1 (offR a0 a1) a0.size)
    (OJ1 w w.heap.size a1 (offR a0 a1) a0.size fun x => #[.string a0, .string a1, undef, .pointer (some ⟨w.heap.size, 0, none⟩), .pointer (some ⟨w.heap.size + 1, 0, none⟩), x, .string a0,
      .func (.func 23) #[] #[.pointer (some ⟨w.heap.size + 1 + 1 + 1, 0, none⟩), .pointer (some ⟨w.heap.size + 1 + 1, 0, none⟩), .pointer (some ⟨w.heap.size + 1 + 1 + 2, 0, none⟩)], x, undef, undef, undef, undef, undef, undef, undef])
    (OJ2 w w.heap.size a1 (offR a0 a1) a0.size) (OX w w.heap.size (offR a0 a1)) (fun _ W => OE w w.heap.size (offR a0 a1) W)
    (OJ1.own (Nat.le_refl _) (by rw [hn5]; omega)) (OJ2.own (Nat.le_refl _) (by rw [hn5]; omega)) (fun c => OX.own (Nat.le_refl _) (by rw [hn5]; omega) c) (OE.own (Nat.le_refl _) (by rw [hn5]; omega)) ?seq ?assign ?body ?done ?stop
  case stop =>
    rintro D c s W hD ⟨rfl, e3, e4, e5⟩ hK
    have c3 := e3.cell
    rw [hn5] at hD
    have hBd := e5.trans (belowK_b (w := w) (Nat.le_refl _) W D _ (.deferred none) (by omega) hK rfl rfl)
    have hr : r = true := by rw [← hs.out, e4]
    subst hr
    gi_wp2
    refine ⟨by simp, .inl ⟨_, _, rfl, run_takeDeferred hK, ?_⟩⟩
    have c4 := (boxed_other e3 (grownBy_putObj' W D (.deferred none)) (fun r e => by cases e; exact ⟨_, hK, rfl⟩)).cell
    exact ⟨_, results_cell1 rfl _ _ _ rfl Tryd.underlying4 rfl c4, rfl, hBd⟩
  case seq =>
    rintro l B X o1 o2 W1 hW1 _ hB h1 hY
    have hF1 : OHeld w w.heap.size a1 a0 W1 := by
      rw [← hW1]
      exact hF0.below (((Below.refl _ _).alloc (Nat.le_refl _) _).alloc (by simp) _)
    exact offers_iter 2 w w.heap.size rfl a1 (offR a0 a1) a0.size (Nat.le_trans hz.out (by decide)) l _ (by rw [hn5]; omega) B X W1 hB h1 hY a0 hF1 rfl (Nat.le_refl _)
  case assign =>
    rintro l s W K hlt hJ hK
    unfold oencs
    gi_wp2
    apply hK
    · exact (KeepsOthers.refl _).from _
    · exact ⟨by simp [oencs], hJ⟩
  case done =>
    rintro D W hD ⟨e3, e4, e5⟩ hK
    have c3 := e3.cell
    have f3 := e3.frozen
    rw [hn5] at hD
    have hr : r = false := by rw [← hs.out, e4]
    subst hr
    have hK2 : (W.setCell ⟨w.heap.size + 1, 0, none⟩ (.bool false)).heap[D]? = some (.deferred (some [])) := (KeepsOthers.setCell _ _ _).same D _ hK rfl
    have hBd := (e5.setCell (p := ⟨w.heap.size + 1, 0, none⟩) (by simp) (.bool false)).trans (belowK_b (w := w) (Nat.le_refl _) (W.setCell ⟨w.heap.size + 1, 0, none⟩ (.bool false)) D _ (.deferred none) (by omega) hK2 rfl rfl)
    gi_wp2
    refine ⟨by simp, .inl ⟨_, _, rfl, run_takeDeferred hK2, ?_⟩⟩
    have c4 := (boxed_other (e3.set (.bool false)) (grownBy_putObj' (W.setCell ⟨w.heap.size + 1, 0, none⟩ (.bool false)) D (.deferred none)) (fun r e => by cases e; exact ⟨_, hK2, rfl⟩)).cell
    exact ⟨_, results_cell1 rfl _ _ _ rfl Tryd.underlying4 rfl c4, rfl, hBd⟩
  case body =>
    rintro l s a' W hlt ⟨ha', hJ⟩
    obtain ⟨⟨h1, h2, h3, h4, h5, h8⟩, hT, hlen⟩ := hJ
    dsimp only at ha'
    subst ha'
    have hv := h1.cell
    have hr1 := h2.cell
    have hr2 := h2.frozen
    simp only [oencs, Array.getD, List.getElem_toArray]
    have hTT := Aside0.mk hT
    have hEE := Aside0.mk (offR_eq s a1)
    clear hT
    by_cases e1 : (wordAt s).toList = a1.toList
    · have d1 : ((wordAt s).toList == a1.toList) = true := beq_iff_eq.2 e1
      by_cases e2 : a1.toList = []
      · have d2 : (a1.toList != ([] : List UInt8)) = false := by rw [bne_eq_false_iff_eq]; exact e2
        have d3 : (!a1.toList.isEmpty) = false := by rw [e2]; rfl
        have hn : isWord (wordAt s) a1 = false := by unfold isWord; rw [decide_eq_false (show ¬ a1.toList ≠ [] from fun h => h e2), Bool.and_false]
        have E2 := Aside0.mk hn
        clear e1 e2 hn
        gi_wp2
        exact ⟨(KeepsOthers.refl _).from _, ⟨h1, h2, h3, h4, h5, h8⟩, hTT.out, E2.out, hlen⟩
      · have d2 : (a1.toList != ([] : List UInt8)) = true := by rw [bne_iff_ne]; exact e2
        have d3 : (!a1.toList.isEmpty) = true := by cases h : a1.toList with
          | nil => exact absurd h e2
          | cons _ _ => rfl
        have hn : isWord (wordAt s) a1 = true := by unfold isWord; rw [decide_eq_true e1, decide_eq_true e2]; rfl
        have E2 := Aside0.mk hn
        clear e1 e2 hn
        gi_wp2
        exact ⟨(KeepsOthers.setCell _ _ _).from _, rfl, h2.set _, by rw [hTT.out, hEE.out, E2.out, Bool.true_or], h8.setCell (p := ⟨w.heap.size + 1, 0, none⟩) (by simp) _⟩
    · have d1 : ((wordAt s).toList == a1.toList) = false := beq_eq_false_iff_ne.2 e1
      have hn : isWord (wordAt s) a1 = false := by unfold isWord; rw [decide_eq_false e1, Bool.false_and]
      have E2 := Aside0.mk hn
      clear e1 hn
      gi_wp2
      exact ⟨(KeepsOthers.refl _).from _, ⟨h1, h2, h3, h4, h5, h8⟩, hTT.out, E2.out, hlen⟩
end Go.Proofs.YtoldelpmmlpgjaaDoor.F
