/- Texts of this session for the law FrameTakes, one behind the other: Hsplit, frameHeader, stringsliteHasPrefix, stringsHasPrefix, frameBegins, interchangelaw04shown, interchangeref04Begins, interchangeref01Put, interchangeref04Right, interchangeref04Bytes, eq29, interchangeref04Same, interchangeref01Take. -/
import Derived.Shelf.RegionOpen
import Derived.Maps.AppendAt
import Derived.Test.YtdalcbhnnfabhaaDoorBFrameTakesa
import Derived.Test.YtdalcbhnnfabhaaDoorBFrameTakesb
namespace Go.Proofs.YtdalcbhnnfabhaaDoor.F
open Go.RowKit Go.Proofs.YtdalcbhnnfabhaaDoorW.PrintWords Go.Proofs.YtdalcbhnnfabhaaDoorW.PrintLast Go.Proofs.YtdalcbhnnfabhaaDoorW.PrintMore
set_option linter.unusedVariables false
set_option linter.unusedSimpArgs false
attribute [local go_sem] Oper.semAt_some

def frame_Split.f (a0 : ByteArray) (a1 : Int) : Option (List S29 × ByteArray × Int) := if a0.size ≤ 4294967296 then some (splitR (mostN a1) a0) else none
theorem cell_three_new (w : World) (x y z : Value) (t : TypeId) : ∀ j u, [x, y, z][j]? = some u → (w.alloc (.cells #[x, y, z] t)).cell? ((⟨w.heap.size, 0, none⟩ : Addr).add j) = some u := by
  intro j u hj
  match j, hj with
  | 0, hj => simp at hj; subst hj; simp [Addr.add]
  | 1, hj => simp at hj; subst hj; simp [Addr.add]
  | 2, hj => simp at hj; subst hj; simp [Addr.add]
abbrev fEnd (n : Nat) : Value := .func (.func 28) #[] #[.pointer (some ⟨n, 0, none⟩), .pointer (some ⟨n + 1, 0, none⟩)]
/-- behind the assignment: the round's frame lies in a block of its own -/
def FJ1 (w0 : World) (n : Nat) (most : Int) (tot : Splitted) (big : Nat) (tm : Nat → Value → Array Value) (x : (List S29 × ByteArray) × Act) (W : World) : Prop :=
  ∃ Bx, n + 6 ≤ Bx ∧ x.2 = { tmps := tm Bx ((fencs most x.1).getD 0 undef), defers := [] } ∧
    W.heap[Bx]? = some (.cells #[.int .i64 (takeL (mostN most) x.1.2.data.toList).1, .int .i64 (takeL (mostN most) x.1.2.data.toList).2.1, .string (takeL (mostN most) x.1.2.data.toList).2.2.1] 29 (0, 0)) ∧ FJ w0 n (fEnd n) most tot big x.1 W
theorem FJ.own {w0 : World} {n B : Nat} (hn : n ≤ w0.heap.size) (hB : n ≤ B) {endv : Value} {most : Int} {tot : Splitted} {big : Nat} : OwnFrom B (FJ w0 n endv most tot big) :=
  fun x W W' row h hg hr => ⟨FHeld.own hn hB (fun x : List S29 × ByteArray => x.1) (fun x => x.2) x W W' row h.1 hg hr, h.2⟩
theorem FJ2.own {w0 : World} {n B : Nat} (hn : n ≤ w0.heap.size) (hB : n ≤ B) {endv : Value} {most : Int} {tot : Splitted} {big : Nat} : OwnFrom B (FJ2 w0 n endv most tot big) :=
  fun x W W' row h hg hr => ⟨FHeld.own hn hB (fun x : List S29 × ByteArray => x.1 ++ [toF (takeL (mostN most) x.2.data.toList)]) (fun x => x.2) x W W' row h.1 hg hr, h.2⟩
theorem FJ1.own {w0 : World} {n B : Nat} (hn : n ≤ w0.heap.size) (hB : n ≤ B) {most : Int} {tot : Splitted} {big : Nat} {tm : Nat → Value → Array Value} : OwnFrom B (FJ1 w0 n most tot big tm) := by
  rintro x W W' row ⟨Bx, h1, h2, h3, h4⟩ hg hr
  refine ⟨Bx, h1, h2, (hg.block Bx (Array.getElem?_eq_some_iff.1 h3).1 fun e => ?_).trans h3, FJ.own hn hB x.1 W W' row h4 hg hr⟩
  obtain ⟨_, o, ho, hc⟩ := hr Bx e.symm
  rw [h3] at ho; cases ho; cases hc
theorem FE.own {w0 : World} {n B : Nat} (hn : n ≤ w0.heap.size) (hB : n ≤ B) {tot : Splitted} : OwnFrom B (fun (_ : Unit) W => FE w0 n tot W) := by
  rintro x W W' row ⟨h1, h2, ⟨v, h3, h4⟩, h5⟩ hg hr
  have hr' : ∀ r, row = some r → ∃ o : Obj, W.heap[r]? = some o ∧ o.isCells = false := fun r e => (hr r e).2
  exact ⟨boxed_other h1 hg hr', boxed_other h2 hg hr', ⟨v, boxed_other h3 hg hr', R_other h4 hg hr'⟩, ownFrom_below (β := Unit) hn hB x W W' row h5 hg hr⟩
set_option maxHeartbeats 4000000 in
set_option maxRecDepth 100000 in
theorem frame_Split.calls (a0 : ByteArray) (a1 : Int) (r1 : List S29) (r2 : ByteArray) (r3 : Int) (w : World) (hg : Laid w) (h : frame_Split.f a0 a1 = some (r1, r2, r3)) :
    Calls Tryd.prog 16 #[.string a0, .int .i64 a1] w fun e w' => ∃ v0_ : Value, e = .returned (.tuple #[v0_, .string r2, .int .i64 r3]) ∧ Kd.R k29 29 w' w.heap.size (fun _ => True) v0_ r1 ∧ Below w.heap.size w w' := by
  have hz : a0.size ≤ 4294967296 := by
    unfold frame_Split.f at h
    split at h
    · assumption
    · cases h
  have hs : splitR (mostN a1) a0 = (r1, r2, r3) := by
    unfold frame_Split.f at h
    rw [if_pos hz] at h
    exact Option.some.inj h
  clear h
  replace hs := Aside0.mk hs
  replace hz := Aside0.mk hz
  refine (callsIn_wide (n := 4)).1 ?_
  refine callsIn_of_wp_marks Tryd.func16 rfl trivial ?_ rfl
  simp only [Tryd.ntmps16, List.size_toArray, List.length_cons, List.length_nil, Nat.reduceAdd, Nat.reduceSub, Array.replicate_succ, Array.replicate_zero, List.push_toArray, List.append_toArray, List.nil_append, List.cons_append]
  gi_wp2_with (refine ⟨trivial, ?_⟩; gi_at_call 29; refine (callsIn_wide.2 (frames_calls _ _ _ _ _ _)).mono ?_; rintro e w' ⟨rfl, rfl⟩)
  have hn6 : ∀ (o1 o2 o3 o4 o5 o6 : Obj), ((((((w.alloc o1).alloc o2).alloc o3).alloc o4).alloc o5).alloc o6).heap.size = w.heap.size + 6 := by intros; simp
  have hF0 : FHeld w w.heap.size (fEnd w.heap.size) a1 [] a0 ((((((w.alloc (.cells #[.string ⟨#[]⟩] 9)).alloc (.cells #[.int .i64 0] 24)).alloc (.cells #[.slice none 0 0] 36)).alloc (.cells #[.string a0] 9)).alloc (.cells #[.int .i64 a1] 3)).alloc (.cells #[fEnd w.heap.size] 57)) := by
    have nw : ∀ (W : World) (m : Nat) (t : TypeId) (v : Value), W.heap.size = m → Boxed (W.alloc (.cells #[v] t)) m t v := fun W m t v e => e ▸ Boxed.new W t v
    refine ⟨((nw _ _ _ _ (by simp)).alloc _).alloc _, (nw _ _ _ _ (by simp)).alloc _, nw _ _ _ _ (by simp), ((((Boxed.new w _ _).alloc _).alloc _).alloc _).alloc _ |>.alloc _, ((((nw _ _ _ _ (by simp)).alloc _).alloc _).alloc _).alloc _, ⟨.slice none 0 0, (((nw _ _ _ _ (by simp)).alloc _).alloc _).alloc _, Kd.R_nil _ _ _ _ _⟩, ?_⟩
    exact ((((((Below.refl _ w).alloc (Nat.le_refl _) _).alloc (by simp) _).alloc (by simp; omega) _).alloc (by simp; omega) _).alloc (by simp; omega) _).alloc (by simp; omega) _
  refine wpIn_rangeFunc_shared rfl (by decide) (gf := 34) (lb := #[.pointer (some ⟨w.heap.size + 3, 0, none⟩), .pointer (some ⟨w.heap.size + 4, 0, none⟩), .pointer (some ⟨w.heap.size + 5, 0, none⟩)]) rfl trivial (enters_of Tryd.func34 (by kernel_rfl) rfl)
    (fencs a1) (fun _ => rfl) (FJ w w.heap.size (fEnd w.heap.size) a1 (splitR (mostN a1) a0) a0.size)
    (FJ1 w w.heap.size a1 (splitR (mostN a1) a0) a0.size fun Bx x => #[.string a0, .int .i64 a1, undef, undef, .slice none 0 0, .string ⟨#[]⟩, .int .i64 0, .pointer (some ⟨w.heap.size, 0, none⟩), .pointer (some ⟨w.heap.size + 1, 0, none⟩), fEnd w.heap.size,
      .pointer (some ⟨w.heap.size + 1 + 1, 0, none⟩), .pointer (some ⟨Bx, 0, none⟩), fEnd w.heap.size, .string a0, .int .i64 a1, fEnd w.heap.size,
      .func (.func 34) #[] #[.pointer (some ⟨w.heap.size + 1 + 1 + 1, 0, none⟩), .pointer (some ⟨w.heap.size + 1 + 1 + 1 + 1, 0, none⟩), .pointer (some ⟨w.heap.size + 1 + 1 + 1 + 2, 0, none⟩)], x, undef, undef, undef, undef, undef, undef, undef])
    (FJ2 w w.heap.size (fEnd w.heap.size) a1 (splitR (mostN a1) a0) a0.size) (fun _ _ _ => False) (fun _ W => FE w w.heap.size (splitR (mostN a1) a0) W)
    (FJ1.own (Nat.le_refl _) (by rw [hn6]; omega)) (FJ2.own (Nat.le_refl _) (by rw [hn6]; omega)) (fun _ _ _ _ _ hs _ _ => hs) (FE.own (Nat.le_refl _) (by rw [hn6]; omega)) ?seq ?assign ?body ?done ?stop
  case stop =>
    rintro D c s W _ h _
    exact h.elim
  case seq =>
    rintro l B X o1 o2 W1 hW1 _ hB h1 hY
    have hF1 : FHeld w w.heap.size (fEnd w.heap.size) a1 [] a0 W1 := by
      rw [← hW1]
      exact hF0.below (((Below.refl _ _).alloc (Nat.le_refl _) _).alloc (by simp) _)
    exact frames_iter 2 w hg w.heap.size rfl a1 (splitR (mostN a1) a0) a0.size (Nat.le_trans hz.out (by decide)) l _ (by rw [hn6]; omega) B X W1 hB h1 hY a0 hF1 rfl (Nat.le_refl _)
  case assign =>
    rintro l s W K hlt hJ hK
    rw [hn6] at hlt
    unfold fencs
    gi_wp2
    apply hK
    · exact (KeepsOthers.alloc _ _).from _
    · exact ⟨W.heap.size, by omega, by simp [fencs], World.alloc_heap_new W _, hJ.1.below ((Below.refl _ _).alloc (Nat.le_refl _) _), hJ.2⟩
  case done =>
    rintro D W hD ⟨e1, e2, ⟨v, e3, e4⟩, e5⟩ hK
    have c1 := e1.cell
    have c2 := e2.cell
    have c3 := e3.cell
    have c3' : W.cell? ⟨w.heap.size + 1 + 1, 0, none⟩ = some v := c3
    have hmx : Tryd.prog.follows .mixedOrders = true := by kernel_rfl
    gi_wp2
    gi_region_o
    gi_wp2
    have hKd : W.drew.heap[D]? = some (.deferred (some [])) := hK
    rw [hn6] at hD
    refine ⟨by simp, .inl ⟨_, _, rfl, run_takeDeferred hKd, ?_⟩⟩
    have hR := R_other (Kd.R_drew e4) (grownBy_putObj' W.drew D (.deferred none)) (fun r e => by cases e; exact ⟨_, hKd, rfl⟩)
    have hBd := (below_drew e5).trans (belowK_b (w := w) (Nat.le_refl _) W.drew D _ (.deferred none) (by omega) hKd rfl rfl)
    rw [hs.out] at hR e1 e2 ⊢
    refine ⟨_, by simp [results], v, rfl, hR, hBd⟩
  case body =>
    rintro l s a' W hlt ⟨Bx, hBx, ha', hcx, hJ⟩
    obtain ⟨⟨h1, h2, h3, h4, h5, ⟨v, h6, h7⟩, h8⟩, hJ'⟩ := hJ
    dsimp only at ha'
    subst ha'
    obtain ⟨_, inner, hrow0, hreps⟩ := h7
    have hrow : W.ownsRow w.heap.size 29 3 v s.1.length inner := hrow0
    have hv := h6.cell
    have hvf := h6.frozen
    have hv' : W.cell? ⟨w.heap.size + 1 + 1, 0, none⟩ = some v := hv
    have hvf' : W.frozen? ⟨w.heap.size + 1 + 1, 0, none⟩ = false := hvf
    have x0 := (blk_cell hcx 0).trans rfl
    have x1 := (blk_cell hcx 1).trans rfl
    have x2 := (blk_cell hcx 2).trans rfl
    obtain ⟨i0, hi, hz0, hz1, hz2⟩ := info_parts info29
    have hle : w.heap.size ≤ W.heap.size := h8.size
    have hlen : s.1.length ≤ 4294967296 := Nat.le_trans (Nat.le_trans (Nat.le_add_right _ _) hJ'.2.2) hz.out
    replace hJ' := Aside0.mk hJ'
    simp only [fencs, Array.getD, List.getElem_toArray]
    gi_wp2_with (gi_at_builtin; refine wpListIn_append_own _ rfl _ _ 36 rfl w.heap.size 29 i0 _ 3 32 Tryd.underlying36 hi hz0 hz1 hz2 rfl (by decide) _ _ _ rfl (hrow.alloc _) ⟨W.heap.size, 0, none⟩ 1 1 [.int .i64 (takeL (mostN a1) s.2.data.toList).1, .int .i64 (takeL (mostN a1) s.2.data.toList).2.1, .string (takeL (mostN a1) s.2.data.toList).2.2.1] rfl rfl (cell_three_new _ _ _ _ _) (by simp [Value.oneCell']) (by show _ ≤ 9223372036854775807; omega) (by omega) (by simp; omega) ?_; intro v' w1 hown' hgrow _; obtain ⟨g', cap', rfl⟩ := ownsRow_succ hown'; obtain ⟨hv1, hv2, hr2, hk2, hb2⟩ := h6.appended (by decide) hrow hle (by omega) hown' hgrow; have hc1 : w1.cell? ⟨w.heap.size + 1 + 1, 0, none⟩ = some v := hv1.cell; have hf1 : w1.frozen? ⟨w.heap.size + 1 + 1, 0, none⟩ = false := hv1.frozen)
    have kp : ∀ {B : Nat} {t : TypeId} {u : Value}, Boxed W B t u → t ≠ 29 → some B ≠ some (w.heap.size + 2) → Boxed (w1.setCell ⟨w.heap.size + 2, 0, none⟩ (.slice (some ⟨g', 0, none⟩) (s.1.length + 1) cap')) B t u :=
      fun h ht hne => ((h.alloc _).kept hgrow (h.not_row ht hrow)).kept (grownBy_setCell' w1 _ _) hne
    refine ⟨hk2.from _, ⟨⟨kp h1 (by decide) (by simp), kp h2 (by decide) (by simp), kp h3 (by decide) (by simp), kp h4 (by decide) (by simp), kp h5 (by decide) (by simp), ⟨_, hv2, ?_⟩, h8.trans hb2⟩, hJ'.out⟩⟩
    refine ⟨fun _ _ => trivial, _, by rw [List.length_append]; exact hr2, (hreps.imp_ (fun _ c hq => by rw [k29_openM hq]; exact k29_mkM _ _ _ _)).snoc (k29_mkM _ _ _ (toF (takeL (mostN a1) s.2.data.toList))) rfl⟩
end Go.Proofs.YtdalcbhnnfabhaaDoor.F
namespace Go.Proofs.YtdalcbhnnfabhaaDoor.F
open Go.RowKit Go.Proofs.YtdalcbhnnfabhaaDoorW.PrintWords Go.Proofs.YtdalcbhnnfabhaaDoorW.PrintLast Go.Proofs.YtdalcbhnnfabhaaDoorW.PrintMore
attribute [local go_sem] max2_int min2_int max_two min_two max_three min_three max_four min_four
set_option linter.unusedVariables false
set_option linter.unusedSimpArgs false

/-! ### frame_Header: function 11 -/
def frame_Header.f  : Option (ByteArray) := some (⟨#[65, 77, 81, 80, 0, 0, 9, 1]⟩ : ByteArray)
set_option maxHeartbeats 8000000 in
set_option maxRecDepth 100000 in
theorem frame_Header.calls  (r : ByteArray) (w : World) (h : frame_Header.f  = some r) :
    Calls Tryd.prog 11 #[] w fun e w' => e = .returned (.string r) ∧ Drawn0 w w' := by
  have H : (some (⟨#[65, 77, 81, 80, 0, 0, 9, 1]⟩ : ByteArray)) = some r := h
  clear h
  obtain rfl := Option.some.inj H
  go_enter Tryd.func11, Tryd.ntmps11
  go_wp2
  go_ret
  exact ⟨by first | rfl | (simp; done) | (simp [*]; done), by repeat (first | exact Drawn0.refl _ | apply Drawn0.step)⟩


end Go.Proofs.YtdalcbhnnfabhaaDoor.F
namespace Go.Proofs.YtdalcbhnnfabhaaDoor.F
open Go.RowKit Go.Proofs.YtdalcbhnnfabhaaDoorW.PrintWords Go.Proofs.YtdalcbhnnfabhaaDoorW.PrintLast Go.Proofs.YtdalcbhnnfabhaaDoorW.PrintMore
attribute [local go_sem] max2_int min2_int max_two min_two max_three min_three max_four min_four
set_option linter.unusedVariables false
set_option linter.unusedSimpArgs false

/-! ### stringslite_HasPrefix: function 32 -/
def stringslite_HasPrefix.f (a0 : ByteArray) (a1 : ByteArray) : Option (Bool) := if (a0.size : Int) ≥ (a1.size : Int) then (if 0 ≤ (a1.size : Int) then (if (a1.size : Int) ≤ (a0.size : Int) then (some ((a0.extract 0 ((a1.size : Int) : Int).toNat).toList == a1.toList)) else (none)) else (none)) else (some false)
set_option maxHeartbeats 8000000 in
set_option maxRecDepth 100000 in
theorem stringslite_HasPrefix.calls (a0 : ByteArray) (a1 : ByteArray) (r : Bool) (w : World) (h : stringslite_HasPrefix.f a0 a1 = some r) :
    Calls Tryd.prog 32 #[.string a0, .string a1] w fun e w' => e = .returned (.bool r) ∧ Drawn0 w w' := by
  have H : (if (a0.size : Int) ≥ (a1.size : Int) then (if 0 ≤ (a1.size : Int) then (if (a1.size : Int) ≤ (a0.size : Int) then (some ((a0.extract 0 ((a1.size : Int) : Int).toNat).toList == a1.toList)) else (none)) else (none)) else (some false)) = some r := h
  clear h
  by_cases c3 : (a0.size : Int) ≥ (a1.size : Int)
  · rw [if_pos c3] at H
    have c3b0 : decide ((a1.size : Int) ≤ (a0.size : Int)) = true := decide_eq_true c3
    have c3b1 : decide (a1.size ≤ a0.size) = true := decide_eq_true (Int.ofNat_le.mp c3)
    clear c3
    by_cases c4 : 0 ≤ (a1.size : Int)
    · rw [if_pos c4] at H
      have c4b0 := eq_true c4
      have c4b1 : decide (0 ≤ (a1.size : Int)) = true := decide_eq_true c4
      clear c4
      by_cases c5 : (a1.size : Int) ≤ (a0.size : Int)
      · rw [if_pos c5] at H
        have c5b0 := eq_true c5
        have c5b1 : decide ((a1.size : Int) ≤ (a0.size : Int)) = true := decide_eq_true c5
        clear c5
        obtain rfl := Option.some.inj H
        go_enter Tryd.func32, Tryd.ntmps32
        go_wp2
        go_ret
        exact ⟨by first | rfl | (simp; done) | (simp [*]; done), by repeat (first | exact Drawn0.refl _ | apply Drawn0.step)⟩
      · rw [if_neg c5] at H
        exact absurd H (by simp)
    · rw [if_neg c4] at H
      exact absurd H (by simp)
  · rw [if_neg c3] at H
    have c3b0 : decide ((a1.size : Int) ≤ (a0.size : Int)) = false := decide_eq_false c3
    have c3b1 : decide (a1.size ≤ a0.size) = false := decide_eq_false (fun h => c3 (Int.ofNat_le.mpr h))
    clear c3
    obtain rfl := Option.some.inj H
    go_enter Tryd.func32, Tryd.ntmps32
    go_wp2
    go_ret
    exact ⟨by first | rfl | (simp; done) | (simp [*]; done), by repeat (first | exact Drawn0.refl _ | apply Drawn0.step)⟩


end Go.Proofs.YtdalcbhnnfabhaaDoor.F
namespace Go.Proofs.YtdalcbhnnfabhaaDoor.F
open Go.RowKit Go.Proofs.YtdalcbhnnfabhaaDoorW.PrintWords Go.Proofs.YtdalcbhnnfabhaaDoorW.PrintLast Go.Proofs.YtdalcbhnnfabhaaDoorW.PrintMore
attribute [local go_sem] max2_int min2_int max_two min_two max_three min_three max_four min_four
set_option linter.unusedVariables false
set_option linter.unusedSimpArgs false

/-! ### strings_HasPrefix: function 24 -/
def strings_HasPrefix.f (a0 : ByteArray) (a1 : ByteArray) : Option (Bool) := (stringslite_HasPrefix.f a0 a1).bind fun t125 => (some t125)
set_option maxHeartbeats 8000000 in
set_option maxRecDepth 100000 in
theorem strings_HasPrefix.calls (a0 : ByteArray) (a1 : ByteArray) (r : Bool) (w : World) (h : strings_HasPrefix.f a0 a1 = some r) :
    Calls Tryd.prog 24 #[.string a0, .string a1] w fun e w' => e = .returned (.bool r) ∧ Drawn0 w w' := by
  have H : ((stringslite_HasPrefix.f a0 a1).bind fun t125 => (some t125)) = some r := h
  clear h
  replace H := Option.bind_eq_some_iff.mp H
  obtain ⟨t125, A30, H⟩ := H
  replace H : (some t125) = some r := H
  have A3 := Aside0.mk A30
  clear A30
  obtain rfl := Option.some.inj H
  go_enter Tryd.func24, Tryd.ntmps24
  go_wp2_with (first | ((with_reducible refine gate_callee (f := 32) rfl ?_); refine goesL_ (some 7) rfl rfl Tryd.func32 (by kernel_rfl) rfl #[.string a0, .string a1] rfl (by (try simp only [List.map_toArray, List.map_cons, List.map_nil]); first | done | rfl | (simp only [List.length_drop, List.length_take]; rfl)) ?_; (with_reducible refine (stringslite_HasPrefix.calls a0 a1 t125 _ A3.out).mono ?_); rintro e w' ⟨rfl, ⟨nd, rfl⟩⟩; refine ⟨_, rfl, ?_⟩))
  go_ret
  exact ⟨by first | rfl | (simp; done) | (simp [*]; done), by repeat (first | exact Drawn0.refl _ | apply Drawn0.step)⟩


end Go.Proofs.YtdalcbhnnfabhaaDoor.F
namespace Go.Proofs.YtdalcbhnnfabhaaDoor.F
open Go.RowKit Go.Proofs.YtdalcbhnnfabhaaDoorW.PrintWords Go.Proofs.YtdalcbhnnfabhaaDoorW.PrintLast Go.Proofs.YtdalcbhnnfabhaaDoorW.PrintMore
attribute [local go_sem] max2_int min2_int max_two min_two max_three min_three max_four min_four
set_option linter.unusedVariables false
set_option linter.unusedSimpArgs false

/-! ### frame_Begins: function 12 -/
def frame_Begins.f (a0 : ByteArray) : Option (ByteArray × Int) := (frame_Header.f).bind fun t126 => ((strings_HasPrefix.f a0 t126).bind fun t127 => (if t127 = true then (if 0 ≤ (t126.size : Int) then (if (t126.size : Int) ≤ (a0.size : Int) then (some (a0.extract ((t126.size : Int) : Int).toNat a0.size, 0)) else (none)) else (none)) else ((strings_HasPrefix.f t126 a0).bind fun t128 => (if t128 = true then (some ((⟨#[]⟩ : ByteArray), 2)) else (some ((⟨#[]⟩ : ByteArray), 3))))))
set_option maxHeartbeats 8000000 in
set_option maxRecDepth 100000 in
theorem frame_Begins.calls (a0 : ByteArray) (r1 : ByteArray) (r2 : Int) (w : World) (h : frame_Begins.f a0 = some (r1, r2)) :
    Calls Tryd.prog 12 #[.string a0] w fun e w' => e = .returned (.tuple #[.string r1, .int .i64 r2]) ∧ Drawn0 w w' := by
  have H : ((frame_Header.f).bind fun t126 => ((strings_HasPrefix.f a0 t126).bind fun t127 => (if t127 = true then (if 0 ≤ (t126.size : Int) then (if (t126.size : Int) ≤ (a0.size : Int) then (some (a0.extract ((t126.size : Int) : Int).toNat a0.size, 0)) else (none)) else (none)) else ((strings_HasPrefix.f t126 a0).bind fun t128 => (if t128 = true then (some ((⟨#[]⟩ : ByteArray), 2)) else (some ((⟨#[]⟩ : ByteArray), 3))))))) = some (r1, r2) := h
  clear h
  replace H := Option.bind_eq_some_iff.mp H
  obtain ⟨t126, A20, H⟩ := H
  replace H : ((strings_HasPrefix.f a0 t126).bind fun t127 => (if t127 = true then (if 0 ≤ (t126.size : Int) then (if (t126.size : Int) ≤ (a0.size : Int) then (some (a0.extract ((t126.size : Int) : Int).toNat a0.size, 0)) else (none)) else (none)) else ((strings_HasPrefix.f t126 a0).bind fun t128 => (if t128 = true then (some ((⟨#[]⟩ : ByteArray), 2)) else (some ((⟨#[]⟩ : ByteArray), 3)))))) = some (r1, r2) := H
  have A2 := Aside0.mk A20
  clear A20
  replace H := Option.bind_eq_some_iff.mp H
  obtain ⟨t127, A30, H⟩ := H
  replace H : (if t127 = true then (if 0 ≤ (t126.size : Int) then (if (t126.size : Int) ≤ (a0.size : Int) then (some (a0.extract ((t126.size : Int) : Int).toNat a0.size, 0)) else (none)) else (none)) else ((strings_HasPrefix.f t126 a0).bind fun t128 => (if t128 = true then (some ((⟨#[]⟩ : ByteArray), 2)) else (some ((⟨#[]⟩ : ByteArray), 3))))) = some (r1, r2) := H
  have A3 := Aside0.mk A30
  clear A30
  by_cases c4 : t127 = true
  · subst c4
    have H1 : (if 0 ≤ (t126.size : Int) then (if (t126.size : Int) ≤ (a0.size : Int) then (some (a0.extract ((t126.size : Int) : Int).toNat a0.size, 0)) else (none)) else (none)) = some (r1, r2) := by rw [if_pos rfl] at H; exact H
    clear H
    have H := H1
    clear H1
    by_cases c5 : 0 ≤ (t126.size : Int)
    · rw [if_pos c5] at H
      have c5b0 := eq_true c5
      have c5b1 : decide (0 ≤ (t126.size : Int)) = true := decide_eq_true c5
      clear c5
      by_cases c6 : (t126.size : Int) ≤ (a0.size : Int)
      · rw [if_pos c6] at H
        have c6b0 := eq_true c6
        have c6b1 : decide ((t126.size : Int) ≤ (a0.size : Int)) = true := decide_eq_true c6
        clear c6
        simp only [Option.some.injEq, Prod.mk.injEq] at H
        obtain ⟨rfl, rfl⟩ := H
        go_enter Tryd.func12, Tryd.ntmps12
        go_wp2_with (first | ((with_reducible refine gate_callee (f := 11) rfl ?_); refine goesL_ (some 5) rfl rfl Tryd.func11 (by kernel_rfl) rfl #[] rfl (by (try simp only [List.map_toArray, List.map_cons, List.map_nil]); first | done | rfl | (simp only [List.length_drop, List.length_take]; rfl)) ?_; (with_reducible refine (frame_Header.calls  t126 _ A2.out).mono ?_); rintro e w' ⟨rfl, ⟨nd, rfl⟩⟩; refine ⟨_, rfl, ?_⟩) | ((with_reducible refine gate_callee (f := 24) rfl ?_); refine goesL_ (some 9) rfl rfl Tryd.func24 (by kernel_rfl) rfl #[.string a0, .string t126] rfl (by (try simp only [List.map_toArray, List.map_cons, List.map_nil]); first | done | rfl | (simp only [List.length_drop, List.length_take]; rfl)) ?_; (with_reducible refine (strings_HasPrefix.calls a0 t126 true _ A3.out).mono ?_); rintro e w' ⟨rfl, ⟨nd, rfl⟩⟩; refine ⟨_, rfl, ?_⟩))
        go_ret2
        exact ⟨by first | rfl | (simp; done) | (simp [*]; done), by repeat (first | exact Drawn0.refl _ | apply Drawn0.step)⟩
      · rw [if_neg c6] at H
        exact absurd H (by simp)
    · rw [if_neg c5] at H
      exact absurd H (by simp)
  · replace c4 := Bool.eq_false_iff.mpr c4
    subst c4
    have H1 : ((strings_HasPrefix.f t126 a0).bind fun t128 => (if t128 = true then (some ((⟨#[]⟩ : ByteArray), 2)) else (some ((⟨#[]⟩ : ByteArray), 3)))) = some (r1, r2) := by rw [if_neg (show ¬ (false = true) by decide)] at H; exact H
    clear H
    have H := H1
    clear H1
    replace H := Option.bind_eq_some_iff.mp H
    obtain ⟨t128, A70, H⟩ := H
    replace H : (if t128 = true then (some ((⟨#[]⟩ : ByteArray), 2)) else (some ((⟨#[]⟩ : ByteArray), 3))) = some (r1, r2) := H
    have A7 := Aside0.mk A70
    clear A70
    by_cases c8 : t128 = true
    · subst c8
      have H1 : (some ((⟨#[]⟩ : ByteArray), 2)) = some (r1, r2) := by rw [if_pos rfl] at H; exact H
      clear H
      have H := H1
      clear H1
      simp only [Option.some.injEq, Prod.mk.injEq] at H
      obtain ⟨rfl, rfl⟩ := H
      go_enter Tryd.func12, Tryd.ntmps12
      go_wp2_with (first | ((with_reducible refine gate_callee (f := 11) rfl ?_); refine goesL_ (some 5) rfl rfl Tryd.func11 (by kernel_rfl) rfl #[] rfl (by (try simp only [List.map_toArray, List.map_cons, List.map_nil]); first | done | rfl | (simp only [List.length_drop, List.length_take]; rfl)) ?_; (with_reducible refine (frame_Header.calls  t126 _ A2.out).mono ?_); rintro e w' ⟨rfl, ⟨nd, rfl⟩⟩; refine ⟨_, rfl, ?_⟩) | ((with_reducible refine gate_callee (f := 24) rfl ?_); refine goesL_ (some 9) rfl rfl Tryd.func24 (by kernel_rfl) rfl #[.string a0, .string t126] rfl (by (try simp only [List.map_toArray, List.map_cons, List.map_nil]); first | done | rfl | (simp only [List.length_drop, List.length_take]; rfl)) ?_; (with_reducible refine (strings_HasPrefix.calls a0 t126 false _ A3.out).mono ?_); rintro e w' ⟨rfl, ⟨nd, rfl⟩⟩; refine ⟨_, rfl, ?_⟩) | ((with_reducible refine gate_callee (f := 24) rfl ?_); refine goesL_ (some 17) rfl rfl Tryd.func24 (by kernel_rfl) rfl #[.string t126, .string a0] rfl (by (try simp only [List.map_toArray, List.map_cons, List.map_nil]); first | done | rfl | (simp only [List.length_drop, List.length_take]; rfl)) ?_; (with_reducible refine (strings_HasPrefix.calls t126 a0 true _ A7.out).mono ?_); rintro e w' ⟨rfl, ⟨nd, rfl⟩⟩; refine ⟨_, rfl, ?_⟩))
      go_ret2
      exact ⟨by first | rfl | (simp; done) | (simp [*]; done), by repeat (first | exact Drawn0.refl _ | apply Drawn0.step)⟩
    · replace c8 := Bool.eq_false_iff.mpr c8
      subst c8
      have H1 : (some ((⟨#[]⟩ : ByteArray), 3)) = some (r1, r2) := by rw [if_neg (show ¬ (false = true) by decide)] at H; exact H
      clear H
      have H := H1
      clear H1
      simp only [Option.some.injEq, Prod.mk.injEq] at H
      obtain ⟨rfl, rfl⟩ := H
      go_enter Tryd.func12, Tryd.ntmps12
      go_wp2_with (first | ((with_reducible refine gate_callee (f := 11) rfl ?_); refine goesL_ (some 5) rfl rfl Tryd.func11 (by kernel_rfl) rfl #[] rfl (by (try simp only [List.map_toArray, List.map_cons, List.map_nil]); first | done | rfl | (simp only [List.length_drop, List.length_take]; rfl)) ?_; (with_reducible refine (frame_Header.calls  t126 _ A2.out).mono ?_); rintro e w' ⟨rfl, ⟨nd, rfl⟩⟩; refine ⟨_, rfl, ?_⟩) | ((with_reducible refine gate_callee (f := 24) rfl ?_); refine goesL_ (some 9) rfl rfl Tryd.func24 (by kernel_rfl) rfl #[.string a0, .string t126] rfl (by (try simp only [List.map_toArray, List.map_cons, List.map_nil]); first | done | rfl | (simp only [List.length_drop, List.length_take]; rfl)) ?_; (with_reducible refine (strings_HasPrefix.calls a0 t126 false _ A3.out).mono ?_); rintro e w' ⟨rfl, ⟨nd, rfl⟩⟩; refine ⟨_, rfl, ?_⟩) | ((with_reducible refine gate_callee (f := 24) rfl ?_); refine goesL_ (some 17) rfl rfl Tryd.func24 (by kernel_rfl) rfl #[.string t126, .string a0] rfl (by (try simp only [List.map_toArray, List.map_cons, List.map_nil]); first | done | rfl | (simp only [List.length_drop, List.length_take]; rfl)) ?_; (with_reducible refine (strings_HasPrefix.calls t126 a0 false _ A7.out).mono ?_); rintro e w' ⟨rfl, ⟨nd, rfl⟩⟩; refine ⟨_, rfl, ?_⟩))
      go_ret2
      exact ⟨by first | rfl | (simp; done) | (simp [*]; done), by repeat (first | exact Drawn0.refl _ | apply Drawn0.step)⟩


end Go.Proofs.YtdalcbhnnfabhaaDoor.F
namespace Go.Proofs.YtdalcbhnnfabhaaDoor.F
open Go.RowKit Go.Proofs.YtdalcbhnnfabhaaDoorW.PrintWords Go.Proofs.YtdalcbhnnfabhaaDoorW.PrintLast Go.Proofs.YtdalcbhnnfabhaaDoorW.PrintMore
attribute [local go_sem] max2_int min2_int max_two min_two max_three min_three max_four min_four
set_option linter.unusedVariables false
set_option linter.unusedSimpArgs false

/-! ### interchangelaw04_shown: function 10 -/
def interchangelaw04_shown.f (k : Nat)  : Option (Bool) := (frame_Bytes.f k 8 0 (⟨#[]⟩ : ByteArray)).bind fun bt122 => (if bt122.2 = 0 then (if bt122.1.toList = ([8, 0, 0, 0, 0, 0, 0, 206] : List UInt8) then ((frame_Header.f).bind fun t124 => (some (t124.toList == ([65, 77, 81, 80, 0, 0, 9, 1] : List UInt8)))) else (some false)) else (some false))
theorem interchangelaw04_shown.mono : ∀ k, LeO (interchangelaw04_shown.f k ) (interchangelaw04_shown.f (k + 1) ) := by
  intro  k
  unfold interchangelaw04_shown.f
  repeat' first
      | (with_reducible exact frame_Bytes.mono _ _ _ _)
      | (with_reducible exact LeO.refl _)
      | (with_reducible exact LeO.none _)
      | (with_reducible refine LeO.ite ?_ ?_)
      | (with_reducible refine LeO.bind ?_ (fun _ => ?_))
      | exact frame_Bytes.mono _ _ _ _
      | exact LeO.none _
      | refine LeO.ite ?_ ?_
      | refine LeO.bind ?_ (fun _ => ?_)
set_option maxHeartbeats 8000000 in
set_option maxRecDepth 100000 in
theorem interchangelaw04_shown.calls (k : Nat)  (r : Bool) (w : World) (hg : Laid w) (h : interchangelaw04_shown.f k  = some r) :
    Calls Tryd.prog 10 #[] w fun e w' => e = .returned (.bool r) ∧ Below w.heap.size w w' := by
  have HG := Aside0.mk hg
  clear hg
  have hu29 := Tryd.underlying29
  have HB := Aside0.mk (Below.refl w.heap.size w)
  have H : ((frame_Bytes.f k 8 0 (⟨#[]⟩ : ByteArray)).bind fun bt122 => (if bt122.2 = 0 then (if bt122.1.toList = ([8, 0, 0, 0, 0, 0, 0, 206] : List UInt8) then ((frame_Header.f).bind fun t124 => (some (t124.toList == ([65, 77, 81, 80, 0, 0, 9, 1] : List UInt8)))) else (some false)) else (some false))) = some r := h
  clear h
  replace H := Option.bind_eq_some_iff.mp H
  obtain ⟨⟨t122, t123⟩, A10, H⟩ := H
  replace H : (if t123 = 0 then (if t122.toList = ([8, 0, 0, 0, 0, 0, 0, 206] : List UInt8) then ((frame_Header.f).bind fun t124 => (some (t124.toList == ([65, 77, 81, 80, 0, 0, 9, 1] : List UInt8)))) else (some false)) else (some false)) = some r := H
  have A1 := Aside0.mk A10
  clear A10
  by_cases c2 : t123 = 0
  · rw [if_pos c2] at H
    have c2b0 : (t123 == 0) = true := beq_iff_eq.mpr c2
    have c2b1 : (t123 != 0) = false := bne_eq_false_iff_eq.mpr c2
    clear c2
    by_cases c3 : t122.toList = ([8, 0, 0, 0, 0, 0, 0, 206] : List UInt8)
    · rw [if_pos c3] at H
      have c3b0 : (t122.toList == ([8, 0, 0, 0, 0, 0, 0, 206] : List UInt8)) = true := beq_iff_eq.mpr c3
      have c3b1 : (t122.toList != ([8, 0, 0, 0, 0, 0, 0, 206] : List UInt8)) = false := bne_eq_false_iff_eq.mpr c3
      clear c3
      replace H := Option.bind_eq_some_iff.mp H
      obtain ⟨t124, A40, H⟩ := H
      replace H : (some (t124.toList == ([65, 77, 81, 80, 0, 0, 9, 1] : List UInt8))) = some r := H
      have A4 := Aside0.mk A40
      clear A40
      obtain rfl := Option.some.inj H
      go_enter Tryd.func10, Tryd.ntmps10
      go_wp2_with (first | ((with_reducible refine gate_callee (f := 13) rfl ?_); refine goesL_ (some 5) rfl rfl Tryd.func13 (by kernel_rfl) rfl #[.agg #[.int .i64 8, .int .i64 0, .string (⟨#[]⟩ : ByteArray)]] rfl (by (try simp only [List.map_toArray, List.map_cons, List.map_nil]); first | done | rfl | (simp only [List.length_drop, List.length_take]; rfl)) ?_; (with_reducible refine (frame_Bytes.calls k 8 0 (⟨#[]⟩ : ByteArray) t122 t123 _ ?lg A1.out).mono ?_); (case lg => exact (HG.out.below (by repeat (first | (with_reducible first | exact HB.out | apply below_alloc | apply pw_below_drewN | apply below_drew1) | exact HB.out)))); rintro e w5 ⟨rfl, hb⟩; refine ⟨_, rfl, ?_⟩; have n0_ := Aside0.mk (below_step (by repeat (first | (with_reducible first | exact HB.out | apply below_alloc | apply pw_below_drewN | apply below_drew1) | exact HB.out)) hb); clear HB; have HB := n0_; clear n0_; (try clear hb); (try clear hb2); (try clear hk); (try clear hi)) | (go_at_call 11; (with_reducible refine (frame_Header.calls  t124 _ A4.out).mono ?_); rintro e w' ⟨rfl, ⟨nd, rfl⟩⟩))
      go_ret
      exact ⟨by first | rfl | (simp [errW_none, errW_some] <;> rfl) | (simp [*, errW_none, errW_some] <;> rfl), by repeat (first | (with_reducible first | exact HB.out | apply below_alloc | apply pw_below_drewN | apply below_drew1) | exact HB.out)⟩
    · rw [if_neg c3] at H
      have c3b0 : (t122.toList == ([8, 0, 0, 0, 0, 0, 0, 206] : List UInt8)) = false := beq_eq_false_iff_ne.mpr c3
      have c3b1 : (t122.toList != ([8, 0, 0, 0, 0, 0, 0, 206] : List UInt8)) = true := bne_iff_ne.mpr c3
      obtain rfl := Option.some.inj H
      go_enter Tryd.func10, Tryd.ntmps10
      go_wp2_with (first | ((with_reducible refine gate_callee (f := 13) rfl ?_); refine goesL_ (some 5) rfl rfl Tryd.func13 (by kernel_rfl) rfl #[.agg #[.int .i64 8, .int .i64 0, .string (⟨#[]⟩ : ByteArray)]] rfl (by (try simp only [List.map_toArray, List.map_cons, List.map_nil]); first | done | rfl | (simp only [List.length_drop, List.length_take]; rfl)) ?_; (with_reducible refine (frame_Bytes.calls k 8 0 (⟨#[]⟩ : ByteArray) t122 t123 _ ?lg A1.out).mono ?_); (case lg => exact (HG.out.below (by repeat (first | (with_reducible first | exact HB.out | apply below_alloc | apply pw_below_drewN | apply below_drew1) | exact HB.out)))); rintro e w6 ⟨rfl, hb⟩; refine ⟨_, rfl, ?_⟩; have n0_ := Aside0.mk (below_step (by repeat (first | (with_reducible first | exact HB.out | apply below_alloc | apply pw_below_drewN | apply below_drew1) | exact HB.out)) hb); clear HB; have HB := n0_; clear n0_; (try clear hb); (try clear hb2); (try clear hk); (try clear hi)))
      go_ret
      exact ⟨by first | rfl | (simp [errW_none, errW_some] <;> rfl) | (simp [*, errW_none, errW_some] <;> rfl), by repeat (first | (with_reducible first | exact HB.out | apply below_alloc | apply pw_below_drewN | apply below_drew1) | exact HB.out)⟩
  · rw [if_neg c2] at H
    have c2b0 : (t123 == 0) = false := beq_eq_false_iff_ne.mpr c2
    have c2b1 : (t123 != 0) = true := bne_iff_ne.mpr c2
    obtain rfl := Option.some.inj H
    go_enter Tryd.func10, Tryd.ntmps10
    go_wp2_with (first | ((with_reducible refine gate_callee (f := 13) rfl ?_); refine goesL_ (some 5) rfl rfl Tryd.func13 (by kernel_rfl) rfl #[.agg #[.int .i64 8, .int .i64 0, .string (⟨#[]⟩ : ByteArray)]] rfl (by (try simp only [List.map_toArray, List.map_cons, List.map_nil]); first | done | rfl | (simp only [List.length_drop, List.length_take]; rfl)) ?_; (with_reducible refine (frame_Bytes.calls k 8 0 (⟨#[]⟩ : ByteArray) t122 t123 _ ?lg A1.out).mono ?_); (case lg => exact (HG.out.below (by repeat (first | (with_reducible first | exact HB.out | apply below_alloc | apply pw_below_drewN | apply below_drew1) | exact HB.out)))); rintro e w7 ⟨rfl, hb⟩; refine ⟨_, rfl, ?_⟩; have n0_ := Aside0.mk (below_step (by repeat (first | (with_reducible first | exact HB.out | apply below_alloc | apply pw_below_drewN | apply below_drew1) | exact HB.out)) hb); clear HB; have HB := n0_; clear n0_; (try clear hb); (try clear hb2); (try clear hk); (try clear hi)))
    go_ret
    exact ⟨by first | rfl | (simp [errW_none, errW_some] <;> rfl) | (simp [*, errW_none, errW_some] <;> rfl), by repeat (first | (with_reducible first | exact HB.out | apply below_alloc | apply pw_below_drewN | apply below_drew1) | exact HB.out)⟩


end Go.Proofs.YtdalcbhnnfabhaaDoor.F
namespace Go.Proofs.YtdalcbhnnfabhaaDoor.F
open Go.RowKit Go.Proofs.YtdalcbhnnfabhaaDoorW.PrintWords Go.Proofs.YtdalcbhnnfabhaaDoorW.PrintLast Go.Proofs.YtdalcbhnnfabhaaDoorW.PrintMore
attribute [local go_sem] max2_int min2_int max_two min_two max_three min_three max_four min_four
set_option linter.unusedVariables false
set_option linter.unusedSimpArgs false

/-! ### interchangeref04_Begins: function 22 -/
def interchangeref04_Begins.l0 : Nat → ByteArray → Int → Option (ByteArray × Int)
  | 0, _, _ => none
  | k + 1, x0, x4 => if x4 < 8 then (if x4 ≥ (x0.size : Int) then (some ((⟨#[]⟩ : ByteArray), 2)) else (if 0 ≤ x4 then (if x4 < (x0.size : Int) then (if (bt x0 x4) = (bt (⟨#[65, 77, 81, 80, 0, 0, 9, 1]⟩ : ByteArray) x4) then (interchangeref04_Begins.l0 k x0 (wrap64 (x4 + 1))) else (some ((⟨#[]⟩ : ByteArray), 3))) else (none)) else (none))) else (if 8 ≤ (x0.size : Int) then (some (x0.extract 8 x0.size, 0)) else (none))
def interchangeref04_Begins.f (k : Nat) (a0 : ByteArray) : Option (ByteArray × Int) := interchangeref04_Begins.l0 k a0 0
theorem interchangeref04_Begins.mono_l : ∀ k, (∀ y0 y1, LeO (interchangeref04_Begins.l0 k y0 y1) (interchangeref04_Begins.l0 (k + 1) y0 y1))
  | 0 => fun _ _ r h => by simp [interchangeref04_Begins.l0] at h
  | k + 1 => by
    have ih0 := interchangeref04_Begins.mono_l k
    · intro y0 y1
      unfold interchangeref04_Begins.l0
      repeat' first
      | (with_reducible exact ih0 _ _)
      | (with_reducible exact LeO.refl _)
      | (with_reducible exact LeO.none _)
      | (with_reducible refine LeO.ite ?_ ?_)
      | (with_reducible refine LeO.bind ?_ (fun _ => ?_))
      | exact ih0 _ _
      | exact LeO.none _
      | refine LeO.ite ?_ ?_
      | refine LeO.bind ?_ (fun _ => ?_)
theorem interchangeref04_Begins.mono : ∀ a0 k, LeO (interchangeref04_Begins.f k a0) (interchangeref04_Begins.f (k + 1) a0) := by
  intro a0 k
  have ih0 := interchangeref04_Begins.mono_l k
  unfold interchangeref04_Begins.f
  repeat' first
      | (with_reducible exact ih0 _ _)
      | (with_reducible exact LeO.refl _)
      | (with_reducible exact LeO.none _)
      | (with_reducible refine LeO.ite ?_ ?_)
      | (with_reducible refine LeO.bind ?_ (fun _ => ?_))
      | exact ih0 _ _
      | exact LeO.none _
      | refine LeO.ite ?_ ?_
      | refine LeO.bind ?_ (fun _ => ?_)
set_option maxHeartbeats 8000000 in
set_option maxRecDepth 100000 in
theorem interchangeref04_Begins.calls (k : Nat) (a0 : ByteArray) (r1 : ByteArray) (r2 : Int) (w : World) (h : interchangeref04_Begins.f k a0 = some (r1, r2)) :
    Calls Tryd.prog 22 #[.string a0] w fun e w' => e = .returned (.tuple #[.string r1, .int .i64 r2]) ∧ Drawn0 w w' := by
  have H : (interchangeref04_Begins.l0 k a0 0) = some (r1, r2) := h
  clear h
  have H' := Aside0.mk H
  clear H
  go_enter Tryd.func22, Tryd.ntmps22
  go_wp2
  repeat (go_quiet (fail); try go_wp2)
  go_loopg [4] k (fun kq v4 w' => ∃ (x4_1 : Int), v4 = .int .i64 x4_1 ∧ Aside0 (interchangeref04_Begins.l0 kq a0 x4_1 = some (r1, r2)) ∧ Aside0 (kq ≤ k) ∧ Drawn0 w w')
  case atStart => exact ⟨(0), (by first | rfl | (simp; done) | (simp [*]; done)), H', ⟨Nat.le_refl _⟩, by repeat (first | exact Drawn0.refl _ | apply Drawn0.step)⟩
  case round =>
    clear H'
    obtain ⟨x4_1, rfl, HA, HK1, ⟨m1, rfl⟩⟩ := hrel
    cases gk with
    | zero => exact absurd HA.out (by simp [interchangeref04_Begins.l0])
    | succ k1 =>
      have H := HA.out
      clear HA
      simp only [interchangeref04_Begins.l0] at H
      by_cases c2 : x4_1 < 8
      · rw [if_pos c2] at H
        have c2b0 : decide (x4_1 < 8) = true := decide_eq_true c2
        clear c2
        by_cases c3 : x4_1 ≥ (a0.size : Int)
        · rw [if_pos c3] at H
          have c3b0 : decide ((a0.size : Int) ≤ x4_1) = true := decide_eq_true c3
          clear c3
          simp only [Option.some.injEq, Prod.mk.injEq] at H
          obtain ⟨rfl, rfl⟩ := H
          go_wp2
          repeat (go_quiet (fail); try go_wp2)
          go_ret2
          exact ⟨by first | rfl | (simp; done) | (simp [*]; done), by repeat (first | exact Drawn0.refl _ | apply Drawn0.step)⟩
        · rw [if_neg c3] at H
          have c3b0 : decide ((a0.size : Int) ≤ x4_1) = false := decide_eq_false c3
          clear c3
          by_cases c4 : 0 ≤ x4_1
          · rw [if_pos c4] at H
            have c4b0 : decide (0 ≤ x4_1) = true := decide_eq_true c4
            clear c4
            by_cases c5 : x4_1 < (a0.size : Int)
            · rw [if_pos c5] at H
              have c5b0 : decide (x4_1 < (a0.size : Int)) = true := decide_eq_true c5
              clear c5
              by_cases c8 : (bt a0 x4_1) = (bt (⟨#[65, 77, 81, 80, 0, 0, 9, 1]⟩ : ByteArray) x4_1)
              · rw [if_pos c8] at H
                have c8b0 : ((bt a0 x4_1) == (bt (⟨#[65, 77, 81, 80, 0, 0, 9, 1]⟩ : ByteArray) x4_1)) = true := beq_iff_eq.mpr c8
                have c8b1 : ((bt a0 x4_1) != (bt (⟨#[65, 77, 81, 80, 0, 0, 9, 1]⟩ : ByteArray) x4_1)) = false := bne_eq_false_iff_eq.mpr c8
                clear c8
                have H' := Aside0.mk H
                clear H
                have p6 : 0 ≤ (x4_1 : Int) := of_decide_eq_true (by first | (with_reducible assumption) | assumption)
                have q6 : x4_1 < (a0.size : Int) := of_decide_eq_true (by first | (with_reducible assumption) | assumption)
                have hx6 := bt_at a0 x4_1
                replace p6 := eq_true p6
                replace q6 := eq_true q6
                have p7 : 0 ≤ (x4_1 : Int) := of_decide_eq_true (by first | (with_reducible assumption) | assumption)
                have q7 : x4_1 < (8 : Int) := of_decide_eq_true (by first | (with_reducible assumption) | assumption)
                have hx7 := bt_at (⟨#[65, 77, 81, 80, 0, 0, 9, 1]⟩ : ByteArray) x4_1
                replace p7 := eq_true p7
                replace q7 := eq_true q7
                go_wp2
                repeat (go_quiet (fail); try go_wp2)
                go_roundg k1
                case measure => have := HK1.out; omega
                case rel => exact ⟨(wrap64 (x4_1 + 1)), (by first | rfl | (simp; done) | (simp [*]; done)), H', ⟨by have := HK1.out; omega⟩, by repeat (first | exact Drawn0.refl _ | apply Drawn0.step)⟩
              · rw [if_neg c8] at H
                have c8b0 : ((bt a0 x4_1) == (bt (⟨#[65, 77, 81, 80, 0, 0, 9, 1]⟩ : ByteArray) x4_1)) = false := beq_eq_false_iff_ne.mpr c8
                have c8b1 : ((bt a0 x4_1) != (bt (⟨#[65, 77, 81, 80, 0, 0, 9, 1]⟩ : ByteArray) x4_1)) = true := bne_iff_ne.mpr c8
                simp only [Option.some.injEq, Prod.mk.injEq] at H
                obtain ⟨rfl, rfl⟩ := H
                have p6 : 0 ≤ (x4_1 : Int) := of_decide_eq_true (by first | (with_reducible assumption) | assumption)
                have q6 : x4_1 < (a0.size : Int) := of_decide_eq_true (by first | (with_reducible assumption) | assumption)
                have hx6 := bt_at a0 x4_1
                replace p6 := eq_true p6
                replace q6 := eq_true q6
                have p7 : 0 ≤ (x4_1 : Int) := of_decide_eq_true (by first | (with_reducible assumption) | assumption)
                have q7 : x4_1 < (8 : Int) := of_decide_eq_true (by first | (with_reducible assumption) | assumption)
                have hx7 := bt_at (⟨#[65, 77, 81, 80, 0, 0, 9, 1]⟩ : ByteArray) x4_1
                replace p7 := eq_true p7
                replace q7 := eq_true q7
                go_wp2
                repeat (go_quiet (fail); try go_wp2)
                go_ret2
                exact ⟨by first | rfl | (simp; done) | (simp [*]; done), by repeat (first | exact Drawn0.refl _ | apply Drawn0.step)⟩
            · rw [if_neg c5] at H
              exact absurd H (by simp)
          · rw [if_neg c4] at H
            exact absurd H (by simp)
      · rw [if_neg c2] at H
        have c2b0 : decide (x4_1 < 8) = false := decide_eq_false c2
        clear c2
        by_cases c9 : 8 ≤ (a0.size : Int)
        · rw [if_pos c9] at H
          have c9b0 := eq_true c9
          have c9b1 : decide (8 ≤ (a0.size : Int)) = true := decide_eq_true c9
          clear c9
          simp only [Option.some.injEq, Prod.mk.injEq] at H
          obtain ⟨rfl, rfl⟩ := H
          go_wp2
          repeat (go_quiet (fail); try go_wp2)
          go_ret2
          exact ⟨by first | rfl | (simp; done) | (simp [*]; done), by repeat (first | exact Drawn0.refl _ | apply Drawn0.step)⟩
        · rw [if_neg c9] at H
          exact absurd H (by simp)


end Go.Proofs.YtdalcbhnnfabhaaDoor.F
namespace Go.Proofs.YtdalcbhnnfabhaaDoor.F
open Go.RowKit Go.Proofs.YtdalcbhnnfabhaaDoorW.PrintWords Go.Proofs.YtdalcbhnnfabhaaDoorW.PrintLast Go.Proofs.YtdalcbhnnfabhaaDoorW.PrintMore
attribute [local go_sem] max2_int min2_int max_two min_two max_three min_three max_four min_four
set_option linter.unusedVariables false
set_option linter.unusedSimpArgs false

/-! ### interchangeref01_Put: function 30 -/
mutual
def interchangeref01_Put.j0 : Nat → Int → Int → Bool → Option (ByteArray × Int)
  | 0, _, _, _ => none
  | k + 1, x0, x1, x21 => if x21 = true then (some ((⟨#[]⟩ : ByteArray), 1)) else (interchangeref01_Put.l0 k x0 x1 (⟨#[]⟩ : ByteArray) 0)
def interchangeref01_Put.l0 : Nat → Int → Int → ByteArray → Int → Option (ByteArray × Int)
  | 0, _, _, _, _ => none
  | k + 1, x0, x1, x6, x7 => if x7 < x0 then ((some (([(Int.tmod x1 256) % 256] : List Int) : List Int)).bind fun y216 => (if (strOfNums y216).size + x6.size ≤ 9223372036854775807 then (interchangeref01_Put.l0 k x0 (IntKind.u64.wrap (Int.tdiv x1 256)) ((strOfNums y216) ++ x6) (wrap64 (x7 + 1))) else (none))) else (if x1 > 0 then (some ((⟨#[]⟩ : ByteArray), 4)) else (some (x6, 0)))
end
def interchangeref01_Put.f (k : Nat) (a0 : Int) (a1 : Int) : Option (ByteArray × Int) := if a0 = 1 then (interchangeref01_Put.j0 k a0 a1 false) else (if a0 = 2 then (interchangeref01_Put.j0 k a0 a1 false) else (if a0 = 4 then (interchangeref01_Put.j0 k a0 a1 false) else (interchangeref01_Put.j0 k a0 a1 (a0 != 8))))
theorem interchangeref01_Put.mono_l : ∀ k, (∀ y0 y1 y2, LeO (interchangeref01_Put.j0 k y0 y1 y2) (interchangeref01_Put.j0 (k + 1) y0 y1 y2)) ∧ (∀ y0 y1 y2 y3, LeO (interchangeref01_Put.l0 k y0 y1 y2 y3) (interchangeref01_Put.l0 (k + 1) y0 y1 y2 y3))
  | 0 => ⟨fun _ _ _ r h => by simp [interchangeref01_Put.j0] at h, fun _ _ _ _ r h => by simp [interchangeref01_Put.l0] at h⟩
  | k + 1 => by
    obtain ⟨ih0, ih1⟩ := interchangeref01_Put.mono_l k
    refine ⟨?_, ?_⟩
    · intro y0 y1 y2
      unfold interchangeref01_Put.j0
      repeat' first
      | (with_reducible exact ih0 _ _ _)
      | (with_reducible exact ih1 _ _ _ _)
      | (with_reducible exact LeO.refl _)
      | (with_reducible exact LeO.none _)
      | (with_reducible refine LeO.ite ?_ ?_)
      | (with_reducible refine LeO.bind ?_ (fun _ => ?_))
      | exact ih0 _ _ _
      | exact ih1 _ _ _ _
      | exact LeO.none _
      | refine LeO.ite ?_ ?_
      | refine LeO.bind ?_ (fun _ => ?_)
    · intro y0 y1 y2 y3
      unfold interchangeref01_Put.l0
      repeat' first
      | (with_reducible exact ih0 _ _ _)
      | (with_reducible exact ih1 _ _ _ _)
      | (with_reducible exact LeO.refl _)
      | (with_reducible exact LeO.none _)
      | (with_reducible refine LeO.ite ?_ ?_)
      | (with_reducible refine LeO.bind ?_ (fun _ => ?_))
      | exact ih0 _ _ _
      | exact ih1 _ _ _ _
      | exact LeO.none _
      | refine LeO.ite ?_ ?_
      | refine LeO.bind ?_ (fun _ => ?_)
theorem interchangeref01_Put.mono : ∀ a0 a1 k, LeO (interchangeref01_Put.f k a0 a1) (interchangeref01_Put.f (k + 1) a0 a1) := by
  intro a0 a1 k
  obtain ⟨ih0, ih1⟩ := interchangeref01_Put.mono_l k
  unfold interchangeref01_Put.f
  repeat' first
      | (with_reducible exact ih0 _ _ _)
      | (with_reducible exact ih1 _ _ _ _)
      | (with_reducible exact LeO.refl _)
      | (with_reducible exact LeO.none _)
      | (with_reducible refine LeO.ite ?_ ?_)
      | (with_reducible refine LeO.bind ?_ (fun _ => ?_))
      | exact ih0 _ _ _
      | exact ih1 _ _ _ _
      | exact LeO.none _
      | refine LeO.ite ?_ ?_
      | refine LeO.bind ?_ (fun _ => ?_)
set_option maxHeartbeats 8000000 in
set_option maxRecDepth 100000 in
theorem interchangeref01_Put.calls (k : Nat) (a0 : Int) (a1 : Int) (r1 : ByteArray) (r2 : Int) (w : World) (h : interchangeref01_Put.f k a0 a1 = some (r1, r2)) :
    Calls Tryd.prog 30 #[.int .i64 a0, .int .u64 a1] w fun e w' => e = .returned (.tuple #[.string r1, .int .i64 r2]) ∧ Below w.heap.size w w' := by
  have HB := Aside0.mk (Below.refl w.heap.size w)
  have H : (if a0 = 1 then (interchangeref01_Put.j0 k a0 a1 false) else (if a0 = 2 then (interchangeref01_Put.j0 k a0 a1 false) else (if a0 = 4 then (interchangeref01_Put.j0 k a0 a1 false) else (interchangeref01_Put.j0 k a0 a1 (a0 != 8))))) = some (r1, r2) := h
  clear h
  have HC3 := Aside0.mk H
  clear H
  go_enter Tryd.func30, Tryd.ntmps30
  go_upto_region 1 with (fail)
  go_cut [21] (fun v21 wc => ∃ (kq : Nat) (x21_2 : Bool), v21 = .bool x21_2 ∧ Aside0 (interchangeref01_Put.j0 kq a0 a1 x21_2 = some (r1, r2)) ∧ Aside0 (kq ≤ k) ∧ Aside0 (Below w.heap.size w wc))
  case first =>
    have H := HC3.out
    clear HC3
    by_cases c4 : a0 = 1
    · rw [if_pos c4] at H
      have c4b0 : (a0 == 1) = true := beq_iff_eq.mpr c4
      have c4b1 : (a0 != 1) = false := bne_eq_false_iff_eq.mpr c4
      clear c4
      (first | rw [c4b0] | (simp only [i64_w, i32_w]; rw [c4b0]) | skip)
      have H' := Aside0.mk H
      clear H
      go_wp2
      go_meet
      case rel => exact ⟨_, (false), (by first | rfl | (simp; done) | (simp [*]; done)), H', ⟨by first | omega | exact Nat.le_refl _⟩, ⟨by repeat (first | (with_reducible first | exact HB.out | apply below_alloc | apply pw_below_drewN | apply below_drew1) | exact HB.out)⟩⟩
    · rw [if_neg c4] at H
      have c4b0 : (a0 == 1) = false := beq_eq_false_iff_ne.mpr c4
      have c4b1 : (a0 != 1) = true := bne_iff_ne.mpr c4
      (first | rw [c4b0] | (simp only [i64_w, i32_w]; rw [c4b0]) | skip)
      by_cases c5 : a0 = 2
      · rw [if_pos c5] at H
        have c5b0 : (a0 == 2) = true := beq_iff_eq.mpr c5
        have c5b1 : (a0 != 2) = false := bne_eq_false_iff_eq.mpr c5
        clear c5
        have H' := Aside0.mk H
        clear H
        go_wp2
        go_meet
        case rel => exact ⟨_, (false), (by first | rfl | (simp; done) | (simp [*]; done)), H', ⟨by first | omega | exact Nat.le_refl _⟩, ⟨by repeat (first | (with_reducible first | exact HB.out | apply below_alloc | apply pw_below_drewN | apply below_drew1) | exact HB.out)⟩⟩
      · rw [if_neg c5] at H
        have c5b0 : (a0 == 2) = false := beq_eq_false_iff_ne.mpr c5
        have c5b1 : (a0 != 2) = true := bne_iff_ne.mpr c5
        by_cases c6 : a0 = 4
        · rw [if_pos c6] at H
          have c6b0 : (a0 == 4) = true := beq_iff_eq.mpr c6
          have c6b1 : (a0 != 4) = false := bne_eq_false_iff_eq.mpr c6
          clear c6
          have H' := Aside0.mk H
          clear H
          go_wp2
          go_meet
          case rel => exact ⟨_, (false), (by first | rfl | (simp; done) | (simp [*]; done)), H', ⟨by first | omega | exact Nat.le_refl _⟩, ⟨by repeat (first | (with_reducible first | exact HB.out | apply below_alloc | apply pw_below_drewN | apply below_drew1) | exact HB.out)⟩⟩
        · rw [if_neg c6] at H
          have c6b0 : (a0 == 4) = false := beq_eq_false_iff_ne.mpr c6
          have c6b1 : (a0 != 4) = true := bne_iff_ne.mpr c6
          have H' := Aside0.mk H
          clear H
          go_wp2
          go_meet
          case rel => exact ⟨_, ((a0 != 8)), (by first | rfl | (simp; done) | (simp [*]; done)), H', ⟨by first | omega | exact Nat.le_refl _⟩, ⟨by repeat (first | (with_reducible first | exact HB.out | apply below_alloc | apply pw_below_drewN | apply below_drew1) | exact HB.out)⟩⟩
  case rest =>
    clear HC3
    try clear p2
    try clear c3
    try clear c4
    try clear c4b0
    try clear c4b1
    try clear c5
    try clear c5b0
    try clear c5b1
    try clear c6
    try clear c6b0
    try clear c6b1
    obtain ⟨kq, x21_2, rfl, HA, HJ2, HB⟩ := hcut
    cases kq with
    | zero => exact absurd HA.out (by simp [interchangeref01_Put.j0])
    | succ kj2 =>
      have H := HA.out
      clear HA
      simp only [interchangeref01_Put.j0] at H
      by_cases c7 : x21_2 = true
      · subst c7
        have H1 : (some ((⟨#[]⟩ : ByteArray), 1)) = some (r1, r2) := by rw [if_pos rfl] at H; exact H
        clear H
        have H := H1
        clear H1
        simp only [Option.some.injEq, Prod.mk.injEq] at H
        obtain ⟨rfl, rfl⟩ := H
        go_wp2
        go_ret2
        exact ⟨by first | rfl | (simp [errW_none, errW_some] <;> rfl) | (simp [*, errW_none, errW_some] <;> rfl), by repeat (first | (with_reducible first | exact HB.out | apply below_alloc | apply pw_below_drewN | apply below_drew1) | exact HB.out)⟩
      · replace c7 := Bool.eq_false_iff.mpr c7
        subst c7
        have H1 : (interchangeref01_Put.l0 kj2 a0 a1 (⟨#[]⟩ : ByteArray) 0) = some (r1, r2) := by rw [if_neg (show ¬ (false = true) by decide)] at H; exact H
        clear H
        have H := H1
        clear H1
        have H' := Aside0.mk H
        clear H
        go_wp2
        go_loopg [1, 6, 7] kj2 (fun kq v1 v6 v7 w' => ∃ (x1_2 : Int) (x6_2 : ByteArray) (x7_2 : Int), v1 = .int .u64 x1_2 ∧ v6 = .string x6_2 ∧ v7 = .int .i64 x7_2 ∧ Aside0 (interchangeref01_Put.l0 kq a0 x1_2 x6_2 x7_2 = some (r1, r2)) ∧ Aside0 (kq ≤ kj2) ∧ Aside0 (Below w.heap.size w w'))
        case atStart => exact ⟨(a1), ((⟨#[]⟩ : ByteArray)), (0), (by first | rfl | (simp; done) | (simp [*]; done)), (by first | rfl | (simp; done) | (simp [*]; done)), (by first | rfl | (simp; done) | (simp [*]; done)), H', ⟨Nat.le_refl _⟩, ⟨by repeat (first | (with_reducible first | exact HB.out | apply below_alloc | apply pw_below_drewN | apply below_drew1) | exact HB.out)⟩⟩
        case round =>
          clear H'
          try clear p2
          try clear c3
          try clear c4
          try clear c4b0
          try clear c4b1
          try clear c5
          try clear c5b0
          try clear c5b1
          try clear c6
          try clear c6b0
          try clear c6b1
          try clear c7
          try clear p2
          obtain ⟨x1_2, x6_2, x7_2, rfl, rfl, rfl, HA, HK2, HB⟩ := hrel
          cases gk with
          | zero => exact absurd HA.out (by simp [interchangeref01_Put.l0])
          | succ k2 =>
            have H := HA.out
            clear HA
            simp only [interchangeref01_Put.l0] at H
            by_cases c8 : x7_2 < a0
            · rw [if_pos c8] at H
              have c8b0 : decide (x7_2 < a0) = true := decide_eq_true c8
              clear c8
              obtain ⟨y216, hy216⟩ : ∃ y_ : List Int, y_ = (([(Int.tmod x1_2 256) % 256] : List Int)) := ⟨_, rfl⟩
              replace H : (if (strOfNums y216).size + x6_2.size ≤ 9223372036854775807 then (interchangeref01_Put.l0 k2 a0 (IntKind.u64.wrap (Int.tdiv x1_2 256)) ((strOfNums y216) ++ x6_2) (wrap64 (x7_2 + 1))) else (none)) = some (r1, r2) := by first | (rw [hy216]; with_reducible exact H) | (have H2_ := (Option.bind_some _ _).symm.trans H; rw [hy216]; with_reducible exact H2_) | (have H2_ := (Option.bind_some _ _).symm.trans H; with_reducible exact H2_) | with_reducible exact H | (rw [hy216]; exact H) | exact H
              have Ny216 := Aside0.mk hy216
              clear hy216
              by_cases c9 : (strOfNums y216).size + x6_2.size ≤ 9223372036854775807
              · rw [if_pos c9] at H
                have c9b0 := eq_true c9
                have c9b1 : decide ((strOfNums y216).size + x6_2.size ≤ 9223372036854775807) = true := decide_eq_true c9
                try have c9b2 : (9223372036854775807 < (strOfNums y216).size + x6_2.size) = False := eq_false (Nat.not_lt.2 c9)
                have H' := Aside0.mk H
                clear H
                go_wp2_with (first | ((with_reducible refine gate_dst (N := 30) rfl ?_); refine Kd.R_lit (Kd.int .u8) _ 5 ?hg (N := 30) ?hd (xs := ([(Int.tmod x1_2 256) % 256] : List Int)) (inner := [.int .u8 ((Int.tmod x1_2 256) % 256)]) (ok := fun _ => True) (okp := fun _ => True) ?hr ?hp (fun _ hk => hk) trivial (Below.refl _ _) (Nat.le_refl _) (by simp) ?_; (case hd => rfl); (case hg => rfl); (case hr => first | (go_simp; done) | (go_simp; rfl)); (case hp => exact (Reps.one (show Kd.M (Kd.int .u8) _ _ _ ((Int.tmod x1_2 256) % 256) [.int .u8 ((Int.tmod x1_2 256) % 256)] from rfl) (Reps.none _ _))); intro v217 w10 ho11 hb hg_ hnew_; clear hg_ hnew_; (first | rw [← Ny216.out] at ho11 | (simp only [Int.reduceToNat] at ho11; rw [← Ny216.out] at ho11)); have n0_ := Aside0.mk (Kd.R_lower ho11 (below_size (by repeat (first | (with_reducible first | exact HB.out | apply below_alloc | apply pw_below_drewN | apply below_drew1) | exact HB.out)))); have n1_ := Aside0.mk (below_step (by repeat (first | (with_reducible first | exact HB.out | apply below_alloc | apply pw_below_drewN | apply below_drew1) | exact HB.out)) hb); clear HB; have HO218 := n0_; have HB := n1_; clear n0_ n1_; clear hb ho11; have hcv12 := own_string (P := Tryd.prog) Tryd.underlying53 Tryd.underlying5 Tryd.underlying9 (Kd.own_of_R HO218.out)))
                go_roundg k2
                case measure => have := HJ2.out; have := HK2.out; omega
                case rel => exact ⟨(IntKind.u64.wrap (Int.tdiv x1_2 256)), ((strOfNums y216) ++ x6_2), (wrap64 (x7_2 + 1)), (by first | rfl | (simp; done) | (simp [*]; done)), (by first | rfl | (simp; done) | (simp [*]; done)), (by first | rfl | (simp; done) | (simp [*]; done)), H', ⟨by have := HJ2.out; have := HK2.out; omega⟩, ⟨by repeat (first | (with_reducible first | exact HB.out | apply below_alloc | apply pw_below_drewN | apply below_drew1) | exact HB.out)⟩⟩
              · rw [if_neg c9] at H
                exact absurd H (by simp)
            · rw [if_neg c8] at H
              have c8b0 : decide (x7_2 < a0) = false := decide_eq_false c8
              clear c8
              by_cases c13 : x1_2 > 0
              · rw [if_pos c13] at H
                have c13b0 : decide (0 < x1_2) = true := decide_eq_true c13
                clear c13
                simp only [Option.some.injEq, Prod.mk.injEq] at H
                obtain ⟨rfl, rfl⟩ := H
                go_wp2
                go_ret2
                exact ⟨by first | rfl | (simp [errW_none, errW_some] <;> rfl) | (simp [*, errW_none, errW_some] <;> rfl), by repeat (first | (with_reducible first | exact HB.out | apply below_alloc | apply pw_below_drewN | apply below_drew1) | exact HB.out)⟩
              · rw [if_neg c13] at H
                have c13b0 : decide (0 < x1_2) = false := decide_eq_false c13
                clear c13
                simp only [Option.some.injEq, Prod.mk.injEq] at H
                obtain ⟨rfl, rfl⟩ := H
                go_wp2
                go_ret2
                exact ⟨by first | rfl | (simp [errW_none, errW_some] <;> rfl) | (simp [*, errW_none, errW_some] <;> rfl), by repeat (first | (with_reducible first | exact HB.out | apply below_alloc | apply pw_below_drewN | apply below_drew1) | exact HB.out)⟩


end Go.Proofs.YtdalcbhnnfabhaaDoor.F
namespace Go.Proofs.YtdalcbhnnfabhaaDoor.F
open Go.RowKit Go.Proofs.YtdalcbhnnfabhaaDoorW.PrintWords Go.Proofs.YtdalcbhnnfabhaaDoorW.PrintLast Go.Proofs.YtdalcbhnnfabhaaDoorW.PrintMore
attribute [local go_sem] max2_int min2_int max_two min_two max_three min_three max_four min_four
set_option linter.unusedVariables false
set_option linter.unusedSimpArgs false

/-! ### interchangeref04_Right: function 23 -/
def interchangeref04_Right.j0 : Nat → Bool → Int → Int → ByteArray → Option (Bool)
  | 0, _, _, _, _ => none
  | k + 1, x36, x216000, x216001, x216002 => if x36 = true then (some false) else (if x216000 = 8 then (if (x216002.size : Int) = 0 then (some (x216001 == 0)) else (some false)) else (if x216000 = 3 then (some (decide ((x216002.size : Int) > 0))) else (some true)))
def interchangeref04_Right.f (k : Nat) (a0_0 : Int) (a0_1 : Int) (a0_2 : ByteArray) : Option (Bool) := if a0_0 = 1 then (if a0_1 < 0 then (interchangeref04_Right.j0 k true a0_0 a0_1 a0_2) else (if a0_1 > 65535 then (interchangeref04_Right.j0 k true a0_0 a0_1 a0_2) else (interchangeref04_Right.j0 k (decide ((a0_2.size : Int) > 131072)) a0_0 a0_1 a0_2))) else (if a0_0 = 2 then (if a0_1 < 0 then (interchangeref04_Right.j0 k true a0_0 a0_1 a0_2) else (if a0_1 > 65535 then (interchangeref04_Right.j0 k true a0_0 a0_1 a0_2) else (interchangeref04_Right.j0 k (decide ((a0_2.size : Int) > 131072)) a0_0 a0_1 a0_2))) else (if a0_0 = 3 then (if a0_1 < 0 then (interchangeref04_Right.j0 k true a0_0 a0_1 a0_2) else (if a0_1 > 65535 then (interchangeref04_Right.j0 k true a0_0 a0_1 a0_2) else (interchangeref04_Right.j0 k (decide ((a0_2.size : Int) > 131072)) a0_0 a0_1 a0_2))) else (if a0_0 = 8 then (if a0_1 < 0 then (interchangeref04_Right.j0 k true a0_0 a0_1 a0_2) else (if a0_1 > 65535 then (interchangeref04_Right.j0 k true a0_0 a0_1 a0_2) else (interchangeref04_Right.j0 k (decide ((a0_2.size : Int) > 131072)) a0_0 a0_1 a0_2))) else (interchangeref04_Right.j0 k true a0_0 a0_1 a0_2))))
theorem interchangeref04_Right.mono_l : ∀ k, (∀ y0 y1 y2 y3, LeO (interchangeref04_Right.j0 k y0 y1 y2 y3) (interchangeref04_Right.j0 (k + 1) y0 y1 y2 y3))
  | 0 => fun _ _ _ _ r h => by simp [interchangeref04_Right.j0] at h
  | k + 1 => by
    have ih0 := interchangeref04_Right.mono_l k
    · intro y0 y1 y2 y3
      unfold interchangeref04_Right.j0
      repeat' first
      | (with_reducible exact ih0 _ _ _ _)
      | (with_reducible exact LeO.refl _)
      | (with_reducible exact LeO.none _)
      | (with_reducible refine LeO.ite ?_ ?_)
      | (with_reducible refine LeO.bind ?_ (fun _ => ?_))
      | exact ih0 _ _ _ _
      | exact LeO.none _
      | refine LeO.ite ?_ ?_
      | refine LeO.bind ?_ (fun _ => ?_)
theorem interchangeref04_Right.mono : ∀ a0 a1 a2 k, LeO (interchangeref04_Right.f k a0 a1 a2) (interchangeref04_Right.f (k + 1) a0 a1 a2) := by
  intro a0 a1 a2 k
  have ih0 := interchangeref04_Right.mono_l k
  unfold interchangeref04_Right.f
  repeat' first
      | (with_reducible exact ih0 _ _ _ _)
      | (with_reducible exact LeO.refl _)
      | (with_reducible exact LeO.none _)
      | (with_reducible refine LeO.ite ?_ ?_)
      | (with_reducible refine LeO.bind ?_ (fun _ => ?_))
      | exact ih0 _ _ _ _
      | exact LeO.none _
      | refine LeO.ite ?_ ?_
      | refine LeO.bind ?_ (fun _ => ?_)
set_option maxHeartbeats 8000000 in
set_option maxRecDepth 100000 in
theorem interchangeref04_Right.calls (k : Nat) (a0_0 : Int) (a0_1 : Int) (a0_2 : ByteArray) (r : Bool) (w : World) (h : interchangeref04_Right.f k a0_0 a0_1 a0_2 = some r) :
    Calls Tryd.prog 23 #[.agg #[.int .i64 a0_0, .int .i64 a0_1, .string a0_2]] w fun e w' => e = .returned (.bool r) ∧ Below w.heap.size w w' := by
  have hu29 := Tryd.underlying29
  have HB := Aside0.mk (Below.refl w.heap.size w)
  have H : (if a0_0 = 1 then (if a0_1 < 0 then (interchangeref04_Right.j0 k true a0_0 a0_1 a0_2) else (if a0_1 > 65535 then (interchangeref04_Right.j0 k true a0_0 a0_1 a0_2) else (interchangeref04_Right.j0 k (decide ((a0_2.size : Int) > 131072)) a0_0 a0_1 a0_2))) else (if a0_0 = 2 then (if a0_1 < 0 then (interchangeref04_Right.j0 k true a0_0 a0_1 a0_2) else (if a0_1 > 65535 then (interchangeref04_Right.j0 k true a0_0 a0_1 a0_2) else (interchangeref04_Right.j0 k (decide ((a0_2.size : Int) > 131072)) a0_0 a0_1 a0_2))) else (if a0_0 = 3 then (if a0_1 < 0 then (interchangeref04_Right.j0 k true a0_0 a0_1 a0_2) else (if a0_1 > 65535 then (interchangeref04_Right.j0 k true a0_0 a0_1 a0_2) else (interchangeref04_Right.j0 k (decide ((a0_2.size : Int) > 131072)) a0_0 a0_1 a0_2))) else (if a0_0 = 8 then (if a0_1 < 0 then (interchangeref04_Right.j0 k true a0_0 a0_1 a0_2) else (if a0_1 > 65535 then (interchangeref04_Right.j0 k true a0_0 a0_1 a0_2) else (interchangeref04_Right.j0 k (decide ((a0_2.size : Int) > 131072)) a0_0 a0_1 a0_2))) else (interchangeref04_Right.j0 k true a0_0 a0_1 a0_2))))) = some r := h
  clear h
  have HC2 := Aside0.mk H
  clear H
  go_enter Tryd.func23, Tryd.ntmps23
  go_upto_region 1 with (first | ((with_reducible refine gate_dst (N := 1) rfl ?_); refine box_event ?hg (N := 1) ?hd (cs := #[.int .i64 a0_0, .int .i64 a0_1, .string a0_2]) (t := 29) ?hr ?_; (case hd => rfl); (case hg => rfl); (case hr => first | (go_simp; done) | (go_simp; rfl)); intro gb215 hg w3 hbox hb; have n0_ := Aside0.mk (below_step (by repeat (first | (with_reducible first | exact HB.out | apply below_alloc | apply pw_below_drewN | apply below_drew1) | exact HB.out)) hb); have n1_ := Aside0.mk (hbox); have n2_ := Aside0.mk ((by rw [hg]; exact (below_size (by repeat (first | (with_reducible first | exact HB.out | apply below_alloc | apply pw_below_drewN | apply below_drew1) | exact HB.out))) : w.heap.size ≤ gb215)); have n3_ := Aside0.mk ((by rw [hg]; exact (below_size (by repeat (first | (with_reducible first | exact HB.out | apply below_alloc | apply pw_below_drewN | apply below_drew1) | exact HB.out))) : w.heap.size ≤ gb215)); clear HB; have HB := n0_; have BK215 := n1_; have GW215 := n2_; have GE215 := n3_; clear n0_ n1_ n2_ n3_; clear hb hbox hg))
  (try simp only [Act.put, List.setIfInBounds_toArray, List.set_cons_zero, List.set_cons_succ])
  go_cut [36] (fun v36 wc => ∃ (kq : Nat) (x36_1 : Bool), v36 = .bool x36_1 ∧ Aside0 (interchangeref04_Right.j0 kq x36_1 a0_0 a0_1 a0_2 = some r) ∧ Aside0 (kq ≤ k) ∧ Aside0 (wc.heap[gb215]? = some (.cells #[.int .i64 a0_0, .int .i64 a0_1, .string a0_2] 29 (0, 0))) ∧ Aside0 (Below w.heap.size w wc))
  case first =>
    have H := HC2.out
    clear HC2
    by_cases c4 : a0_0 = 1
    · rw [if_pos c4] at H
      have c4b0 : (a0_0 == 1) = true := beq_iff_eq.mpr c4
      have c4b1 : (a0_0 != 1) = false := bne_eq_false_iff_eq.mpr c4
      clear c4
      (first | rw [c4b0] | (simp only [i64_w, i32_w]; rw [c4b0]) | skip)
      by_cases c5 : a0_1 < 0
      · rw [if_pos c5] at H
        have c5b0 : decide (a0_1 < 0) = true := decide_eq_true c5
        clear c5
        have H' := Aside0.mk H
        clear H
        have hcz6_0 : w3.cell? ⟨gb215, 0, none⟩ = some (.int .i64 a0_0) := (blk_cell BK215.out 0).trans rfl
        have hcz6_1 : w3.cell? ⟨gb215, 1, none⟩ = some (.int .i64 a0_1) := (blk_cell BK215.out 1).trans rfl
        have hcz6_2 : w3.cell? ⟨gb215, 2, none⟩ = some (.string a0_2) := (blk_cell BK215.out 2).trans rfl
        have hfz6_0 := blk_frozen BK215.out 0
        have hfz6_1 := blk_frozen BK215.out 1
        have hfz6_2 := blk_frozen BK215.out 2
        go_wp2
        go_meet
        case rel => exact ⟨_, (true), (by first | rfl | (simp; done) | (simp [*]; done)), H', ⟨by first | omega | exact Nat.le_refl _⟩, ⟨by (with_reducible repeat (first | refine blk_drewN ?_ _ | refine blk_drew ?_ | refine blk_alloc ?_ _)); exact BK215.out⟩, ⟨by repeat (first | (with_reducible first | exact HB.out | apply below_alloc | apply pw_below_drewN | apply below_drew1 | refine below_set ?_ GE215.out) | exact HB.out)⟩⟩
      · rw [if_neg c5] at H
        have c5b0 : decide (a0_1 < 0) = false := decide_eq_false c5
        clear c5
        by_cases c7 : a0_1 > 65535
        · rw [if_pos c7] at H
          have c7b0 : decide (65535 < a0_1) = true := decide_eq_true c7
          clear c7
          have H' := Aside0.mk H
          clear H
          have hcz8_0 : w3.cell? ⟨gb215, 0, none⟩ = some (.int .i64 a0_0) := (blk_cell BK215.out 0).trans rfl
          have hcz8_1 : w3.cell? ⟨gb215, 1, none⟩ = some (.int .i64 a0_1) := (blk_cell BK215.out 1).trans rfl
          have hcz8_2 : w3.cell? ⟨gb215, 2, none⟩ = some (.string a0_2) := (blk_cell BK215.out 2).trans rfl
          have hfz8_0 := blk_frozen BK215.out 0
          have hfz8_1 := blk_frozen BK215.out 1
          have hfz8_2 := blk_frozen BK215.out 2
          go_wp2
          go_meet
          case rel => exact ⟨_, (true), (by first | rfl | (simp; done) | (simp [*]; done)), H', ⟨by first | omega | exact Nat.le_refl _⟩, ⟨by (with_reducible repeat (first | refine blk_drewN ?_ _ | refine blk_drew ?_ | refine blk_alloc ?_ _)); exact BK215.out⟩, ⟨by repeat (first | (with_reducible first | exact HB.out | apply below_alloc | apply pw_below_drewN | apply below_drew1 | refine below_set ?_ GE215.out) | exact HB.out)⟩⟩
        · rw [if_neg c7] at H
          have c7b0 : decide (65535 < a0_1) = false := decide_eq_false c7
          clear c7
          have H' := Aside0.mk H
          clear H
          have hcz9_0 : w3.cell? ⟨gb215, 0, none⟩ = some (.int .i64 a0_0) := (blk_cell BK215.out 0).trans rfl
          have hcz9_1 : w3.cell? ⟨gb215, 1, none⟩ = some (.int .i64 a0_1) := (blk_cell BK215.out 1).trans rfl
          have hcz9_2 : w3.cell? ⟨gb215, 2, none⟩ = some (.string a0_2) := (blk_cell BK215.out 2).trans rfl
          have hfz9_0 := blk_frozen BK215.out 0
          have hfz9_1 := blk_frozen BK215.out 1
          have hfz9_2 := blk_frozen BK215.out 2
          go_wp2
          go_meet
          case rel => exact ⟨_, (decide ((a0_2.size : Int) > 131072)), (by first | rfl | (simp; done) | (simp [*]; done)), H', ⟨by first | omega | exact Nat.le_refl _⟩, ⟨by (with_reducible repeat (first | refine blk_drewN ?_ _ | refine blk_drew ?_ | refine blk_alloc ?_ _)); exact BK215.out⟩, ⟨by repeat (first | (with_reducible first | exact HB.out | apply below_alloc | apply pw_below_drewN | apply below_drew1 | refine below_set ?_ GE215.out) | exact HB.out)⟩⟩
    · rw [if_neg c4] at H
      have c4b0 : (a0_0 == 1) = false := beq_eq_false_iff_ne.mpr c4
      have c4b1 : (a0_0 != 1) = true := bne_iff_ne.mpr c4
      (first | rw [c4b0] | (simp only [i64_w, i32_w]; rw [c4b0]) | skip)
      by_cases c10 : a0_0 = 2
      · rw [if_pos c10] at H
        have c10b0 : (a0_0 == 2) = true := beq_iff_eq.mpr c10
        have c10b1 : (a0_0 != 2) = false := bne_eq_false_iff_eq.mpr c10
        clear c10
        by_cases c11 : a0_1 < 0
        · rw [if_pos c11] at H
          have c11b0 : decide (a0_1 < 0) = true := decide_eq_true c11
          clear c11
          have H' := Aside0.mk H
          clear H
          have hcz12_0 : w3.cell? ⟨gb215, 0, none⟩ = some (.int .i64 a0_0) := (blk_cell BK215.out 0).trans rfl
          have hcz12_1 : w3.cell? ⟨gb215, 1, none⟩ = some (.int .i64 a0_1) := (blk_cell BK215.out 1).trans rfl
          have hcz12_2 : w3.cell? ⟨gb215, 2, none⟩ = some (.string a0_2) := (blk_cell BK215.out 2).trans rfl
          have hfz12_0 := blk_frozen BK215.out 0
          have hfz12_1 := blk_frozen BK215.out 1
          have hfz12_2 := blk_frozen BK215.out 2
          go_wp2
          go_meet
          case rel => exact ⟨_, (true), (by first | rfl | (simp; done) | (simp [*]; done)), H', ⟨by first | omega | exact Nat.le_refl _⟩, ⟨by (with_reducible repeat (first | refine blk_drewN ?_ _ | refine blk_drew ?_ | refine blk_alloc ?_ _)); exact BK215.out⟩, ⟨by repeat (first | (with_reducible first | exact HB.out | apply below_alloc | apply pw_below_drewN | apply below_drew1 | refine below_set ?_ GE215.out) | exact HB.out)⟩⟩
        · rw [if_neg c11] at H
          have c11b0 : decide (a0_1 < 0) = false := decide_eq_false c11
          clear c11
          by_cases c13 : a0_1 > 65535
          · rw [if_pos c13] at H
            have c13b0 : decide (65535 < a0_1) = true := decide_eq_true c13
            clear c13
            have H' := Aside0.mk H
            clear H
            have hcz14_0 : w3.cell? ⟨gb215, 0, none⟩ = some (.int .i64 a0_0) := (blk_cell BK215.out 0).trans rfl
            have hcz14_1 : w3.cell? ⟨gb215, 1, none⟩ = some (.int .i64 a0_1) := (blk_cell BK215.out 1).trans rfl
            have hcz14_2 : w3.cell? ⟨gb215, 2, none⟩ = some (.string a0_2) := (blk_cell BK215.out 2).trans rfl
            have hfz14_0 := blk_frozen BK215.out 0
            have hfz14_1 := blk_frozen BK215.out 1
            have hfz14_2 := blk_frozen BK215.out 2
            go_wp2
            go_meet
            case rel => exact ⟨_, (true), (by first | rfl | (simp; done) | (simp [*]; done)), H', ⟨by first | omega | exact Nat.le_refl _⟩, ⟨by (with_reducible repeat (first | refine blk_drewN ?_ _ | refine blk_drew ?_ | refine blk_alloc ?_ _)); exact BK215.out⟩, ⟨by repeat (first | (with_reducible first | exact HB.out | apply below_alloc | apply pw_below_drewN | apply below_drew1 | refine below_set ?_ GE215.out) | exact HB.out)⟩⟩
          · rw [if_neg c13] at H
            have c13b0 : decide (65535 < a0_1) = false := decide_eq_false c13
            clear c13
            have H' := Aside0.mk H
            clear H
            have hcz15_0 : w3.cell? ⟨gb215, 0, none⟩ = some (.int .i64 a0_0) := (blk_cell BK215.out 0).trans rfl
            have hcz15_1 : w3.cell? ⟨gb215, 1, none⟩ = some (.int .i64 a0_1) := (blk_cell BK215.out 1).trans rfl
            have hcz15_2 : w3.cell? ⟨gb215, 2, none⟩ = some (.string a0_2) := (blk_cell BK215.out 2).trans rfl
            have hfz15_0 := blk_frozen BK215.out 0
            have hfz15_1 := blk_frozen BK215.out 1
            have hfz15_2 := blk_frozen BK215.out 2
            go_wp2
            go_meet
            case rel => exact ⟨_, (decide ((a0_2.size : Int) > 131072)), (by first | rfl | (simp; done) | (simp [*]; done)), H', ⟨by first | omega | exact Nat.le_refl _⟩, ⟨by (with_reducible repeat (first | refine blk_drewN ?_ _ | refine blk_drew ?_ | refine blk_alloc ?_ _)); exact BK215.out⟩, ⟨by repeat (first | (with_reducible first | exact HB.out | apply below_alloc | apply pw_below_drewN | apply below_drew1 | refine below_set ?_ GE215.out) | exact HB.out)⟩⟩
      · rw [if_neg c10] at H
        have c10b0 : (a0_0 == 2) = false := beq_eq_false_iff_ne.mpr c10
        have c10b1 : (a0_0 != 2) = true := bne_iff_ne.mpr c10
        by_cases c16 : a0_0 = 3
        · rw [if_pos c16] at H
          have c16b0 : (a0_0 == 3) = true := beq_iff_eq.mpr c16
          have c16b1 : (a0_0 != 3) = false := bne_eq_false_iff_eq.mpr c16
          clear c16
          by_cases c17 : a0_1 < 0
          · rw [if_pos c17] at H
            have c17b0 : decide (a0_1 < 0) = true := decide_eq_true c17
            clear c17
            have H' := Aside0.mk H
            clear H
            have hcz18_0 : w3.cell? ⟨gb215, 0, none⟩ = some (.int .i64 a0_0) := (blk_cell BK215.out 0).trans rfl
            have hcz18_1 : w3.cell? ⟨gb215, 1, none⟩ = some (.int .i64 a0_1) := (blk_cell BK215.out 1).trans rfl
            have hcz18_2 : w3.cell? ⟨gb215, 2, none⟩ = some (.string a0_2) := (blk_cell BK215.out 2).trans rfl
            have hfz18_0 := blk_frozen BK215.out 0
            have hfz18_1 := blk_frozen BK215.out 1
            have hfz18_2 := blk_frozen BK215.out 2
            go_wp2
            go_meet
            case rel => exact ⟨_, (true), (by first | rfl | (simp; done) | (simp [*]; done)), H', ⟨by first | omega | exact Nat.le_refl _⟩, ⟨by (with_reducible repeat (first | refine blk_drewN ?_ _ | refine blk_drew ?_ | refine blk_alloc ?_ _)); exact BK215.out⟩, ⟨by repeat (first | (with_reducible first | exact HB.out | apply below_alloc | apply pw_below_drewN | apply below_drew1 | refine below_set ?_ GE215.out) | exact HB.out)⟩⟩
          · rw [if_neg c17] at H
            have c17b0 : decide (a0_1 < 0) = false := decide_eq_false c17
            clear c17
            by_cases c19 : a0_1 > 65535
            · rw [if_pos c19] at H
              have c19b0 : decide (65535 < a0_1) = true := decide_eq_true c19
              clear c19
              have H' := Aside0.mk H
              clear H
              have hcz20_0 : w3.cell? ⟨gb215, 0, none⟩ = some (.int .i64 a0_0) := (blk_cell BK215.out 0).trans rfl
              have hcz20_1 : w3.cell? ⟨gb215, 1, none⟩ = some (.int .i64 a0_1) := (blk_cell BK215.out 1).trans rfl
              have hcz20_2 : w3.cell? ⟨gb215, 2, none⟩ = some (.string a0_2) := (blk_cell BK215.out 2).trans rfl
              have hfz20_0 := blk_frozen BK215.out 0
              have hfz20_1 := blk_frozen BK215.out 1
              have hfz20_2 := blk_frozen BK215.out 2
              go_wp2
              go_meet
              case rel => exact ⟨_, (true), (by first | rfl | (simp; done) | (simp [*]; done)), H', ⟨by first | omega | exact Nat.le_refl _⟩, ⟨by (with_reducible repeat (first | refine blk_drewN ?_ _ | refine blk_drew ?_ | refine blk_alloc ?_ _)); exact BK215.out⟩, ⟨by repeat (first | (with_reducible first | exact HB.out | apply below_alloc | apply pw_below_drewN | apply below_drew1 | refine below_set ?_ GE215.out) | exact HB.out)⟩⟩
            · rw [if_neg c19] at H
              have c19b0 : decide (65535 < a0_1) = false := decide_eq_false c19
              clear c19
              have H' := Aside0.mk H
              clear H
              have hcz21_0 : w3.cell? ⟨gb215, 0, none⟩ = some (.int .i64 a0_0) := (blk_cell BK215.out 0).trans rfl
              have hcz21_1 : w3.cell? ⟨gb215, 1, none⟩ = some (.int .i64 a0_1) := (blk_cell BK215.out 1).trans rfl
              have hcz21_2 : w3.cell? ⟨gb215, 2, none⟩ = some (.string a0_2) := (blk_cell BK215.out 2).trans rfl
              have hfz21_0 := blk_frozen BK215.out 0
              have hfz21_1 := blk_frozen BK215.out 1
              have hfz21_2 := blk_frozen BK215.out 2
              go_wp2
              go_meet
              case rel => exact ⟨_, (decide ((a0_2.size : Int) > 131072)), (by first | rfl | (simp; done) | (simp [*]; done)), H', ⟨by first | omega | exact Nat.le_refl _⟩, ⟨by (with_reducible repeat (first | refine blk_drewN ?_ _ | refine blk_drew ?_ | refine blk_alloc ?_ _)); exact BK215.out⟩, ⟨by repeat (first | (with_reducible first | exact HB.out | apply below_alloc | apply pw_below_drewN | apply below_drew1 | refine below_set ?_ GE215.out) | exact HB.out)⟩⟩
        · rw [if_neg c16] at H
          have c16b0 : (a0_0 == 3) = false := beq_eq_false_iff_ne.mpr c16
          have c16b1 : (a0_0 != 3) = true := bne_iff_ne.mpr c16
          by_cases c22 : a0_0 = 8
          · rw [if_pos c22] at H
            have c22b0 : (a0_0 == 8) = true := beq_iff_eq.mpr c22
            have c22b1 : (a0_0 != 8) = false := bne_eq_false_iff_eq.mpr c22
            clear c22
            by_cases c23 : a0_1 < 0
            · rw [if_pos c23] at H
              have c23b0 : decide (a0_1 < 0) = true := decide_eq_true c23
              clear c23
              have H' := Aside0.mk H
              clear H
              have hcz24_0 : w3.cell? ⟨gb215, 0, none⟩ = some (.int .i64 a0_0) := (blk_cell BK215.out 0).trans rfl
              have hcz24_1 : w3.cell? ⟨gb215, 1, none⟩ = some (.int .i64 a0_1) := (blk_cell BK215.out 1).trans rfl
              have hcz24_2 : w3.cell? ⟨gb215, 2, none⟩ = some (.string a0_2) := (blk_cell BK215.out 2).trans rfl
              have hfz24_0 := blk_frozen BK215.out 0
              have hfz24_1 := blk_frozen BK215.out 1
              have hfz24_2 := blk_frozen BK215.out 2
              go_wp2
              go_meet
              case rel => exact ⟨_, (true), (by first | rfl | (simp; done) | (simp [*]; done)), H', ⟨by first | omega | exact Nat.le_refl _⟩, ⟨by (with_reducible repeat (first | refine blk_drewN ?_ _ | refine blk_drew ?_ | refine blk_alloc ?_ _)); exact BK215.out⟩, ⟨by repeat (first | (with_reducible first | exact HB.out | apply below_alloc | apply pw_below_drewN | apply below_drew1 | refine below_set ?_ GE215.out) | exact HB.out)⟩⟩
            · rw [if_neg c23] at H
              have c23b0 : decide (a0_1 < 0) = false := decide_eq_false c23
              clear c23
              by_cases c25 : a0_1 > 65535
              · rw [if_pos c25] at H
                have c25b0 : decide (65535 < a0_1) = true := decide_eq_true c25
                clear c25
                have H' := Aside0.mk H
                clear H
                have hcz26_0 : w3.cell? ⟨gb215, 0, none⟩ = some (.int .i64 a0_0) := (blk_cell BK215.out 0).trans rfl
                have hcz26_1 : w3.cell? ⟨gb215, 1, none⟩ = some (.int .i64 a0_1) := (blk_cell BK215.out 1).trans rfl
                have hcz26_2 : w3.cell? ⟨gb215, 2, none⟩ = some (.string a0_2) := (blk_cell BK215.out 2).trans rfl
                have hfz26_0 := blk_frozen BK215.out 0
                have hfz26_1 := blk_frozen BK215.out 1
                have hfz26_2 := blk_frozen BK215.out 2
                go_wp2
                go_meet
                case rel => exact ⟨_, (true), (by first | rfl | (simp; done) | (simp [*]; done)), H', ⟨by first | omega | exact Nat.le_refl _⟩, ⟨by (with_reducible repeat (first | refine blk_drewN ?_ _ | refine blk_drew ?_ | refine blk_alloc ?_ _)); exact BK215.out⟩, ⟨by repeat (first | (with_reducible first | exact HB.out | apply below_alloc | apply pw_below_drewN | apply below_drew1 | refine below_set ?_ GE215.out) | exact HB.out)⟩⟩
              · rw [if_neg c25] at H
                have c25b0 : decide (65535 < a0_1) = false := decide_eq_false c25
                clear c25
                have H' := Aside0.mk H
                clear H
                have hcz27_0 : w3.cell? ⟨gb215, 0, none⟩ = some (.int .i64 a0_0) := (blk_cell BK215.out 0).trans rfl
                have hcz27_1 : w3.cell? ⟨gb215, 1, none⟩ = some (.int .i64 a0_1) := (blk_cell BK215.out 1).trans rfl
                have hcz27_2 : w3.cell? ⟨gb215, 2, none⟩ = some (.string a0_2) := (blk_cell BK215.out 2).trans rfl
                have hfz27_0 := blk_frozen BK215.out 0
                have hfz27_1 := blk_frozen BK215.out 1
                have hfz27_2 := blk_frozen BK215.out 2
                go_wp2
                go_meet
                case rel => exact ⟨_, (decide ((a0_2.size : Int) > 131072)), (by first | rfl | (simp; done) | (simp [*]; done)), H', ⟨by first | omega | exact Nat.le_refl _⟩, ⟨by (with_reducible repeat (first | refine blk_drewN ?_ _ | refine blk_drew ?_ | refine blk_alloc ?_ _)); exact BK215.out⟩, ⟨by repeat (first | (with_reducible first | exact HB.out | apply below_alloc | apply pw_below_drewN | apply below_drew1 | refine below_set ?_ GE215.out) | exact HB.out)⟩⟩
          · rw [if_neg c22] at H
            have c22b0 : (a0_0 == 8) = false := beq_eq_false_iff_ne.mpr c22
            have c22b1 : (a0_0 != 8) = true := bne_iff_ne.mpr c22
            have H' := Aside0.mk H
            clear H
            have hcz28_0 : w3.cell? ⟨gb215, 0, none⟩ = some (.int .i64 a0_0) := (blk_cell BK215.out 0).trans rfl
            have hcz28_1 : w3.cell? ⟨gb215, 1, none⟩ = some (.int .i64 a0_1) := (blk_cell BK215.out 1).trans rfl
            have hcz28_2 : w3.cell? ⟨gb215, 2, none⟩ = some (.string a0_2) := (blk_cell BK215.out 2).trans rfl
            have hfz28_0 := blk_frozen BK215.out 0
            have hfz28_1 := blk_frozen BK215.out 1
            have hfz28_2 := blk_frozen BK215.out 2
            go_wp2
            go_meet
            case rel => exact ⟨_, (true), (by first | rfl | (simp; done) | (simp [*]; done)), H', ⟨by first | omega | exact Nat.le_refl _⟩, ⟨by (with_reducible repeat (first | refine blk_drewN ?_ _ | refine blk_drew ?_ | refine blk_alloc ?_ _)); exact BK215.out⟩, ⟨by repeat (first | (with_reducible first | exact HB.out | apply below_alloc | apply pw_below_drewN | apply below_drew1 | refine below_set ?_ GE215.out) | exact HB.out)⟩⟩
  case rest =>
    clear HC2
    try clear c1
    try clear c2
    try clear p2
    try clear c4
    try clear c4b0
    try clear c4b1
    try clear c5
    try clear c5b0
    try clear c7
    try clear c7b0
    try clear c10
    try clear c10b0
    try clear c10b1
    try clear c11
    try clear c11b0
    try clear c13
    try clear c13b0
    try clear c16
    try clear c16b0
    try clear c16b1
    try clear c17
    try clear c17b0
    try clear c19
    try clear c19b0
    try clear c22
    try clear c22b0
    try clear c22b1
    try clear c23
    try clear c23b0
    try clear c25
    try clear c25b0
    try clear hcz12_0
    try clear hcz12_1
    try clear hcz12_2
    try clear hcz14_0
    try clear hcz14_1
    try clear hcz14_2
    try clear hcz15_0
    try clear hcz15_1
    try clear hcz15_2
    try clear hcz18_0
    try clear hcz18_1
    try clear hcz18_2
    try clear hcz20_0
    try clear hcz20_1
    try clear hcz20_2
    try clear hcz21_0
    try clear hcz21_1
    try clear hcz21_2
    try clear hcz24_0
    try clear hcz24_1
    try clear hcz24_2
    try clear hcz26_0
    try clear hcz26_1
    try clear hcz26_2
    try clear hcz27_0
    try clear hcz27_1
    try clear hcz27_2
    try clear hcz28_0
    try clear hcz28_1
    try clear hcz28_2
    try clear hcz6_0
    try clear hcz6_1
    try clear hcz6_2
    try clear hcz8_0
    try clear hcz8_1
    try clear hcz8_2
    try clear hcz9_0
    try clear hcz9_1
    try clear hcz9_2
    try clear hfz12_0
    try clear hfz12_1
    try clear hfz12_2
    try clear hfz14_0
    try clear hfz14_1
    try clear hfz14_2
    try clear hfz15_0
    try clear hfz15_1
    try clear hfz15_2
    try clear hfz18_0
    try clear hfz18_1
    try clear hfz18_2
    try clear hfz20_0
    try clear hfz20_1
    try clear hfz20_2
    try clear hfz21_0
    try clear hfz21_1
    try clear hfz21_2
    try clear hfz24_0
    try clear hfz24_1
    try clear hfz24_2
    try clear hfz26_0
    try clear hfz26_1
    try clear hfz26_2
    try clear hfz27_0
    try clear hfz27_1
    try clear hfz27_2
    try clear hfz28_0
    try clear hfz28_1
    try clear hfz28_2
    try clear hfz6_0
    try clear hfz6_1
    try clear hfz6_2
    try clear hfz8_0
    try clear hfz8_1
    try clear hfz8_2
    try clear hfz9_0
    try clear hfz9_1
    try clear hfz9_2
    obtain ⟨kq, x36_1, rfl, HA, HJ1, BK215, HB⟩ := hcut
    cases kq with
    | zero => exact absurd HA.out (by simp [interchangeref04_Right.j0])
    | succ kj1 =>
      have H := HA.out
      clear HA
      simp only [interchangeref04_Right.j0] at H
      by_cases c29 : x36_1 = true
      · subst c29
        have H1 : (some false) = some r := by rw [if_pos rfl] at H; exact H
        clear H
        have H := H1
        clear H1
        obtain rfl := Option.some.inj H
        go_wp2
        go_ret
        exact ⟨by first | rfl | (simp [errW_none, errW_some] <;> rfl) | (simp [*, errW_none, errW_some] <;> rfl), by repeat (first | (with_reducible first | exact HB.out | apply below_alloc | apply pw_below_drewN | apply below_drew1 | refine below_set ?_ GE215.out) | exact HB.out)⟩
      · replace c29 := Bool.eq_false_iff.mpr c29
        subst c29
        have H1 : (if a0_0 = 8 then (if (a0_2.size : Int) = 0 then (some (a0_1 == 0)) else (some false)) else (if a0_0 = 3 then (some (decide ((a0_2.size : Int) > 0))) else (some true))) = some r := by rw [if_neg (show ¬ (false = true) by decide)] at H; exact H
        clear H
        have H := H1
        clear H1
        by_cases c30 : a0_0 = 8
        · rw [if_pos c30] at H
          have c30b0 : (a0_0 == 8) = true := beq_iff_eq.mpr c30
          have c30b1 : (a0_0 != 8) = false := bne_eq_false_iff_eq.mpr c30
          clear c30
          by_cases c31 : (a0_2.size : Int) = 0
          · rw [if_pos c31] at H
            have c31b0 : ((a0_2.size : Int) == 0) = true := beq_iff_eq.mpr c31
            have c31b1 : ((a0_2.size : Int) != 0) = false := bne_eq_false_iff_eq.mpr c31
            clear c31
            obtain rfl := Option.some.inj H
            have hcz32_0 : wc.cell? ⟨gb215, 0, none⟩ = some (.int .i64 a0_0) := (blk_cell BK215.out 0).trans rfl
            have hcz32_1 : wc.cell? ⟨gb215, 1, none⟩ = some (.int .i64 a0_1) := (blk_cell BK215.out 1).trans rfl
            have hcz32_2 : wc.cell? ⟨gb215, 2, none⟩ = some (.string a0_2) := (blk_cell BK215.out 2).trans rfl
            have hfz32_0 := blk_frozen BK215.out 0
            have hfz32_1 := blk_frozen BK215.out 1
            have hfz32_2 := blk_frozen BK215.out 2
            go_wp2
            go_ret
            exact ⟨by first | rfl | (simp [errW_none, errW_some] <;> rfl) | (simp [*, errW_none, errW_some] <;> rfl), by repeat (first | (with_reducible first | exact HB.out | apply below_alloc | apply pw_below_drewN | apply below_drew1 | refine below_set ?_ GE215.out) | exact HB.out)⟩
          · rw [if_neg c31] at H
            have c31b0 : ((a0_2.size : Int) == 0) = false := beq_eq_false_iff_ne.mpr c31
            have c31b1 : ((a0_2.size : Int) != 0) = true := bne_iff_ne.mpr c31
            obtain rfl := Option.some.inj H
            have hcz33_0 : wc.cell? ⟨gb215, 0, none⟩ = some (.int .i64 a0_0) := (blk_cell BK215.out 0).trans rfl
            have hcz33_1 : wc.cell? ⟨gb215, 1, none⟩ = some (.int .i64 a0_1) := (blk_cell BK215.out 1).trans rfl
            have hcz33_2 : wc.cell? ⟨gb215, 2, none⟩ = some (.string a0_2) := (blk_cell BK215.out 2).trans rfl
            have hfz33_0 := blk_frozen BK215.out 0
            have hfz33_1 := blk_frozen BK215.out 1
            have hfz33_2 := blk_frozen BK215.out 2
            go_wp2
            go_ret
            exact ⟨by first | rfl | (simp [errW_none, errW_some] <;> rfl) | (simp [*, errW_none, errW_some] <;> rfl), by repeat (first | (with_reducible first | exact HB.out | apply below_alloc | apply pw_below_drewN | apply below_drew1 | refine below_set ?_ GE215.out) | exact HB.out)⟩
        · rw [if_neg c30] at H
          have c30b0 : (a0_0 == 8) = false := beq_eq_false_iff_ne.mpr c30
          have c30b1 : (a0_0 != 8) = true := bne_iff_ne.mpr c30
          by_cases c34 : a0_0 = 3
          · rw [if_pos c34] at H
            have c34b0 : (a0_0 == 3) = true := beq_iff_eq.mpr c34
            have c34b1 : (a0_0 != 3) = false := bne_eq_false_iff_eq.mpr c34
            clear c34
            obtain rfl := Option.some.inj H
            have hcz35_0 : wc.cell? ⟨gb215, 0, none⟩ = some (.int .i64 a0_0) := (blk_cell BK215.out 0).trans rfl
            have hcz35_1 : wc.cell? ⟨gb215, 1, none⟩ = some (.int .i64 a0_1) := (blk_cell BK215.out 1).trans rfl
            have hcz35_2 : wc.cell? ⟨gb215, 2, none⟩ = some (.string a0_2) := (blk_cell BK215.out 2).trans rfl
            have hfz35_0 := blk_frozen BK215.out 0
            have hfz35_1 := blk_frozen BK215.out 1
            have hfz35_2 := blk_frozen BK215.out 2
            go_wp2
            go_ret
            exact ⟨by first | rfl | (simp [errW_none, errW_some] <;> rfl) | (simp [*, errW_none, errW_some] <;> rfl), by repeat (first | (with_reducible first | exact HB.out | apply below_alloc | apply pw_below_drewN | apply below_drew1 | refine below_set ?_ GE215.out) | exact HB.out)⟩
          · rw [if_neg c34] at H
            have c34b0 : (a0_0 == 3) = false := beq_eq_false_iff_ne.mpr c34
            have c34b1 : (a0_0 != 3) = true := bne_iff_ne.mpr c34
            obtain rfl := Option.some.inj H
            have hcz36_0 : wc.cell? ⟨gb215, 0, none⟩ = some (.int .i64 a0_0) := (blk_cell BK215.out 0).trans rfl
            have hcz36_1 : wc.cell? ⟨gb215, 1, none⟩ = some (.int .i64 a0_1) := (blk_cell BK215.out 1).trans rfl
            have hcz36_2 : wc.cell? ⟨gb215, 2, none⟩ = some (.string a0_2) := (blk_cell BK215.out 2).trans rfl
            have hfz36_0 := blk_frozen BK215.out 0
            have hfz36_1 := blk_frozen BK215.out 1
            have hfz36_2 := blk_frozen BK215.out 2
            go_wp2
            go_ret
            exact ⟨by first | rfl | (simp [errW_none, errW_some] <;> rfl) | (simp [*, errW_none, errW_some] <;> rfl), by repeat (first | (with_reducible first | exact HB.out | apply below_alloc | apply pw_below_drewN | apply below_drew1 | refine below_set ?_ GE215.out) | exact HB.out)⟩


end Go.Proofs.YtdalcbhnnfabhaaDoor.F
namespace Go.Proofs.YtdalcbhnnfabhaaDoor.F
open Go.RowKit Go.Proofs.YtdalcbhnnfabhaaDoorW.PrintWords Go.Proofs.YtdalcbhnnfabhaaDoorW.PrintLast Go.Proofs.YtdalcbhnnfabhaaDoorW.PrintMore
attribute [local go_sem] max2_int min2_int max_two min_two max_three min_three max_four min_four
set_option linter.unusedVariables false
set_option linter.unusedSimpArgs false

/-! ### interchangeref04_Bytes: function 19 -/
def interchangeref04_Bytes.f (k : Nat) (a0_0 : Int) (a0_1 : Int) (a0_2 : ByteArray) : Option (ByteArray × Int) := (interchangeref04_Right.f k a0_0 a0_1 a0_2).bind fun t220 => (if t220 = true then ((interchangeref01_Put.f k 2 (IntKind.u64.wrap (a0_1))).bind fun bt221 => ((interchangeref01_Put.f k 4 (IntKind.u64.wrap ((a0_2.size : Int)))).bind fun bt223 => ((some (([(a0_0) % 256] : List Int) : List Int)).bind fun y225 => (if (strOfNums y225).size + bt221.1.size ≤ 9223372036854775807 then (if ((strOfNums y225) ++ bt221.1).size + bt223.1.size ≤ 9223372036854775807 then (if (((strOfNums y225) ++ bt221.1) ++ bt223.1).size + a0_2.size ≤ 9223372036854775807 then (if ((((strOfNums y225) ++ bt221.1) ++ bt223.1) ++ a0_2).size + 1 ≤ 9223372036854775807 then (some (((((strOfNums y225) ++ bt221.1) ++ bt223.1) ++ a0_2) ++ (⟨#[206]⟩ : ByteArray), 0)) else (none)) else (none)) else (none)) else (none))))) else (some ((⟨#[]⟩ : ByteArray), 1)))
theorem interchangeref04_Bytes.mono : ∀ a0 a1 a2 k, LeO (interchangeref04_Bytes.f k a0 a1 a2) (interchangeref04_Bytes.f (k + 1) a0 a1 a2) := by
  intro a0 a1 a2 k
  unfold interchangeref04_Bytes.f
  repeat' first
      | (with_reducible exact interchangeref01_Put.mono _ _ _)
      | (with_reducible exact interchangeref04_Right.mono _ _ _ _)
      | (with_reducible exact LeO.refl _)
      | (with_reducible exact LeO.none _)
      | (with_reducible refine LeO.ite ?_ ?_)
      | (with_reducible refine LeO.bind ?_ (fun _ => ?_))
      | exact interchangeref01_Put.mono _ _ _
      | exact interchangeref04_Right.mono _ _ _ _
      | exact LeO.none _
      | refine LeO.ite ?_ ?_
      | refine LeO.bind ?_ (fun _ => ?_)
set_option maxHeartbeats 8000000 in
set_option maxRecDepth 100000 in
theorem interchangeref04_Bytes.calls (k : Nat) (a0_0 : Int) (a0_1 : Int) (a0_2 : ByteArray) (r1 : ByteArray) (r2 : Int) (w : World) (h : interchangeref04_Bytes.f k a0_0 a0_1 a0_2 = some (r1, r2)) :
    Calls Tryd.prog 19 #[.agg #[.int .i64 a0_0, .int .i64 a0_1, .string a0_2]] w fun e w' => e = .returned (.tuple #[.string r1, .int .i64 r2]) ∧ Below w.heap.size w w' := by
  have hu29 := Tryd.underlying29
  have HB := Aside0.mk (Below.refl w.heap.size w)
  have H : ((interchangeref04_Right.f k a0_0 a0_1 a0_2).bind fun t220 => (if t220 = true then ((interchangeref01_Put.f k 2 (IntKind.u64.wrap (a0_1))).bind fun bt221 => ((interchangeref01_Put.f k 4 (IntKind.u64.wrap ((a0_2.size : Int)))).bind fun bt223 => ((some (([(a0_0) % 256] : List Int) : List Int)).bind fun y225 => (if (strOfNums y225).size + bt221.1.size ≤ 9223372036854775807 then (if ((strOfNums y225) ++ bt221.1).size + bt223.1.size ≤ 9223372036854775807 then (if (((strOfNums y225) ++ bt221.1) ++ bt223.1).size + a0_2.size ≤ 9223372036854775807 then (if ((((strOfNums y225) ++ bt221.1) ++ bt223.1) ++ a0_2).size + 1 ≤ 9223372036854775807 then (some (((((strOfNums y225) ++ bt221.1) ++ bt223.1) ++ a0_2) ++ (⟨#[206]⟩ : ByteArray), 0)) else (none)) else (none)) else (none)) else (none))))) else (some ((⟨#[]⟩ : ByteArray), 1)))) = some (r1, r2) := h
  clear h
  replace H := Option.bind_eq_some_iff.mp H
  obtain ⟨t220, A20, H⟩ := H
  replace H : (if t220 = true then ((interchangeref01_Put.f k 2 (IntKind.u64.wrap (a0_1))).bind fun bt221 => ((interchangeref01_Put.f k 4 (IntKind.u64.wrap ((a0_2.size : Int)))).bind fun bt223 => ((some (([(a0_0) % 256] : List Int) : List Int)).bind fun y225 => (if (strOfNums y225).size + bt221.1.size ≤ 9223372036854775807 then (if ((strOfNums y225) ++ bt221.1).size + bt223.1.size ≤ 9223372036854775807 then (if (((strOfNums y225) ++ bt221.1) ++ bt223.1).size + a0_2.size ≤ 9223372036854775807 then (if ((((strOfNums y225) ++ bt221.1) ++ bt223.1) ++ a0_2).size + 1 ≤ 9223372036854775807 then (some (((((strOfNums y225) ++ bt221.1) ++ bt223.1) ++ a0_2) ++ (⟨#[206]⟩ : ByteArray), 0)) else (none)) else (none)) else (none)) else (none))))) else (some ((⟨#[]⟩ : ByteArray), 1))) = some (r1, r2) := H
  have A2 := Aside0.mk A20
  clear A20
  by_cases c3 : t220 = true
  · subst c3
    have H1 : ((interchangeref01_Put.f k 2 (IntKind.u64.wrap (a0_1))).bind fun bt221 => ((interchangeref01_Put.f k 4 (IntKind.u64.wrap ((a0_2.size : Int)))).bind fun bt223 => ((some (([(a0_0) % 256] : List Int) : List Int)).bind fun y225 => (if (strOfNums y225).size + bt221.1.size ≤ 9223372036854775807 then (if ((strOfNums y225) ++ bt221.1).size + bt223.1.size ≤ 9223372036854775807 then (if (((strOfNums y225) ++ bt221.1) ++ bt223.1).size + a0_2.size ≤ 9223372036854775807 then (if ((((strOfNums y225) ++ bt221.1) ++ bt223.1) ++ a0_2).size + 1 ≤ 9223372036854775807 then (some (((((strOfNums y225) ++ bt221.1) ++ bt223.1) ++ a0_2) ++ (⟨#[206]⟩ : ByteArray), 0)) else (none)) else (none)) else (none)) else (none))))) = some (r1, r2) := by rw [if_pos rfl] at H; exact H
    clear H
    have H := H1
    clear H1
    replace H := Option.bind_eq_some_iff.mp H
    obtain ⟨⟨t221, t222⟩, A40, H⟩ := H
    replace H : ((interchangeref01_Put.f k 4 (IntKind.u64.wrap ((a0_2.size : Int)))).bind fun bt223 => ((some (([(a0_0) % 256] : List Int) : List Int)).bind fun y225 => (if (strOfNums y225).size + t221.size ≤ 9223372036854775807 then (if ((strOfNums y225) ++ t221).size + bt223.1.size ≤ 9223372036854775807 then (if (((strOfNums y225) ++ t221) ++ bt223.1).size + a0_2.size ≤ 9223372036854775807 then (if ((((strOfNums y225) ++ t221) ++ bt223.1) ++ a0_2).size + 1 ≤ 9223372036854775807 then (some (((((strOfNums y225) ++ t221) ++ bt223.1) ++ a0_2) ++ (⟨#[206]⟩ : ByteArray), 0)) else (none)) else (none)) else (none)) else (none)))) = some (r1, r2) := H
    have A4 := Aside0.mk A40
    clear A40
    replace H := Option.bind_eq_some_iff.mp H
    obtain ⟨⟨t223, t224⟩, A50, H⟩ := H
    replace H : ((some (([(a0_0) % 256] : List Int) : List Int)).bind fun y225 => (if (strOfNums y225).size + t221.size ≤ 9223372036854775807 then (if ((strOfNums y225) ++ t221).size + t223.size ≤ 9223372036854775807 then (if (((strOfNums y225) ++ t221) ++ t223).size + a0_2.size ≤ 9223372036854775807 then (if ((((strOfNums y225) ++ t221) ++ t223) ++ a0_2).size + 1 ≤ 9223372036854775807 then (some (((((strOfNums y225) ++ t221) ++ t223) ++ a0_2) ++ (⟨#[206]⟩ : ByteArray), 0)) else (none)) else (none)) else (none)) else (none))) = some (r1, r2) := H
    have A5 := Aside0.mk A50
    clear A50
    obtain ⟨y225, hy225⟩ : ∃ y_ : List Int, y_ = (([(a0_0) % 256] : List Int)) := ⟨_, rfl⟩
    replace H : (if (strOfNums y225).size + t221.size ≤ 9223372036854775807 then (if ((strOfNums y225) ++ t221).size + t223.size ≤ 9223372036854775807 then (if (((strOfNums y225) ++ t221) ++ t223).size + a0_2.size ≤ 9223372036854775807 then (if ((((strOfNums y225) ++ t221) ++ t223) ++ a0_2).size + 1 ≤ 9223372036854775807 then (some (((((strOfNums y225) ++ t221) ++ t223) ++ a0_2) ++ (⟨#[206]⟩ : ByteArray), 0)) else (none)) else (none)) else (none)) else (none)) = some (r1, r2) := by first | (rw [hy225]; with_reducible exact H) | (have H2_ := (Option.bind_some _ _).symm.trans H; rw [hy225]; with_reducible exact H2_) | (have H2_ := (Option.bind_some _ _).symm.trans H; with_reducible exact H2_) | with_reducible exact H | (rw [hy225]; exact H) | exact H
    have Ny225 := Aside0.mk hy225
    clear hy225
    by_cases c6 : (strOfNums y225).size + t221.size ≤ 9223372036854775807
    · rw [if_pos c6] at H
      have c6b0 := eq_true c6
      have c6b1 : decide ((strOfNums y225).size + t221.size ≤ 9223372036854775807) = true := decide_eq_true c6
      try have c6b2 : (9223372036854775807 < (strOfNums y225).size + t221.size) = False := eq_false (Nat.not_lt.2 c6)
      by_cases c7 : ((strOfNums y225) ++ t221).size + t223.size ≤ 9223372036854775807
      · rw [if_pos c7] at H
        have c7b0 := eq_true c7
        have c7b1 : decide (((strOfNums y225) ++ t221).size + t223.size ≤ 9223372036854775807) = true := decide_eq_true c7
        try have c7b2 : (9223372036854775807 < ((strOfNums y225) ++ t221).size + t223.size) = False := eq_false (Nat.not_lt.2 c7)
        by_cases c8 : (((strOfNums y225) ++ t221) ++ t223).size + a0_2.size ≤ 9223372036854775807
        · rw [if_pos c8] at H
          have c8b0 := eq_true c8
          have c8b1 : decide ((((strOfNums y225) ++ t221) ++ t223).size + a0_2.size ≤ 9223372036854775807) = true := decide_eq_true c8
          try have c8b2 : (9223372036854775807 < (((strOfNums y225) ++ t221) ++ t223).size + a0_2.size) = False := eq_false (Nat.not_lt.2 c8)
          by_cases c9 : ((((strOfNums y225) ++ t221) ++ t223) ++ a0_2).size + 1 ≤ 9223372036854775807
          · rw [if_pos c9] at H
            have c9b0 := eq_true c9
            have c9b1 : decide (((((strOfNums y225) ++ t221) ++ t223) ++ a0_2).size + 1 ≤ 9223372036854775807) = true := decide_eq_true c9
            try have c9b2 : (9223372036854775807 < ((((strOfNums y225) ++ t221) ++ t223) ++ a0_2).size + 1) = False := eq_false (Nat.not_lt.2 c9)
            simp only [Option.some.injEq, Prod.mk.injEq] at H
            obtain ⟨rfl, rfl⟩ := H
            have hw_ : IntKind.u64.wrap ((a0_2.size : Int)) = ((a0_2.size : Int)) := IntWalk.u64_in _ (by omega)
            have A6w := A5.out
            rw [hw_] at A6w
            clear A5
            have A5 := Aside0.mk A6w
            clear A6w hw_
            have c9b9 : (9223372036854775807 < (strOfNums y225).size + t221.size + t223.size + a0_2.size + 1) = False := eq_false (by have c9s := c9; simp only [ByteArray.size_append] at c9s; omega)
            go_enter Tryd.func19, Tryd.ntmps19
            go_wp2_with (first | ((with_reducible refine gate_dst (N := 1) rfl ?_); refine box_event ?hg (N := 1) ?hd (cs := #[.int .i64 a0_0, .int .i64 a0_1, .string a0_2]) (t := 29) ?hr ?_; (case hd => rfl); (case hg => rfl); (case hr => first | (go_simp; done) | (go_simp; rfl)); intro gb219 hg w10 hbox hb; have n0_ := Aside0.mk (below_step (by repeat (first | (with_reducible first | exact HB.out | apply below_alloc | apply pw_below_drewN | apply below_drew1) | exact HB.out)) hb); have n1_ := Aside0.mk (hbox); have n2_ := Aside0.mk ((by rw [hg]; exact (below_size (by repeat (first | (with_reducible first | exact HB.out | apply below_alloc | apply pw_below_drewN | apply below_drew1) | exact HB.out))) : w.heap.size ≤ gb219)); have n3_ := Aside0.mk ((by rw [hg]; exact (below_size (by repeat (first | (with_reducible first | exact HB.out | apply below_alloc | apply pw_below_drewN | apply below_drew1) | exact HB.out))) : w.heap.size ≤ gb219)); clear HB; have HB := n0_; have BK219 := n1_; have GW219 := n2_; have GE219 := n3_; clear n0_ n1_ n2_ n3_; clear hb hbox hg; have hcz11_0 : w10.cell? ⟨gb219, 0, none⟩ = some (.int .i64 a0_0) := (blk_cell BK219.out 0).trans rfl; have hcz11_1 : w10.cell? ⟨gb219, 1, none⟩ = some (.int .i64 a0_1) := (blk_cell BK219.out 1).trans rfl; have hcz11_2 : w10.cell? ⟨gb219, 2, none⟩ = some (.string a0_2) := (blk_cell BK219.out 2).trans rfl; have hfz11_0 := blk_frozen BK219.out 0; have hfz11_1 := blk_frozen BK219.out 1; have hfz11_2 := blk_frozen BK219.out 2) | ((with_reducible refine gate_callee (f := 23) rfl ?_); refine goesL_ (some 10) rfl rfl Tryd.func23 (by kernel_rfl) rfl #[.agg #[.int .i64 a0_0, .int .i64 a0_1, .string a0_2]] rfl (by (try simp only [List.map_toArray, List.map_cons, List.map_nil]); first | done | rfl | (simp only [List.length_drop, List.length_take]; rfl)) ?_; (with_reducible refine (interchangeref04_Right.calls k a0_0 a0_1 a0_2 true _ A2.out).mono ?_); rintro e w12 ⟨rfl, hb⟩; refine ⟨_, rfl, ?_⟩; have n0_ := Aside0.mk (blk_below (g := gb219) (o := .cells #[.int .i64 a0_0, .int .i64 a0_1, .string a0_2] 29 (0, 0)) (by (with_reducible repeat (first | refine blk_drewN ?_ _ | refine blk_drew ?_ | refine blk_alloc ?_ _)); exact BK219.out) hb); have n1_ := Aside0.mk (below_step (by repeat (first | (with_reducible first | exact HB.out | apply below_alloc | apply pw_below_drewN | apply below_drew1 | refine below_set ?_ GE219.out) | exact HB.out)) hb); clear BK219; clear HB; have BK219 := n0_; have HB := n1_; clear n0_ n1_; (try clear hb); (try clear hb2); (try clear hk); (try clear hi); have hcz13_0 : w12.cell? ⟨gb219, 0, none⟩ = some (.int .i64 a0_0) := (blk_cell BK219.out 0).trans rfl; have hcz13_1 : w12.cell? ⟨gb219, 1, none⟩ = some (.int .i64 a0_1) := (blk_cell BK219.out 1).trans rfl; have hcz13_2 : w12.cell? ⟨gb219, 2, none⟩ = some (.string a0_2) := (blk_cell BK219.out 2).trans rfl; have hfz13_0 := blk_frozen BK219.out 0; have hfz13_1 := blk_frozen BK219.out 1; have hfz13_2 := blk_frozen BK219.out 2) | ((with_reducible refine gate_callee (f := 30) rfl ?_); refine goesL_ (some 17) rfl rfl Tryd.func30 (by kernel_rfl) rfl #[.int .i64 2, .int .u64 (IntKind.u64.wrap (a0_1))] rfl (by (try simp only [List.map_toArray, List.map_cons, List.map_nil]); first | done | rfl | (simp only [List.length_drop, List.length_take]; rfl)) ?_; (with_reducible refine (interchangeref01_Put.calls k 2 (IntKind.u64.wrap (a0_1)) t221 t222 _ A4.out).mono ?_); rintro e w14 ⟨rfl, hb⟩; refine ⟨_, rfl, ?_⟩; have n0_ := Aside0.mk (blk_below (g := gb219) (o := .cells #[.int .i64 a0_0, .int .i64 a0_1, .string a0_2] 29 (0, 0)) (by (with_reducible repeat (first | refine blk_drewN ?_ _ | refine blk_drew ?_ | refine blk_alloc ?_ _)); exact BK219.out) hb); have n1_ := Aside0.mk (below_step (by repeat (first | (with_reducible first | exact HB.out | apply below_alloc | apply pw_below_drewN | apply below_drew1 | refine below_set ?_ GE219.out) | exact HB.out)) hb); clear BK219; clear HB; have BK219 := n0_; have HB := n1_; clear n0_ n1_; (try clear hb); (try clear hb2); (try clear hk); (try clear hi); have hcz15_0 : w14.cell? ⟨gb219, 0, none⟩ = some (.int .i64 a0_0) := (blk_cell BK219.out 0).trans rfl; have hcz15_1 : w14.cell? ⟨gb219, 1, none⟩ = some (.int .i64 a0_1) := (blk_cell BK219.out 1).trans rfl; have hcz15_2 : w14.cell? ⟨gb219, 2, none⟩ = some (.string a0_2) := (blk_cell BK219.out 2).trans rfl; have hfz15_0 := blk_frozen BK219.out 0; have hfz15_1 := blk_frozen BK219.out 1; have hfz15_2 := blk_frozen BK219.out 2) | ((with_reducible refine gate_callee (f := 30) rfl ?_); refine goesL_ (some 25) rfl rfl Tryd.func30 (by kernel_rfl) rfl #[.int .i64 4, .int .u64 ((a0_2.size : Int))] rfl (by (try simp only [List.map_toArray, List.map_cons, List.map_nil]); first | done | rfl | (simp only [List.length_drop, List.length_take]; rfl)) ?_; (with_reducible refine (interchangeref01_Put.calls k 4 ((a0_2.size : Int)) t223 t224 _ A5.out).mono ?_); rintro e w16 ⟨rfl, hb⟩; refine ⟨_, rfl, ?_⟩; have n0_ := Aside0.mk (blk_below (g := gb219) (o := .cells #[.int .i64 a0_0, .int .i64 a0_1, .string a0_2] 29 (0, 0)) (by (with_reducible repeat (first | refine blk_drewN ?_ _ | refine blk_drew ?_ | refine blk_alloc ?_ _)); exact BK219.out) hb); have n1_ := Aside0.mk (below_step (by repeat (first | (with_reducible first | exact HB.out | apply below_alloc | apply pw_below_drewN | apply below_drew1 | refine below_set ?_ GE219.out) | exact HB.out)) hb); clear BK219; clear HB; have BK219 := n0_; have HB := n1_; clear n0_ n1_; (try clear hb); (try clear hb2); (try clear hk); (try clear hi); have hcz17_0 : w16.cell? ⟨gb219, 0, none⟩ = some (.int .i64 a0_0) := (blk_cell BK219.out 0).trans rfl; have hcz17_1 : w16.cell? ⟨gb219, 1, none⟩ = some (.int .i64 a0_1) := (blk_cell BK219.out 1).trans rfl; have hcz17_2 : w16.cell? ⟨gb219, 2, none⟩ = some (.string a0_2) := (blk_cell BK219.out 2).trans rfl; have hfz17_0 := blk_frozen BK219.out 0; have hfz17_1 := blk_frozen BK219.out 1; have hfz17_2 := blk_frozen BK219.out 2) | ((with_reducible refine gate_dst (N := 31) rfl ?_); refine Kd.R_lit (Kd.int .u8) _ 5 ?hg (N := 31) ?hd (xs := ([(a0_0) % 256] : List Int)) (inner := [.int .u8 ((a0_0) % 256)]) (ok := fun _ => True) (okp := fun _ => True) ?hr ?hp (fun _ hk => hk) trivial (Below.refl _ _) (Nat.le_refl _) (by simp) ?_; (case hd => rfl); (case hg => rfl); (case hr => first | (go_simp; done) | (go_simp; rfl)); (case hp => exact (Reps.one (show Kd.M (Kd.int .u8) _ _ _ ((a0_0) % 256) [.int .u8 ((a0_0) % 256)] from rfl) (Reps.none _ _))); intro v226 w18 ho19 hb hg_ hnew_; clear hg_ hnew_; (first | rw [← Ny225.out] at ho19 | (simp only [Int.reduceToNat] at ho19; rw [← Ny225.out] at ho19)); have n0_ := Aside0.mk (Kd.R_lower ho19 (below_size (by repeat (first | (with_reducible first | exact HB.out | apply below_alloc | apply pw_below_drewN | apply below_drew1 | refine below_set ?_ GE219.out) | exact HB.out)))); have n1_ := Aside0.mk (blk_below (g := gb219) (o := .cells #[.int .i64 a0_0, .int .i64 a0_1, .string a0_2] 29 (0, 0)) (by (with_reducible repeat (first | refine blk_drewN ?_ _ | refine blk_drew ?_ | refine blk_alloc ?_ _)); exact BK219.out) hb); have n2_ := Aside0.mk (below_step (by repeat (first | (with_reducible first | exact HB.out | apply below_alloc | apply pw_below_drewN | apply below_drew1 | refine below_set ?_ GE219.out) | exact HB.out)) hb); clear BK219; clear HB; have HO227 := n0_; have BK219 := n1_; have HB := n2_; clear n0_ n1_ n2_; clear hb ho19; have hcv20 := own_string (P := Tryd.prog) Tryd.underlying53 Tryd.underlying5 Tryd.underlying9 (Kd.own_of_R HO227.out); have hcz21_0 : w18.cell? ⟨gb219, 0, none⟩ = some (.int .i64 a0_0) := (blk_cell BK219.out 0).trans rfl; have hcz21_1 : w18.cell? ⟨gb219, 1, none⟩ = some (.int .i64 a0_1) := (blk_cell BK219.out 1).trans rfl; have hcz21_2 : w18.cell? ⟨gb219, 2, none⟩ = some (.string a0_2) := (blk_cell BK219.out 2).trans rfl; have hfz21_0 := blk_frozen BK219.out 0; have hfz21_1 := blk_frozen BK219.out 1; have hfz21_2 := blk_frozen BK219.out 2))
            go_ret2
            exact ⟨by first | rfl | (simp [errW_none, errW_some] <;> rfl) | (simp [*, errW_none, errW_some] <;> rfl), by repeat (first | (with_reducible first | exact HB.out | apply below_alloc | apply pw_below_drewN | apply below_drew1 | refine below_set ?_ GE219.out) | exact HB.out)⟩
          · rw [if_neg c9] at H
            exact absurd H (by simp)
        · rw [if_neg c8] at H
          exact absurd H (by simp)
      · rw [if_neg c7] at H
        exact absurd H (by simp)
    · rw [if_neg c6] at H
      exact absurd H (by simp)
  · replace c3 := Bool.eq_false_iff.mpr c3
    subst c3
    have H1 : (some ((⟨#[]⟩ : ByteArray), 1)) = some (r1, r2) := by rw [if_neg (show ¬ (false = true) by decide)] at H; exact H
    clear H
    have H := H1
    clear H1
    simp only [Option.some.injEq, Prod.mk.injEq] at H
    obtain ⟨rfl, rfl⟩ := H
    go_enter Tryd.func19, Tryd.ntmps19
    go_wp2_with (first | ((with_reducible refine gate_dst (N := 1) rfl ?_); refine box_event ?hg (N := 1) ?hd (cs := #[.int .i64 a0_0, .int .i64 a0_1, .string a0_2]) (t := 29) ?hr ?_; (case hd => rfl); (case hg => rfl); (case hr => first | (go_simp; done) | (go_simp; rfl)); intro gb219 hg w22 hbox hb; have n0_ := Aside0.mk (below_step (by repeat (first | (with_reducible first | exact HB.out | apply below_alloc | apply pw_below_drewN | apply below_drew1) | exact HB.out)) hb); have n1_ := Aside0.mk (hbox); have n2_ := Aside0.mk ((by rw [hg]; exact (below_size (by repeat (first | (with_reducible first | exact HB.out | apply below_alloc | apply pw_below_drewN | apply below_drew1) | exact HB.out))) : w.heap.size ≤ gb219)); have n3_ := Aside0.mk ((by rw [hg]; exact (below_size (by repeat (first | (with_reducible first | exact HB.out | apply below_alloc | apply pw_below_drewN | apply below_drew1) | exact HB.out))) : w.heap.size ≤ gb219)); clear HB; have HB := n0_; have BK219 := n1_; have GW219 := n2_; have GE219 := n3_; clear n0_ n1_ n2_ n3_; clear hb hbox hg; have hcz23_0 : w22.cell? ⟨gb219, 0, none⟩ = some (.int .i64 a0_0) := (blk_cell BK219.out 0).trans rfl; have hcz23_1 : w22.cell? ⟨gb219, 1, none⟩ = some (.int .i64 a0_1) := (blk_cell BK219.out 1).trans rfl; have hcz23_2 : w22.cell? ⟨gb219, 2, none⟩ = some (.string a0_2) := (blk_cell BK219.out 2).trans rfl; have hfz23_0 := blk_frozen BK219.out 0; have hfz23_1 := blk_frozen BK219.out 1; have hfz23_2 := blk_frozen BK219.out 2) | ((with_reducible refine gate_callee (f := 23) rfl ?_); refine goesL_ (some 10) rfl rfl Tryd.func23 (by kernel_rfl) rfl #[.agg #[.int .i64 a0_0, .int .i64 a0_1, .string a0_2]] rfl (by (try simp only [List.map_toArray, List.map_cons, List.map_nil]); first | done | rfl | (simp only [List.length_drop, List.length_take]; rfl)) ?_; (with_reducible refine (interchangeref04_Right.calls k a0_0 a0_1 a0_2 false _ A2.out).mono ?_); rintro e w24 ⟨rfl, hb⟩; refine ⟨_, rfl, ?_⟩; have n0_ := Aside0.mk (blk_below (g := gb219) (o := .cells #[.int .i64 a0_0, .int .i64 a0_1, .string a0_2] 29 (0, 0)) (by (with_reducible repeat (first | refine blk_drewN ?_ _ | refine blk_drew ?_ | refine blk_alloc ?_ _)); exact BK219.out) hb); have n1_ := Aside0.mk (below_step (by repeat (first | (with_reducible first | exact HB.out | apply below_alloc | apply pw_below_drewN | apply below_drew1 | refine below_set ?_ GE219.out) | exact HB.out)) hb); clear BK219; clear HB; have BK219 := n0_; have HB := n1_; clear n0_ n1_; (try clear hb); (try clear hb2); (try clear hk); (try clear hi)))
    go_ret2
    exact ⟨by first | rfl | (simp [errW_none, errW_some] <;> rfl) | (simp [*, errW_none, errW_some] <;> rfl), by repeat (first | (with_reducible first | exact HB.out | apply below_alloc | apply pw_below_drewN | apply below_drew1 | refine below_set ?_ GE219.out) | exact HB.out)⟩


end Go.Proofs.YtdalcbhnnfabhaaDoor.F
namespace Go.Proofs.YtdalcbhnnfabhaaDoor.F
open Go.RowKit Go.Proofs.YtdalcbhnnfabhaaDoorW.PrintWords Go.Proofs.YtdalcbhnnfabhaaDoorW.PrintLast Go.Proofs.YtdalcbhnnfabhaaDoorW.PrintMore
attribute [local go_sem] max2_int min2_int max_two min_two max_three min_three max_four min_four
set_option linter.unusedVariables false
set_option linter.unusedSimpArgs false

theorem eqA29 (d : Nat) (w : World) (x0 y0 : Int) (x1 y1 : Int) (x2 y2 : ByteArray) :
    (Op.equalIn (d + 2) 29 (.agg #[.int .i64 x0, .int .i64 x1, .string x2]) (.agg #[.int .i64 y0, .int .i64 y1, .string y2])).run Tryd.prog w = .ok (x0 == y0 && (x1 == y1 && (x2.toList == y2.toList))) w := by
  refine eqA_of Tryd.underlying29 (by kernel_rfl) ?_
  refine eqf_cons (by rfl) (by go_simp; rfl) (by go_simp; rfl) (by go_simp) ?_
  refine eqf_cons (by rfl) (by go_simp; rfl) (by go_simp; rfl) (by go_simp) ?_
  exact eqf_last (by rfl) (by go_simp; rfl) (by go_simp; rfl) (by go_simp)
end Go.Proofs.YtdalcbhnnfabhaaDoor.F
namespace Go.Proofs.YtdalcbhnnfabhaaDoor.F
open Go.RowKit Go.Proofs.YtdalcbhnnfabhaaDoorW.PrintWords Go.Proofs.YtdalcbhnnfabhaaDoorW.PrintLast Go.Proofs.YtdalcbhnnfabhaaDoorW.PrintMore
attribute [local go_sem] max2_int min2_int max_two min_two max_three min_three max_four min_four
set_option linter.unusedVariables false
set_option linter.unusedSimpArgs false

attribute [local go_sem high] eqA29
/-! ### interchangeref04_Same: function 17 -/
def interchangeref04_Same.l0 : Nat → List (S29) → List (S29) → Int → Option (Bool)
  | 0, _, _, _ => none
  | k + 1, x0, x1, x5 => if x5 < (x0.length : Int) then (if 0 ≤ x5 then (if x5 < (x1.length : Int) then (if (!(((rd_T29 x0 x5).f0) == ((rd_T29 x1 x5).f0)) || (!(((rd_T29 x0 x5).f1) == ((rd_T29 x1 x5).f1)) || (!((((rd_T29 x0 x5).f2).toList) == (((rd_T29 x1 x5).f2).toList))))) = true then (some false) else (interchangeref04_Same.l0 k x0 x1 (wrap64 (x5 + 1)))) else (none)) else (none)) else (some true)
def interchangeref04_Same.f (k : Nat) (l0 : List (S29)) (l1 : List (S29)) : Option (Bool) := if (l0.length : Int) = (l1.length : Int) then (interchangeref04_Same.l0 k l0 l1 0) else (some false)
theorem interchangeref04_Same.mono_l : ∀ k, (∀ y0 y1 y2, LeO (interchangeref04_Same.l0 k y0 y1 y2) (interchangeref04_Same.l0 (k + 1) y0 y1 y2))
  | 0 => fun _ _ _ r h => by simp [interchangeref04_Same.l0] at h
  | k + 1 => by
    have ih0 := interchangeref04_Same.mono_l k
    · intro y0 y1 y2
      unfold interchangeref04_Same.l0
      repeat' first
      | (with_reducible exact ih0 _ _ _)
      | (with_reducible exact LeO.refl _)
      | (with_reducible exact LeO.none _)
      | (with_reducible refine LeO.ite ?_ ?_)
      | (with_reducible refine LeO.bind ?_ (fun _ => ?_))
      | exact ih0 _ _ _
      | exact LeO.none _
      | refine LeO.ite ?_ ?_
      | refine LeO.bind ?_ (fun _ => ?_)
theorem interchangeref04_Same.mono : ∀ a0 a1 k, LeO (interchangeref04_Same.f k a0 a1) (interchangeref04_Same.f (k + 1) a0 a1) := by
  intro a0 a1 k
  have ih0 := interchangeref04_Same.mono_l k
  unfold interchangeref04_Same.f
  repeat' first
      | (with_reducible exact ih0 _ _ _)
      | (with_reducible exact LeO.refl _)
      | (with_reducible exact LeO.none _)
      | (with_reducible refine LeO.ite ?_ ?_)
      | (with_reducible refine LeO.bind ?_ (fun _ => ?_))
      | exact ih0 _ _ _
      | exact LeO.none _
      | refine LeO.ite ?_ ?_
      | refine LeO.bind ?_ (fun _ => ?_)
set_option maxHeartbeats 8000000 in
set_option maxRecDepth 100000 in
theorem interchangeref04_Same.calls (k : Nat) (A0 : Option Addr) (c0 : Nat) (l0 : List (S29)) (A1 : Option Addr) (c1 : Nat) (l1 : List (S29)) (r : Bool) (w : World) (hr0 : Kd.C k29 w A0 l0.length l0) (hc0 : l0.length ≤ c0) (hr1 : Kd.C k29 w A1 l1.length l1) (hc1 : l1.length ≤ c1) (h : interchangeref04_Same.f k l0 l1 = some r) :
    Calls Tryd.prog 17 #[.slice A0 l0.length c0, .slice A1 l1.length c1] w fun e w' => e = .returned (.bool r) ∧ Drawn0 w w' := by
  have hu29 := Tryd.underlying29
  have HR0 := Aside0.mk hr0
  have HC0 := Aside0.mk hc0
  clear hr0 hc0
  have HR1 := Aside0.mk hr1
  have HC1 := Aside0.mk hc1
  clear hr1 hc1
  have H : (if (l0.length : Int) = (l1.length : Int) then (interchangeref04_Same.l0 k l0 l1 0) else (some false)) = some r := h
  clear h
  by_cases c3 : (l0.length : Int) = (l1.length : Int)
  · rw [if_pos c3] at H
    have c3b0 : ((l0.length : Int) == (l1.length : Int)) = true := beq_iff_eq.mpr c3
    have c3b1 : ((l0.length : Int) != (l1.length : Int)) = false := bne_eq_false_iff_eq.mpr c3
    have c3b2 : (l0.length == l1.length) = true := by first | simpa using c3 | (simp at c3 ⊢; omega)
    clear c3
    have H' := Aside0.mk H
    clear H
    go_enter Tryd.func17, Tryd.ntmps17
    go_wp2
    repeat (go_quiet (fail); try go_wp2)
    go_loopg [5] k (fun kq v5 w' => ∃ (x5_1 : Int), v5 = .int .i64 x5_1 ∧ Aside0 (interchangeref04_Same.l0 kq l0 l1 x5_1 = some r) ∧ Aside0 (kq ≤ k) ∧ Drawn0 w w')
    case atStart => exact ⟨(0), (by first | rfl | (simp; done) | (simp [*]; done)), H', ⟨Nat.le_refl _⟩, by repeat (first | exact Drawn0.refl _ | apply Drawn0.step)⟩
    case round =>
      clear H'
      try clear c1
      try clear p2
      try clear c3
      try clear c3b0
      try clear c3b1
      try clear c3b2
      obtain ⟨x5_1, rfl, HA, HK1, ⟨m1, rfl⟩⟩ := hrel
      cases gk with
      | zero => exact absurd HA.out (by simp [interchangeref04_Same.l0])
      | succ k1 =>
        have H := HA.out
        clear HA
        simp only [interchangeref04_Same.l0] at H
        by_cases c4 : x5_1 < (l0.length : Int)
        · rw [if_pos c4] at H
          have c4b0 : decide (x5_1 < (l0.length : Int)) = true := decide_eq_true c4
          clear c4
          by_cases c5 : 0 ≤ x5_1
          · rw [if_pos c5] at H
            have c5b0 : decide (0 ≤ x5_1) = true := decide_eq_true c5
            clear c5
            by_cases c6 : x5_1 < (l1.length : Int)
            · rw [if_pos c6] at H
              have c6b0 : decide (x5_1 < (l1.length : Int)) = true := decide_eq_true c6
              clear c6
              by_cases c7 : (!(((rd_T29 l0 x5_1).f0) == ((rd_T29 l1 x5_1).f0)) || (!(((rd_T29 l0 x5_1).f1) == ((rd_T29 l1 x5_1).f1)) || (!((((rd_T29 l0 x5_1).f2).toList) == (((rd_T29 l1 x5_1).f2).toList))))) = true
              · rw [if_pos c7] at H
                have c7b0 : (!(((rd_T29 l0 x5_1).f0) == ((rd_T29 l1 x5_1).f0)) || (!(((rd_T29 l0 x5_1).f1) == ((rd_T29 l1 x5_1).f1)) || (!((((rd_T29 l0 x5_1).f2).toList) == (((rd_T29 l1 x5_1).f2).toList))))) = true := c7
                clear c7
                obtain rfl := Option.some.inj H
                have p187 : 0 ≤ (x5_1 : Int) := of_decide_eq_true (by first | (with_reducible assumption) | assumption)
                have q187 : x5_1 < (l0.length : Int) := of_decide_eq_true (by first | (with_reducible assumption) | assumption)
                obtain ⟨ad187, e187, hx187_0, hx187_1, hx187_2⟩ := at_T29 HR0.out x5_1 p187 q187
                cases e187
                replace p187 := eq_true p187
                replace q187 := eq_true q187
                have p188 : 0 ≤ (x5_1 : Int) := of_decide_eq_true (by first | (with_reducible assumption) | assumption)
                have q188 : x5_1 < (l1.length : Int) := of_decide_eq_true (by first | (with_reducible assumption) | assumption)
                obtain ⟨ad188, e188, hx188_0, hx188_1, hx188_2⟩ := at_T29 HR1.out x5_1 p188 q188
                cases e188
                replace p188 := eq_true p188
                replace q188 := eq_true q188
                go_wp2
                repeat (go_quiet (fail); try go_wp2)
                go_ret
                exact ⟨by first | rfl | (simp; done) | (simp [*]; done), by repeat (first | exact Drawn0.refl _ | apply Drawn0.step)⟩
              · rw [if_neg c7] at H
                have c7b0 : (!(((rd_T29 l0 x5_1).f0) == ((rd_T29 l1 x5_1).f0)) || (!(((rd_T29 l0 x5_1).f1) == ((rd_T29 l1 x5_1).f1)) || (!((((rd_T29 l0 x5_1).f2).toList) == (((rd_T29 l1 x5_1).f2).toList))))) = false := by simpa using c7
                clear c7
                have H' := Aside0.mk H
                clear H
                have p187 : 0 ≤ (x5_1 : Int) := of_decide_eq_true (by first | (with_reducible assumption) | assumption)
                have q187 : x5_1 < (l0.length : Int) := of_decide_eq_true (by first | (with_reducible assumption) | assumption)
                obtain ⟨ad187, e187, hx187_0, hx187_1, hx187_2⟩ := at_T29 HR0.out x5_1 p187 q187
                cases e187
                replace p187 := eq_true p187
                replace q187 := eq_true q187
                have p188 : 0 ≤ (x5_1 : Int) := of_decide_eq_true (by first | (with_reducible assumption) | assumption)
                have q188 : x5_1 < (l1.length : Int) := of_decide_eq_true (by first | (with_reducible assumption) | assumption)
                obtain ⟨ad188, e188, hx188_0, hx188_1, hx188_2⟩ := at_T29 HR1.out x5_1 p188 q188
                cases e188
                replace p188 := eq_true p188
                replace q188 := eq_true q188
                go_wp2
                repeat (go_quiet (fail); try go_wp2)
                go_roundg k1
                case measure => have := HK1.out; omega
                case rel => exact ⟨(wrap64 (x5_1 + 1)), (by first | rfl | (simp; done) | (simp [*]; done)), H', ⟨by have := HK1.out; omega⟩, by repeat (first | exact Drawn0.refl _ | apply Drawn0.step)⟩
            · rw [if_neg c6] at H
              exact absurd H (by simp)
          · rw [if_neg c5] at H
            exact absurd H (by simp)
        · rw [if_neg c4] at H
          have c4b0 : decide (x5_1 < (l0.length : Int)) = false := decide_eq_false c4
          clear c4
          obtain rfl := Option.some.inj H
          go_wp2
          repeat (go_quiet (fail); try go_wp2)
          go_ret
          exact ⟨by first | rfl | (simp; done) | (simp [*]; done), by repeat (first | exact Drawn0.refl _ | apply Drawn0.step)⟩
  · rw [if_neg c3] at H
    have c3b0 : ((l0.length : Int) == (l1.length : Int)) = false := beq_eq_false_iff_ne.mpr c3
    have c3b1 : ((l0.length : Int) != (l1.length : Int)) = true := bne_iff_ne.mpr c3
    have c3b2 : (l0.length == l1.length) = false := by first | simpa using c3 | (simp at c3 ⊢; omega)
    obtain rfl := Option.some.inj H
    go_enter Tryd.func17, Tryd.ntmps17
    go_wp2
    repeat (go_quiet (fail); try go_wp2)
    go_ret
    exact ⟨by first | rfl | (simp; done) | (simp [*]; done), by repeat (first | exact Drawn0.refl _ | apply Drawn0.step)⟩


end Go.Proofs.YtdalcbhnnfabhaaDoor.F
namespace Go.Proofs.YtdalcbhnnfabhaaDoor.F
open Go.RowKit Go.Proofs.YtdalcbhnnfabhaaDoorW.PrintWords Go.Proofs.YtdalcbhnnfabhaaDoorW.PrintLast Go.Proofs.YtdalcbhnnfabhaaDoorW.PrintMore
attribute [local go_sem] max2_int min2_int max_two min_two max_three min_three max_four min_four
set_option linter.unusedVariables false
set_option linter.unusedSimpArgs false

/-! ### interchangeref01_Take: function 31 -/
mutual
def interchangeref01_Take.j0 : Nat → ByteArray → Int → Bool → Option (Int × ByteArray × Int)
  | 0, _, _, _ => none
  | k + 1, x0, x1, x22 => if x22 = true then (some (0, (⟨#[]⟩ : ByteArray), 1)) else (if (x0.size : Int) < x1 then (some (0, (⟨#[]⟩ : ByteArray), 2)) else (interchangeref01_Take.l0 k x0 x1 0 0))
def interchangeref01_Take.l0 : Nat → ByteArray → Int → Int → Int → Option (Int × ByteArray × Int)
  | 0, _, _, _, _ => none
  | k + 1, x0, x1, x7, x8 => if x8 < x1 then (if 0 ≤ x8 then (if x8 < (x0.size : Int) then (interchangeref01_Take.l0 k x0 x1 (IntKind.u64.wrap ((IntKind.u64.wrap (256 * x7)) + (IntKind.u64.wrap (bt x0 x8)))) (wrap64 (x8 + 1))) else (none)) else (none)) else (if 0 ≤ x1 then (if x1 ≤ (x0.size : Int) then (some (x7, x0.extract (x1 : Int).toNat x0.size, 0)) else (none)) else (none))
end
def interchangeref01_Take.f (k : Nat) (a0 : ByteArray) (a1 : Int) : Option (Int × ByteArray × Int) := if a1 = 1 then (interchangeref01_Take.j0 k a0 a1 false) else (if a1 = 2 then (interchangeref01_Take.j0 k a0 a1 false) else (if a1 = 4 then (interchangeref01_Take.j0 k a0 a1 false) else (interchangeref01_Take.j0 k a0 a1 (a1 != 8))))
theorem interchangeref01_Take.mono_l : ∀ k, (∀ y0 y1 y2, LeO (interchangeref01_Take.j0 k y0 y1 y2) (interchangeref01_Take.j0 (k + 1) y0 y1 y2)) ∧ (∀ y0 y1 y2 y3, LeO (interchangeref01_Take.l0 k y0 y1 y2 y3) (interchangeref01_Take.l0 (k + 1) y0 y1 y2 y3))
  | 0 => ⟨fun _ _ _ r h => by simp [interchangeref01_Take.j0] at h, fun _ _ _ _ r h => by simp [interchangeref01_Take.l0] at h⟩
  | k + 1 => by
    obtain ⟨ih0, ih1⟩ := interchangeref01_Take.mono_l k
    refine ⟨?_, ?_⟩
    · intro y0 y1 y2
      unfold interchangeref01_Take.j0
      repeat' first
      | (with_reducible exact ih0 _ _ _)
      | (with_reducible exact ih1 _ _ _ _)
      | (with_reducible exact LeO.refl _)
      | (with_reducible exact LeO.none _)
      | (with_reducible refine LeO.ite ?_ ?_)
      | (with_reducible refine LeO.bind ?_ (fun _ => ?_))
      | exact ih0 _ _ _
      | exact ih1 _ _ _ _
      | exact LeO.none _
      | refine LeO.ite ?_ ?_
      | refine LeO.bind ?_ (fun _ => ?_)
    · intro y0 y1 y2 y3
      unfold interchangeref01_Take.l0
      repeat' first
      | (with_reducible exact ih0 _ _ _)
      | (with_reducible exact ih1 _ _ _ _)
      | (with_reducible exact LeO.refl _)
      | (with_reducible exact LeO.none _)
      | (with_reducible refine LeO.ite ?_ ?_)
      | (with_reducible refine LeO.bind ?_ (fun _ => ?_))
      | exact ih0 _ _ _
      | exact ih1 _ _ _ _
      | exact LeO.none _
      | refine LeO.ite ?_ ?_
      | refine LeO.bind ?_ (fun _ => ?_)
theorem interchangeref01_Take.mono : ∀ a0 a1 k, LeO (interchangeref01_Take.f k a0 a1) (interchangeref01_Take.f (k + 1) a0 a1) := by
  intro a0 a1 k
  obtain ⟨ih0, ih1⟩ := interchangeref01_Take.mono_l k
  unfold interchangeref01_Take.f
  repeat' first
      | (with_reducible exact ih0 _ _ _)
      | (with_reducible exact ih1 _ _ _ _)
      | (with_reducible exact LeO.refl _)
      | (with_reducible exact LeO.none _)
      | (with_reducible refine LeO.ite ?_ ?_)
      | (with_reducible refine LeO.bind ?_ (fun _ => ?_))
      | exact ih0 _ _ _
      | exact ih1 _ _ _ _
      | exact LeO.none _
      | refine LeO.ite ?_ ?_
      | refine LeO.bind ?_ (fun _ => ?_)
set_option maxHeartbeats 8000000 in
set_option maxRecDepth 100000 in
theorem interchangeref01_Take.calls (k : Nat) (a0 : ByteArray) (a1 : Int) (r1 : Int) (r2 : ByteArray) (r3 : Int) (w : World) (h : interchangeref01_Take.f k a0 a1 = some (r1, r2, r3)) :
    Calls Tryd.prog 31 #[.string a0, .int .i64 a1] w fun e w' => e = .returned (.tuple #[.int .u64 r1, .string r2, .int .i64 r3]) ∧ Drawn0 w w' := by
  have H : (if a1 = 1 then (interchangeref01_Take.j0 k a0 a1 false) else (if a1 = 2 then (interchangeref01_Take.j0 k a0 a1 false) else (if a1 = 4 then (interchangeref01_Take.j0 k a0 a1 false) else (interchangeref01_Take.j0 k a0 a1 (a1 != 8))))) = some (r1, r2, r3) := h
  clear h
  have HC3 := Aside0.mk H
  clear H
  go_enter Tryd.func31, Tryd.ntmps31
  go_upto_region 1 with (fail)
  repeat (go_quiet (fail); go_upto_region 1 with (fail))
  go_cut [22] (fun v22 wc => ∃ (kq : Nat) (x22_2 : Bool), v22 = .bool x22_2 ∧ Aside0 (interchangeref01_Take.j0 kq a0 a1 x22_2 = some (r1, r2, r3)) ∧ Aside0 (kq ≤ k) ∧ Drawn0 w wc)
  case first =>
    have H := HC3.out
    clear HC3
    by_cases c4 : a1 = 1
    · rw [if_pos c4] at H
      have c4b0 : (a1 == 1) = true := beq_iff_eq.mpr c4
      have c4b1 : (a1 != 1) = false := bne_eq_false_iff_eq.mpr c4
      clear c4
      (first | rw [c4b0] | (simp only [i64_w, i32_w]; rw [c4b0]) | skip)
      have H' := Aside0.mk H
      clear H
      go_wp2
      repeat (go_quiet (fail); try go_wp2)
      go_meet
      case rel => exact ⟨_, (false), (by first | rfl | (simp; done) | (simp [*]; done)), H', ⟨by first | omega | exact Nat.le_refl _⟩, by repeat (first | exact Drawn0.refl _ | apply Drawn0.step)⟩
    · rw [if_neg c4] at H
      have c4b0 : (a1 == 1) = false := beq_eq_false_iff_ne.mpr c4
      have c4b1 : (a1 != 1) = true := bne_iff_ne.mpr c4
      (first | rw [c4b0] | (simp only [i64_w, i32_w]; rw [c4b0]) | skip)
      by_cases c5 : a1 = 2
      · rw [if_pos c5] at H
        have c5b0 : (a1 == 2) = true := beq_iff_eq.mpr c5
        have c5b1 : (a1 != 2) = false := bne_eq_false_iff_eq.mpr c5
        clear c5
        have H' := Aside0.mk H
        clear H
        go_wp2
        repeat (go_quiet (fail); try go_wp2)
        go_meet
        case rel => exact ⟨_, (false), (by first | rfl | (simp; done) | (simp [*]; done)), H', ⟨by first | omega | exact Nat.le_refl _⟩, by repeat (first | exact Drawn0.refl _ | apply Drawn0.step)⟩
      · rw [if_neg c5] at H
        have c5b0 : (a1 == 2) = false := beq_eq_false_iff_ne.mpr c5
        have c5b1 : (a1 != 2) = true := bne_iff_ne.mpr c5
        by_cases c6 : a1 = 4
        · rw [if_pos c6] at H
          have c6b0 : (a1 == 4) = true := beq_iff_eq.mpr c6
          have c6b1 : (a1 != 4) = false := bne_eq_false_iff_eq.mpr c6
          clear c6
          have H' := Aside0.mk H
          clear H
          go_wp2
          repeat (go_quiet (fail); try go_wp2)
          go_meet
          case rel => exact ⟨_, (false), (by first | rfl | (simp; done) | (simp [*]; done)), H', ⟨by first | omega | exact Nat.le_refl _⟩, by repeat (first | exact Drawn0.refl _ | apply Drawn0.step)⟩
        · rw [if_neg c6] at H
          have c6b0 : (a1 == 4) = false := beq_eq_false_iff_ne.mpr c6
          have c6b1 : (a1 != 4) = true := bne_iff_ne.mpr c6
          have H' := Aside0.mk H
          clear H
          go_wp2
          repeat (go_quiet (fail); try go_wp2)
          go_meet
          case rel => exact ⟨_, ((a1 != 8)), (by first | rfl | (simp; done) | (simp [*]; done)), H', ⟨by first | omega | exact Nat.le_refl _⟩, by repeat (first | exact Drawn0.refl _ | apply Drawn0.step)⟩
  case rest =>
    clear HC3
    try clear p2
    try clear c3
    try clear c4
    try clear c4b0
    try clear c4b1
    try clear c5
    try clear c5b0
    try clear c5b1
    try clear c6
    try clear c6b0
    try clear c6b1
    obtain ⟨kq, x22_2, rfl, HA, HJ2, ⟨mc2, rfl⟩⟩ := hcut
    cases kq with
    | zero => exact absurd HA.out (by simp [interchangeref01_Take.j0])
    | succ kj2 =>
      have H := HA.out
      clear HA
      simp only [interchangeref01_Take.j0] at H
      by_cases c7 : x22_2 = true
      · subst c7
        have H1 : (some (0, (⟨#[]⟩ : ByteArray), 1)) = some (r1, r2, r3) := by rw [if_pos rfl] at H; exact H
        clear H
        have H := H1
        clear H1
        simp only [Option.some.injEq, Prod.mk.injEq] at H
        obtain ⟨rfl, rfl, rfl⟩ := H
        go_wp2
        repeat (go_quiet (fail); try go_wp2)
        go_ret3
        exact ⟨by first | rfl | (simp; done) | (simp [*]; done), by repeat (first | exact Drawn0.refl _ | apply Drawn0.step)⟩
      · replace c7 := Bool.eq_false_iff.mpr c7
        subst c7
        have H1 : (if (a0.size : Int) < a1 then (some (0, (⟨#[]⟩ : ByteArray), 2)) else (interchangeref01_Take.l0 kj2 a0 a1 0 0)) = some (r1, r2, r3) := by rw [if_neg (show ¬ (false = true) by decide)] at H; exact H
        clear H
        have H := H1
        clear H1
        by_cases c8 : (a0.size : Int) < a1
        · rw [if_pos c8] at H
          have c8b0 : decide ((a0.size : Int) < a1) = true := decide_eq_true c8
          clear c8
          simp only [Option.some.injEq, Prod.mk.injEq] at H
          obtain ⟨rfl, rfl, rfl⟩ := H
          go_wp2
          repeat (go_quiet (fail); try go_wp2)
          go_ret3
          exact ⟨by first | rfl | (simp; done) | (simp [*]; done), by repeat (first | exact Drawn0.refl _ | apply Drawn0.step)⟩
        · rw [if_neg c8] at H
          have c8b0 : decide ((a0.size : Int) < a1) = false := decide_eq_false c8
          clear c8
          have H' := Aside0.mk H
          clear H
          go_wp2
          repeat (go_quiet (fail); try go_wp2)
          go_loopg [7, 8] kj2 (fun kq v7 v8 w' => ∃ (x7_2 : Int) (x8_2 : Int), v7 = .int .u64 x7_2 ∧ v8 = .int .i64 x8_2 ∧ Aside0 (interchangeref01_Take.l0 kq a0 a1 x7_2 x8_2 = some (r1, r2, r3)) ∧ Aside0 (kq ≤ kj2) ∧ Drawn0 w w')
          case atStart => exact ⟨(0), (0), (by first | rfl | (simp; done) | (simp [*]; done)), (by first | rfl | (simp; done) | (simp [*]; done)), H', ⟨Nat.le_refl _⟩, by repeat (first | exact Drawn0.refl _ | apply Drawn0.step)⟩
          case round =>
            clear H'
            try clear c2
            try clear p2
            try clear c3
            try clear c4
            try clear c4b0
            try clear c4b1
            try clear c5
            try clear c5b0
            try clear c5b1
            try clear c6
            try clear c6b0
            try clear c6b1
            try clear c7
            try clear c8
            try clear c8b0
            try clear p2
            obtain ⟨x7_2, x8_2, rfl, rfl, HA, HK2, ⟨m2, rfl⟩⟩ := hrel
            cases gk with
            | zero => exact absurd HA.out (by simp [interchangeref01_Take.l0])
            | succ k2 =>
              have H := HA.out
              clear HA
              simp only [interchangeref01_Take.l0] at H
              by_cases c9 : x8_2 < a1
              · rw [if_pos c9] at H
                have c9b0 : decide (x8_2 < a1) = true := decide_eq_true c9
                clear c9
                by_cases c10 : 0 ≤ x8_2
                · rw [if_pos c10] at H
                  have c10b0 : decide (0 ≤ x8_2) = true := decide_eq_true c10
                  clear c10
                  by_cases c11 : x8_2 < (a0.size : Int)
                  · rw [if_pos c11] at H
                    have c11b0 : decide (x8_2 < (a0.size : Int)) = true := decide_eq_true c11
                    clear c11
                    have H' := Aside0.mk H
                    clear H
                    have p12 : 0 ≤ (x8_2 : Int) := of_decide_eq_true (by first | (with_reducible assumption) | assumption)
                    have q12 : x8_2 < (a0.size : Int) := of_decide_eq_true (by first | (with_reducible assumption) | assumption)
                    have hx12 := bt_at a0 x8_2
                    replace p12 := eq_true p12
                    replace q12 := eq_true q12
                    go_wp2
                    repeat (go_quiet (fail); try go_wp2)
                    go_roundg k2
                    case measure => have := HJ2.out; have := HK2.out; omega
                    case rel => exact ⟨(IntKind.u64.wrap ((IntKind.u64.wrap (256 * x7_2)) + (IntKind.u64.wrap (bt a0 x8_2)))), (wrap64 (x8_2 + 1)), (by first | rfl | (simp; done) | (simp [*]; done)), (by first | rfl | (simp; done) | (simp [*]; done)), H', ⟨by have := HJ2.out; have := HK2.out; omega⟩, by repeat (first | exact Drawn0.refl _ | apply Drawn0.step)⟩
                  · rw [if_neg c11] at H
                    exact absurd H (by simp)
                · rw [if_neg c10] at H
                  exact absurd H (by simp)
              · rw [if_neg c9] at H
                have c9b0 : decide (x8_2 < a1) = false := decide_eq_false c9
                clear c9
                by_cases c13 : 0 ≤ a1
                · rw [if_pos c13] at H
                  have c13b0 := eq_true c13
                  have c13b1 : decide (0 ≤ a1) = true := decide_eq_true c13
                  clear c13
                  by_cases c14 : a1 ≤ (a0.size : Int)
                  · rw [if_pos c14] at H
                    have c14b0 := eq_true c14
                    have c14b1 : decide (a1 ≤ (a0.size : Int)) = true := decide_eq_true c14
                    clear c14
                    simp only [Option.some.injEq, Prod.mk.injEq] at H
                    obtain ⟨rfl, rfl, rfl⟩ := H
                    go_wp2
                    repeat (go_quiet (fail); try go_wp2)
                    go_ret3
                    exact ⟨by first | rfl | (simp; done) | (simp [*]; done), by repeat (first | exact Drawn0.refl _ | apply Drawn0.step)⟩
                  · rw [if_neg c14] at H
                    exact absurd H (by simp)
                · rw [if_neg c13] at H
                  exact absurd H (by simp)


end Go.Proofs.YtdalcbhnnfabhaaDoor.F
