/- text.Cut's contract. -/
import Derived.Test.YtmpbhbbgnmkpgaaDoorFHcutiter
import Derived.Shelf.RegionOpen
import Derived.Maps.AppendAt
namespace Go.Proofs.YtmpbhbbgnmkpgaaDoor.F
open Go.RowKit Go.Proofs.YtmpbhbbgnmkpgaaDoorW.PrintWords Go.Proofs.YtmpbhbbgnmkpgaaDoorW.PrintLast Go.Proofs.YtmpbhbbgnmkpgaaDoorW.PrintMore
set_option linter.unusedVariables false
set_option linter.unusedSimpArgs false
attribute [local go_sem] Oper.semAt_some max2_int min2_int max_two min_two

/-- how long a piece may be -/
def cutM (n : Int) : Nat := if n < 1 then 1 else n.toNat
def text_Cut.f (a0 : ByteArray) (a1 : Int) : Option (List ByteArray) := if a0.size ≤ 4294967296 ∧ a1 ≤ 9223372036854775807 then some (cutR (cutM a1) a0) else none
theorem CJ.own {w0 : World} {n B m : Nat} (hn : n ≤ w0.heap.size) (hB : n ≤ B) {tot : List ByteArray} {big : Nat} : OwnFrom B (CJ w0 n m tot big) :=
  fun x W W' row h hg hr => ⟨CHeld.own hn hB (fun x : List ByteArray × ByteArray => x.1) (fun x => x.2) x W W' row h.1 hg hr, h.2⟩
theorem CJ2.own {w0 : World} {n B m : Nat} (hn : n ≤ w0.heap.size) (hB : n ≤ B) {tot : List ByteArray} {big : Nat} : OwnFrom B (CJ2 w0 n m tot big) :=
  fun x W W' row h hg hr => ⟨CHeld.own hn hB (fun x : List ByteArray × ByteArray => x.1 ++ [pieceAt m x.2]) (fun x => x.2) x W W' row h.1 hg hr, h.2⟩
theorem CE.own {w0 : World} {n B : Nat} (hn : n ≤ w0.heap.size) (hB : n ≤ B) {tot : List ByteArray} : OwnFrom B (fun (_ : Unit) W => CE w0 n tot W) := by
  rintro x W W' row ⟨⟨v, h3, h4⟩, h5⟩ hg hr
  have hr' : ∀ r, row = some r → ∃ o : Obj, W.heap[r]? = some o ∧ o.isCells = false := fun r e => (hr r e).2
  exact ⟨⟨v, boxed_other h3 hg hr', row_other h4 hg hr'⟩, ownFrom_below (β := Unit) hn hB x W W' row h5 hg hr⟩
/-- behind the assignment -/
def CJ1 (w0 : World) (n : Nat) (m : Nat) (tot : List ByteArray) (big : Nat) (tm : Value → Array Value) (x : (List ByteArray × ByteArray) × Act) (W : World) : Prop :=
  x.2 = { tmps := tm ((cencs m x.1).getD 0 undef), defers := [] } ∧ CJ w0 n m tot big x.1 W
theorem CJ1.own {w0 : World} {n B m : Nat} (hn : n ≤ w0.heap.size) (hB : n ≤ B) {tot : List ByteArray} {big : Nat} {tm : Value → Array Value} : OwnFrom B (CJ1 w0 n m tot big tm) :=
  fun x W W' row h hg hr => ⟨h.1, CJ.own hn hB x.1 W W' row h.2 hg hr⟩
set_option maxHeartbeats 4000000 in
set_option maxRecDepth 100000 in
theorem text_Cut.calls (a0 : ByteArray) (a1 : Int) (r : List ByteArray) (w : World) (h : text_Cut.f a0 a1 = some r) :
    Calls Tryd.prog 14 #[.string a0, .int .i64 a1] w fun e w' => ∃ v0_ : Value, e = .returned v0_ ∧ Kd.R Kd.string 9 w' w.heap.size (fun _ => True) v0_ r ∧ Below w.heap.size w w' := by
  have hz : a0.size ≤ 4294967296 ∧ a1 ≤ 9223372036854775807 := by
    unfold text_Cut.f at h
    split at h
    · assumption
    · cases h
  have hs : cutR (cutM a1) a0 = r := by
    unfold text_Cut.f at h
    rw [if_pos hz] at h
    exact Option.some.inj h
  clear h
  obtain ⟨m, hm⟩ : ∃ m, cutM a1 = m := ⟨_, rfl⟩
  have hm1 : 1 ≤ m := by rw [← hm]; unfold cutM; split <;> omega
  have hm2 : m ≤ 9223372036854775807 := by rw [← hm]; unfold cutM; split <;> omega
  have hmx : (if a1 < 1 then 1 else a1) = (m : Int) := by rw [← hm]; unfold cutM; split <;> omega
  rw [hm] at hs
  clear hm
  replace hs := Aside0.mk hs
  replace hz := Aside0.mk hz
  replace hm1 := Aside0.mk hm1
  replace hm2 := Aside0.mk hm2
  refine (callsIn_wide (n := 4)).1 ?_
  refine callsIn_of_wp_marks Tryd.func14 rfl trivial ?_ rfl
  simp only [Tryd.ntmps14, List.size_toArray, List.length_cons, List.length_nil, Nat.reduceAdd, Nat.reduceSub, Array.replicate_succ, Array.replicate_zero, List.push_toArray, List.append_toArray, List.nil_append, List.cons_append]
  gi_wp2_with (refine ⟨trivial, ?_⟩; gi_at_call 31; refine (callsIn_wide.2 (pieces_calls _ _ _)).mono ?_; rintro e w' ⟨rfl, rfl⟩)
  clear hmx
  have hn3 : ∀ (o1 o2 o3 : Obj), (((w.alloc o1).alloc o2).alloc o3).heap.size = w.heap.size + 3 := by intros; simp
  have hF0 : CHeld w w.heap.size m [] a0 (((w.alloc (.cells #[.slice none 0 0] 28)).alloc (.cells #[.string a0] 9)).alloc (.cells #[.int .i64 m] 3)) := by
    refine ⟨(boxed_at _ _ _ _ (by simp)).alloc _, boxed_at _ _ _ _ (by simp), ⟨.slice none 0 0, ((Boxed.new w _ _).alloc _).alloc _, ⟨rfl, .inl ⟨rfl, rfl⟩⟩⟩, ?_⟩
    exact (((Below.refl _ w).alloc (Nat.le_refl _) _).alloc (by simp) _).alloc (by simp; omega) _
  refine wpIn_rangeFunc_shared rfl (by decide) (gf := 39) (lb := #[.pointer (some ⟨w.heap.size + 1, 0, none⟩), .pointer (some ⟨w.heap.size + 2, 0, none⟩)]) rfl trivial (enters_of Tryd.func39 (by kernel_rfl) rfl)
    (cencs m) (fun _ => rfl) (CJ w w.heap.size m (cutR m a0) a0.size)
    (CJ1 w w.heap.size m (cutR m a0) a0.size fun x => #[.string a0, .int .i64 a1, undef, undef, .slice none 0 0, .pointer (some ⟨w.heap.size, 0, none⟩), x, .string a0, .int .i64 a1, .int .i64 m,
      .func (.func 39) #[] #[.pointer (some ⟨w.heap.size + 1, 0, none⟩), .pointer (some ⟨w.heap.size + 1 + 1, 0, none⟩)], x, undef, undef, undef, undef, undef])
    (CJ2 w w.heap.size m (cutR m a0) a0.size) (fun _ _ _ => False) (fun _ W => CE w w.heap.size (cutR m a0) W)
    (CJ1.own (Nat.le_refl _) (by rw [hn3]; omega)) (CJ2.own (Nat.le_refl _) (by rw [hn3]; omega)) (fun _ _ _ _ _ hs _ _ => hs) (CE.own (Nat.le_refl _) (by rw [hn3]; omega)) ?seq ?assign ?body ?done ?stop
  case stop =>
    rintro D c s W _ h _
    exact h.elim
  case seq =>
    rintro l B X o1 o2 W1 hW1 _ hB h1 hY
    have hF1 : CHeld w w.heap.size m [] a0 W1 := by
      rw [← hW1]
      exact hF0.below (((Below.refl _ _).alloc (Nat.le_refl _) _).alloc (by simp) _)
    exact pieces_iter 2 w w.heap.size rfl m hm1.out hm2.out (cutR m a0) a0.size (Nat.le_trans hz.out.1 (by decide)) l _ (by rw [hn3]; omega) B X W1 hB h1 hY a0 hF1 rfl (Nat.le_refl _)
  case assign =>
    rintro l s W K hlt hJ hK
    unfold cencs
    gi_wp2
    apply hK
    · exact (KeepsOthers.refl _).from _
    · exact ⟨by simp [cencs], hJ⟩
  case done =>
    rintro D W hD ⟨⟨v, e3, e4⟩, e5⟩ hK
    have c3 := e3.cell
    gi_wp2
    rw [hn3] at hD
    refine ⟨by simp, .inl ⟨_, _, rfl, run_takeDeferred hK, ?_⟩⟩
    have hR := row_other e4 (grownBy_putObj' W D (.deferred none)) (fun r e => by cases e; exact ⟨_, hK, rfl⟩)
    have hBd := e5.trans (belowK_b (w := w) (Nat.le_refl _) W D _ (.deferred none) (by omega) hK rfl rfl)
    rw [hs.out] at hR
    exact ⟨_, results_tmp rfl _ _ _, v, rfl, row_strs (row_lower hR (by omega)), hBd⟩
  case body =>
    rintro l s a' W hlt ⟨ha', hJ⟩
    obtain ⟨⟨h1, h2, ⟨v, h6, hrow0⟩, h8⟩, hJ'⟩ := hJ
    have hrow : W.ownsRow (w.heap.size + 3) 9 1 v s.1.length (s.1.map Value.string) := hrow0
    clear hrow0
    dsimp only at ha'
    subst ha'
    have hv := h6.cell
    have hvf := h6.frozen
    obtain ⟨i0, hi, hz0, hz1, hz2⟩ := info_parts info9
    have hle : w.heap.size ≤ W.heap.size := h8.size
    have hle3 : w.heap.size + 3 ≤ W.heap.size := h2.lt
    have hlen : s.1.length ≤ 4294967296 := Nat.le_trans (Nat.le_trans (Nat.le_add_right _ _) hJ'.2.2) hz.out.1
    replace hJ' := Aside0.mk hJ'
    simp only [cencs, Array.getD, List.getElem_toArray]
    gi_wp2_with (gi_at_builtin; refine wpListIn_append_own _ rfl _ _ 28 rfl (w.heap.size + 3) 9 i0 _ 1 16 Tryd.underlying28 hi hz0 hz1 hz2 rfl (by decide) _ _ _ rfl (hrow.alloc _) ⟨W.heap.size, 0, none⟩ 1 1 [.string (pieceAt m s.2)] rfl rfl (cell_one_new _ _ _) (by simp [Value.oneCell']) (by show _ ≤ 9223372036854775807; omega) (by omega) (by simp; omega) ?_; intro v' w1 hown' hgrow _; obtain ⟨g', cap', rfl⟩ := ownsRow_succ hown'; obtain ⟨hv1, hv2, hr2, hk2, hb2⟩ := h6.appended (by decide) (row_lower hrow (by omega : w.heap.size ≤ w.heap.size + 3)) hle (by omega) (row_lower hown' (by omega)) hgrow; have hc1 := hv1.cell; have hf1 := hv1.frozen)
    have kp : ∀ {B : Nat} {t : TypeId} {u : Value}, Boxed W B t u → B < w.heap.size + 3 → some B ≠ some w.heap.size → Boxed (w1.setCell ⟨w.heap.size, 0, none⟩ (.slice (some ⟨g', 0, none⟩) (s.1.length + 1) cap')) B t u :=
      fun h ht hne => ((h.alloc _).kept hgrow (row_ne hrow ht)).kept (grownBy_setCell' w1 _ _) hne
    refine ⟨hk2.from _, ⟨⟨kp h1 (by omega) (by simp), kp h2 (by omega) (by simp), ⟨_, hv2, ?_⟩, h8.trans hb2⟩, hJ'.out⟩⟩
    have := hown'.kept (grownBy_setCell' w1 w.heap.size (.slice (some ⟨g', 0, none⟩) (s.1.length + 1) cap')) (.inr (row_ne hown' (by omega)).symm)
    rw [List.length_append, List.length_singleton, List.map_append]
    exact this
end Go.Proofs.YtmpbhbbgnmkpgaaDoor.F
