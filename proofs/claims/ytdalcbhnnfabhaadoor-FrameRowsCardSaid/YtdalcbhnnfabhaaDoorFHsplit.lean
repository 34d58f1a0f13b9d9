/- frame.Split's contract. -/
import Derived.Test.YtdalcbhnnfabhaaDoorFHframesiter
import Derived.Shelf.RegionOpen
import Derived.Maps.AppendAt
namespace Go.Proofs.YtdalcbhnnfabhaaDoor.F
open Go.RowKit Go.Proofs.YtdalcbhnnfabhaaDoorW.PrintWords Go.Proofs.YtdalcbhnnfabhaaDoorW.PrintLast Go.Proofs.YtdalcbhnnfabhaaDoorW.PrintMore
set_option linter.unusedVariables false
set_option linter.unusedSimpArgs false
attribute [local go_sem] Oper.semAt_some

def frame_Split.f (a0 : ByteArray) (a1 : Int) : Option (List S29 × ByteArray × Int) := if a0.size ≤ 4611686018427387904 ∧ (splitR (mostN a1) a0).1.length ≤ 4398046511104 then some (splitR (mostN a1) a0) else none
theorem cell_three_new (w : World) (x y z : Value) (t : TypeId) : ∀ j u, [x, y, z][j]? = some u → (w.alloc (.cells #[x, y, z] t)).cell? ((⟨w.heap.size, 0, none⟩ : Addr).add j) = some u := by
  intro j u hj
  match j, hj with
  | 0, hj => simp at hj; subst hj; simp [Addr.add]
  | 1, hj => simp at hj; subst hj; simp [Addr.add]
  | 2, hj => simp at hj; subst hj; simp [Addr.add]
abbrev fEnd (n : Nat) : Value := .func (.func 28) #[] #[.pointer (some ⟨n, 0, none⟩), .pointer (some ⟨n + 1, 0, none⟩)]
/-- behind the assignment: the round's frame lies in a block of its own -/
def FJ1 (w0 : World) (n : Nat) (most : Int) (tot : Splitted) (big : Nat) (tm : Nat → Value → Array Value) (x : (List S29 × ByteArray) × Act) (W : World) : Prop :=
  ∃ Bx, n + 6 ≤ Bx ∧ x.2 = { tmps := tm Bx ((fencs most x.1).getD 0 undef), defers := [] } ∧
    W.heap[Bx]? = some (.cells #[.int .i64 (takeL (mostN most) x.1.2.data.toList).1, .int .i64 (takeL (mostN most) x.1.2.data.toList).2.1, .string (takeL (mostN most) x.1.2.data.toList).2.2.1] 29 (0, 0)) ∧ FJ w0 n (fEnd n) most tot big x.1 W
theorem FJ.own {w0 : World} {n B : Nat} (hn : n ≤ w0.heap.size) (hB : n ≤ B) {endv : Value} {most : Int} {tot : Splitted} {big : Nat} : OwnFrom B (FJ w0 n endv most tot big) :=
  fun x W W' row h hg hr => ⟨FHeld.own hn hB (fun x : List S29 × ByteArray => x.1) (fun x => x.2) x W W' row h.1 hg hr, h.2⟩
theorem FJ2.own {w0 : World} {n B : Nat} (hn : n ≤ w0.heap.size) (hB : n ≤ B) {endv : Value} {most : Int} {tot : Splitted} {big : Nat} : OwnFrom B (FJ2 w0 n endv most tot big) :=
  fun x W W' row h hg hr => ⟨FHeld.own hn hB (fun x : List S29 × ByteArray => x.1 ++ [toF (takeL (mostN most) x.2.data.toList)]) (fun x => x.2) x W W' row h.1 hg hr, h.2⟩
theorem FJ1.own {w0 : World} {n B : Nat} (hn : n ≤ w0.heap.size) (hB : n ≤ B) {most : Int} {tot : Splitted} {big : Nat} {tm : Nat → Value → Array Value} : OwnFrom B (FJ1 w0 n most tot big tm) := by
  rintro x W W' row ⟨Bx, h1, h2, h3, h4⟩ hg hr
  refine ⟨Bx, h1, h2, (hg.block Bx (Array.getElem?_eq_some_iff.1 h3).1 fun e => ?_).trans h3, FJ.own hn hB x.1 W W' row h4 hg hr⟩
  obtain ⟨_, o, ho, hc⟩ := hr Bx e.symm
  rw [h3] at ho; cases ho; cases hc
theorem FE.own {w0 : World} {n B : Nat} (hn : n ≤ w0.heap.size) (hB : n ≤ B) {tot : Splitted} : OwnFrom B (fun (_ : Unit) W => FE w0 n tot W) := by
  rintro x W W' row ⟨h1, h2, ⟨v, h3, h4⟩, h5⟩ hg hr
  have hr' : ∀ r, row = some r → ∃ o : Obj, W.heap[r]? = some o ∧ o.isCells = false := fun r e => (hr r e).2
  exact ⟨boxed_other h1 hg hr', boxed_other h2 hg hr', ⟨v, boxed_other h3 hg hr', R_other h4 hg hr'⟩, ownFrom_below (β := Unit) hn hB x W W' row h5 hg hr⟩
set_option maxHeartbeats 4000000 in
set_option maxRecDepth 100000 in
theorem frame_Split.calls (a0 : ByteArray) (a1 : Int) (r1 : List S29) (r2 : ByteArray) (r3 : Int) (w : World) (hg : Laid w) (h : frame_Split.f a0 a1 = some (r1, r2, r3)) :
    Calls Tryd.prog 16 #[.string a0, .int .i64 a1] w fun e w' => ∃ v0_ : Value, e = .returned (.tuple #[v0_, .string r2, .int .i64 r3]) ∧ Kd.R k29 29 w' w.heap.size (fun _ => True) v0_ r1 ∧ Below w.heap.size w w' := by
  have hz : a0.size ≤ 4611686018427387904 ∧ (splitR (mostN a1) a0).1.length ≤ 4398046511104 := by
    unfold frame_Split.f at h
    split at h
    · assumption
    · cases h
  have hs : splitR (mostN a1) a0 = (r1, r2, r3) := by
    unfold frame_Split.f at h
    rw [if_pos hz] at h
    exact Option.some.inj h
  clear h
  replace hs := Aside0.mk hs
  replace hz := Aside0.mk hz
  refine (callsIn_wide (n := 4)).1 ?_
  refine callsIn_of_wp_marks Tryd.func16 rfl trivial ?_ rfl
  simp only [Tryd.ntmps16, List.size_toArray, List.length_cons, List.length_nil, Nat.reduceAdd, Nat.reduceSub, Array.replicate_succ, Array.replicate_zero, List.push_toArray, List.append_toArray, List.nil_append, List.cons_append]
  gi_wp2_with (refine ⟨trivial, ?_⟩; gi_at_call 29; refine (callsIn_wide.2 (frames_calls _ _ _ _ _ _)).mono ?_; rintro e w' ⟨rfl, rfl⟩)
  have hn6 : ∀ (o1 o2 o3 o4 o5 o6 : Obj), ((((((w.alloc o1).alloc o2).alloc o3).alloc o4).alloc o5).alloc o6).heap.size = w.heap.size + 6 := by intros; simp
  have hF0 : FHeld w w.heap.size (fEnd w.heap.size) a1 [] a0 ((((((w.alloc (.cells #[.string ⟨#[]⟩] 9)).alloc (.cells #[.int .i64 0] 24)).alloc (.cells #[.slice none 0 0] 36)).alloc (.cells #[.string a0] 9)).alloc (.cells #[.int .i64 a1] 3)).alloc (.cells #[fEnd w.heap.size] 57)) := by
    have nw : ∀ (W : World) (m : Nat) (t : TypeId) (v : Value), W.heap.size = m → Boxed (W.alloc (.cells #[v] t)) m t v := fun W m t v e => e ▸ Boxed.new W t v
    refine ⟨((nw _ _ _ _ (by simp)).alloc _).alloc _, (nw _ _ _ _ (by simp)).alloc _, nw _ _ _ _ (by simp), ((((Boxed.new w _ _).alloc _).alloc _).alloc _).alloc _ |>.alloc _, ((((nw _ _ _ _ (by simp)).alloc _).alloc _).alloc _).alloc _, ⟨.slice none 0 0, (((nw _ _ _ _ (by simp)).alloc _).alloc _).alloc _, Kd.R_nil _ _ _ _ _⟩, ?_⟩
    exact ((((((Below.refl _ w).alloc (Nat.le_refl _) _).alloc (by simp) _).alloc (by simp; omega) _).alloc (by simp; omega) _).alloc (by simp; omega) _).alloc (by simp; omega) _
  refine wpIn_rangeFunc_shared rfl (by decide) (gf := 34) (lb := #[.pointer (some ⟨w.heap.size + 3, 0, none⟩), .pointer (some ⟨w.heap.size + 4, 0, none⟩), .pointer (some ⟨w.heap.size + 5, 0, none⟩)]) rfl trivial (enters_of Tryd.func34 (by kernel_rfl) rfl)
    (fencs a1) (fun _ => rfl) (FJ w w.heap.size (fEnd w.heap.size) a1 (splitR (mostN a1) a0) a0.size)
    (FJ1 w w.heap.size a1 (splitR (mostN a1) a0) a0.size fun Bx x => #[.string a0, .int .i64 a1, undef, undef, .slice none 0 0, .string ⟨#[]⟩, .int .i64 0, .pointer (some ⟨w.heap.size, 0, none⟩), .pointer (some ⟨w.heap.size + 1, 0, none⟩), fEnd w.heap.size,
      .pointer (some ⟨w.heap.size + 1 + 1, 0, none⟩), .pointer (some ⟨Bx, 0, none⟩), fEnd w.heap.size, .string a0, .int .i64 a1, fEnd w.heap.size,
      .func (.func 34) #[] #[.pointer (some ⟨w.heap.size + 1 + 1 + 1, 0, none⟩), .pointer (some ⟨w.heap.size + 1 + 1 + 1 + 1, 0, none⟩), .pointer (some ⟨w.heap.size + 1 + 1 + 1 + 2, 0, none⟩)], x, undef, undef, undef, undef, undef, undef, undef])
    (FJ2 w w.heap.size (fEnd w.heap.size) a1 (splitR (mostN a1) a0) a0.size) (fun _ _ _ => False) (fun _ W => FE w w.heap.size (splitR (mostN a1) a0) W)
    (FJ1.own (Nat.le_refl _) (by rw [hn6]; omega)) (FJ2.own (Nat.le_refl _) (by rw [hn6]; omega)) (fun _ _ _ _ _ hs _ _ => hs) (FE.own (Nat.le_refl _) (by rw [hn6]; omega)) ?seq ?assign ?body ?done ?stop
  case stop =>
    rintro D c s W _ h _
    exact h.elim
  case seq =>
    rintro l B X o1 o2 W1 hW1 _ hB h1 hY
    have hF1 : FHeld w w.heap.size (fEnd w.heap.size) a1 [] a0 W1 := by
      rw [← hW1]
      exact hF0.below (((Below.refl _ _).alloc (Nat.le_refl _) _).alloc (by simp) _)
    exact frames_iter 2 w hg w.heap.size rfl a1 (splitR (mostN a1) a0) a0.size hz.out.1 l _ (by rw [hn6]; omega) B X W1 hB h1 hY a0 hF1 rfl (Nat.le_refl _)
  case assign =>
    rintro l s W K hlt hJ hK
    rw [hn6] at hlt
    unfold fencs
    gi_wp2
    apply hK
    · exact (KeepsOthers.alloc _ _).from _
    · exact ⟨W.heap.size, by omega, by simp [fencs], World.alloc_heap_new W _, hJ.1.below ((Below.refl _ _).alloc (Nat.le_refl _) _), hJ.2⟩
  case done =>
    rintro D W hD ⟨e1, e2, ⟨v, e3, e4⟩, e5⟩ hK
    have c1 := e1.cell
    have c2 := e2.cell
    have c3 := e3.cell
    have c3' : W.cell? ⟨w.heap.size + 1 + 1, 0, none⟩ = some v := c3
    have hmx : Tryd.prog.follows .mixedOrders = true := by kernel_rfl
    gi_wp2
    gi_region_o
    gi_wp2
    have hKd : W.drew.heap[D]? = some (.deferred (some [])) := hK
    rw [hn6] at hD
    refine ⟨by simp, .inl ⟨_, _, rfl, run_takeDeferred hKd, ?_⟩⟩
    have hR := R_other (Kd.R_drew e4) (grownBy_putObj' W.drew D (.deferred none)) (fun r e => by cases e; exact ⟨_, hKd, rfl⟩)
    have hBd := (below_drew e5).trans (belowK_b (w := w) (Nat.le_refl _) W.drew D _ (.deferred none) (by omega) hKd rfl rfl)
    rw [hs.out] at hR e1 e2 ⊢
    refine ⟨_, by simp [results], v, rfl, hR, hBd⟩
  case body =>
    rintro l s a' W hlt ⟨Bx, hBx, ha', hcx, hJ⟩
    obtain ⟨⟨h1, h2, h3, h4, h5, ⟨v, h6, h7⟩, h8⟩, hJ'⟩ := hJ
    dsimp only at ha'
    subst ha'
    obtain ⟨_, inner, hrow0, hreps⟩ := h7
    have hrow : W.ownsRow w.heap.size 29 3 v s.1.length inner := hrow0
    have hv := h6.cell
    have hvf := h6.frozen
    have hv' : W.cell? ⟨w.heap.size + 1 + 1, 0, none⟩ = some v := hv
    have hvf' : W.frozen? ⟨w.heap.size + 1 + 1, 0, none⟩ = false := hvf
    have x0 := (blk_cell hcx 0).trans rfl
    have x1 := (blk_cell hcx 1).trans rfl
    have x2 := (blk_cell hcx 2).trans rfl
    obtain ⟨i0, hi, hz0, hz1, hz2⟩ := info_parts info29
    have hle : w.heap.size ≤ W.heap.size := h8.size
    have hlen : s.1.length + 1 ≤ 4398046511104 := by
      have h9 : (splitR (mostN a1) a0).1.length = (s.1 ++ (splitR (mostN a1) s.2).1).length := by rw [hJ'.2.1]
      rw [splitR_eq (mostN a1) s.2, if_pos hJ'.1, List.length_append, List.length_cons] at h9
      have := hz.out.2
      omega
    replace hJ' := Aside0.mk hJ'
    simp only [fencs, Array.getD, List.getElem_toArray]
    gi_wp2_with (gi_at_builtin; refine wpListIn_append_own _ rfl _ _ 36 rfl w.heap.size 29 i0 _ 3 32 Tryd.underlying36 hi hz0 hz1 hz2 rfl (by decide) _ _ _ rfl (hrow.alloc _) ⟨W.heap.size, 0, none⟩ 1 1 [.int .i64 (takeL (mostN a1) s.2.data.toList).1, .int .i64 (takeL (mostN a1) s.2.data.toList).2.1, .string (takeL (mostN a1) s.2.data.toList).2.2.1] rfl rfl (cell_three_new _ _ _ _ _) (by simp [Value.oneCell']) (by show _ ≤ 9223372036854775807; omega) (by omega) (by simp; omega) ?_; intro v' w1 hown' hgrow _; obtain ⟨g', cap', rfl⟩ := ownsRow_succ hown'; obtain ⟨hv1, hv2, hr2, hk2, hb2⟩ := h6.appended (by decide) hrow hle (by omega) hown' hgrow; have hc1 : w1.cell? ⟨w.heap.size + 1 + 1, 0, none⟩ = some v := hv1.cell; have hf1 : w1.frozen? ⟨w.heap.size + 1 + 1, 0, none⟩ = false := hv1.frozen)
    have kp : ∀ {B : Nat} {t : TypeId} {u : Value}, Boxed W B t u → t ≠ 29 → some B ≠ some (w.heap.size + 2) → Boxed (w1.setCell ⟨w.heap.size + 2, 0, none⟩ (.slice (some ⟨g', 0, none⟩) (s.1.length + 1) cap')) B t u :=
      fun h ht hne => ((h.alloc _).kept hgrow (h.not_row ht hrow)).kept (grownBy_setCell' w1 _ _) hne
    refine ⟨hk2.from _, ⟨⟨kp h1 (by decide) (by simp), kp h2 (by decide) (by simp), kp h3 (by decide) (by simp), kp h4 (by decide) (by simp), kp h5 (by decide) (by simp), ⟨_, hv2, ?_⟩, h8.trans hb2⟩, hJ'.out⟩⟩
    refine ⟨fun _ _ => trivial, _, by rw [List.length_append]; exact hr2, (hreps.imp_ (fun _ c hq => by rw [k29_openM hq]; exact k29_mkM _ _ _ _)).snoc (k29_mkM _ _ _ (toF (takeL (mostN a1) s.2.data.toList))) rfl⟩
end Go.Proofs.YtdalcbhnnfabhaaDoor.F
