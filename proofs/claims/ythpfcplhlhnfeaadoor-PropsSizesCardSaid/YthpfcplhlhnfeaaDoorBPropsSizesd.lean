/- Texts of this session for the law PropsSizes, one behind the other: Hget, Htail, propsBytes1, Hpbytes, Hopen, Hels, interchangelaw07shown, P07, Hrow4. -/
import Derived.Deep.RegionHeld3
import Derived.Test.YthpfcplhlhnfeaaDoorRows
import Derived.SizedLaws
import Derived.ProofKit
import Derived.OpenShut
import Derived.Deep.Slices
import Derived.Test.YthpfcplhlhnfeaaDoorBPropsSizesa
import Derived.Test.YthpfcplhlhnfeaaDoorBPropsSizesb
import Derived.Test.YthpfcplhlhnfeaaDoorBPropsSizesc
namespace Go.Proofs.YthpfcplhlhnfeaaDoor.F
open Go.RowKit Go.Proofs.YthpfcplhlhnfeaaDoorW.PrintWords Go.Proofs.YthpfcplhlhnfeaaDoorW.PrintLast Go.Proofs.YthpfcplhlhnfeaaDoorW.PrintMore
set_option linter.unusedVariables false
set_option linter.unusedSimpArgs false
set_option maxRecDepth 4000
attribute [local go_sem] Oper.semAt_some
theorem results_sb {P : Program} {fn : Func} {p q : Tmp} {ty ty2 : TypeId} {d2 : TypeDesc} {u : Value} (h : fn.results = #[.cell p ty, .cell q ty2]) (tmps : Array Value) (w : World) (g : Nat) (t : TypeId) (cs : Array Value) (fr : Nat × Nat) (d : TypeDesc) (b : Addr)
    (hp : tmps.getD p undef = .pointer (some ⟨g, 0, none⟩)) (hg : w.heap[g]? = some (.cells cs t fr)) (hu : P.underlying ty = some d) (hd : (match d with | .struct _ | .array _ _ => true | _ => false) = true) (hi : (P.info? ty).map (·.size) = some cs.size)
    (hq : tmps.getD q undef = .pointer (some b)) (hu2 : P.underlying ty2 = some d2) (hd2 : (match d2 with | .struct _ | .array _ _ => true | _ => false) = false) (hc2 : w.cell? b = some u) : (results fn tmps).run P w = .ok (.tuple #[.agg cs, u]) w := by
  have h1 : tmps[p]?.getD undef = .pointer (some ⟨g, 0, none⟩) := by simpa using hp
  have h2 : tmps[q]?.getD undef = .pointer (some b) := by simpa using hq
  have hb : (isAgg ty2).run P w = .ok false w := by cases d2 <;> simp_all [isAgg, run_underlying hu2]
  have hl : (loadVar ty2 b).run P w = .ok u w := by simp [loadVar, hb, go_sem, hc2]
  simp [results, h, h1, h2, asAddr, run_loadVar_row w g t ty cs fr d hg hu hd hi, hl]
/-- the property's value, of the ones in a list, from the n-th value on -/
def getGo (l : List S42) (i : Int) : List Nat → Nat → Int × ByteArray × Bool
  | [], _ => (0, ⟨#[]⟩, false)
  | k :: ks, n => if (k : Int) = i then ((l.getD n z42).f0, (l.getD n z42).f1, true) else getGo l i ks (n + 1)
theorem getGo_app (l : List S42) (i : Int) : ∀ (pre rest : List Nat) (n : Nat), (∀ k ∈ pre, ¬ (k : Int) = i) → getGo l i (pre ++ rest) n = getGo l i rest (n + pre.length)
  | [], rest, n, _ => rfl
  | k :: pre, rest, n, h => by
    rw [List.cons_append, getGo, if_neg (h k (List.mem_cons_self ..)), getGo_app l i pre rest (n + 1) fun q hq => h q (List.mem_cons_of_mem _ hq), List.length_cons, show n + 1 + pre.length = n + (pre.length + 1) by omega]
def getR (a b fl : Int) (l : List S42) (i : Int) : Int × ByteArray × Bool := if RightR a b fl l = 0 then getGo l i (whichF fl 0) 0 else (0, ⟨#[]⟩, false)
def props_Get.f (a b fl : Int) (l : List S42) (i : Int) : Option (Int × ByteArray × Bool) := if okH b fl l then some (getR a b fl l i) else none
theorem right_form {a b fl : Int} {l : List S42} (h : RightR a b fl l = 0) : FormR a fl l ∧ ¬ 65536 < b ∧ valuesR fl l = 0 := by
  unfold RightR at h
  by_cases e : FormR a fl l
  · rw [if_pos e] at h
    by_cases e2 : 65536 < b
    · rw [if_pos e2] at h; exact absurd h (by decide)
    · rw [if_neg e2] at h; exact ⟨e, e2, h⟩
  · rw [if_neg e] at h; exact absurd h (by decide)
/-- What the blocks of a call of Get hold between two rounds. -/
def GHeld (w0 : World) (e : Nat) (cs : Array Value) (i : Int) (pre : List Nat) (W : World) : Prop :=
  W.heap[e]? = some (.cells cs 61 (0, 0)) ∧ W.heap[w0.heap.size]? = some (.cells cs 25 (0, 0)) ∧ Boxed W (w0.heap.size + 1) 3 (.int .i64 i) ∧ W.heap[w0.heap.size + 1 + 1]? = some (.cells #[.int .u64 0, .string ⟨#[]⟩] 42 (0, 0)) ∧ Boxed W (w0.heap.size + 1 + 1 + 1) 4 (.bool false) ∧ (∀ k ∈ pre, ¬ (k : Int) = i) ∧ Below w0.heap.size w0 W
theorem GHeld.below {w0 : World} {e : Nat} {cs : Array Value} {i : Int} {pre : List Nat} {W W' : World} (hb : Below W.heap.size W W') (h : GHeld w0 e cs i pre W) : GHeld w0 e cs i pre W' := by
  obtain ⟨h1, h0, h2, h3, h4, h5, h8⟩ := h
  exact ⟨blk_below h1 hb, blk_below h0 hb, boxed_below h2 hb, blk_below h3 hb, boxed_below h4 hb, h5, h8.trans (hb.mono (by have := h2.lt; omega))⟩
theorem GHeld.own {w0 : World} {B e : Nat} {cs : Array Value} {i : Int} (hB : w0.heap.size ≤ B) : OwnFrom B (GHeld w0 e cs i) := by
  rintro x W W' row ⟨h1, h0, h2, h3, h4, h5, h8⟩ hg hr
  have hr' : ∀ r, row = some r → ∃ o : Obj, W.heap[r]? = some o ∧ o.isCells = false := fun r e => (hr r e).2
  exact ⟨blk_other h1 hg hr', blk_other h0 hg hr', boxed_other h2 hg hr', blk_other h3 hg hr', boxed_other h4 hg hr', h5, ownFrom_below (β := List Nat) (Nat.le_refl _) hB x W W' row h8 hg hr⟩
/-- where it was found -/
def GX (w0 : World) (r1 : Int) (r2 : ByteArray) (r3 : Bool) (c : Code) (_ : List Nat × Nat) (W : World) : Prop :=
  c = .ret ∧ W.heap[w0.heap.size + 1 + 1]? = some (.cells #[.int .u64 r1, .string r2] 42 (0, 0)) ∧ Boxed W (w0.heap.size + 1 + 1 + 1) 4 (.bool r3) ∧ Below w0.heap.size w0 W
theorem GX.own {w0 : World} {B : Nat} {r1 : Int} {r2 : ByteArray} {r3 : Bool} (hB : w0.heap.size ≤ B) (c : Code) : OwnFrom B (GX w0 r1 r2 r3 c) := by
  rintro x W W' row ⟨h1, h2, h4, h8⟩ hg hr
  have hr' : ∀ r, row = some r → ∃ o : Obj, W.heap[r]? = some o ∧ o.isCells = false := fun r e => (hr r e).2
  exact ⟨h1, blk_other h2 hg hr', boxed_other h4 hg hr', ownFrom_below (β := List Nat × Nat) (Nat.le_refl _) hB x W W' row h8 hg hr⟩
/-- a value and a bool, stored into their cells -/
theorem val_store {W : World} {B2 B3 : Nat} {t tb : TypeId} {v : Int} {s : ByteArray} {u : Bool} (h2 : W.heap[B2]? = some (.cells #[.int .u64 v, .string s] t (0, 0))) (h3 : Boxed W B3 tb (.bool u)) (hne : B2 ≠ B3) (v' : Int) (s' : ByteArray) (u' : Bool) :
    (((W.setCell ⟨B2, 0, none⟩ (.int .u64 v')).setCell ⟨B2, 1, none⟩ (.string s')).setCell ⟨B3, 0, none⟩ (.bool u')).heap[B2]? = some (.cells #[.int .u64 v', .string s'] t (0, 0)) ∧ Boxed (((W.setCell ⟨B2, 0, none⟩ (.int .u64 v')).setCell ⟨B2, 1, none⟩ (.string s')).setCell ⟨B3, 0, none⟩ (.bool u')) B3 tb (.bool u') := by
  have a1 := blk_put h2 0 (.int .u64 v') (cs' := #[.int .u64 v', .string s]) rfl
  have a2 := blk_put a1 1 (.string s') (cs' := #[.int .u64 v', .string s']) rfl
  have b1 : Boxed (W.setCell ⟨B2, 0, none⟩ (.int .u64 v')) B3 tb (.bool u) := blk_far h3 (Ne.symm hne) _
  have b2 : Boxed ((W.setCell ⟨B2, 0, none⟩ (.int .u64 v')).setCell ⟨B2, 1, none⟩ (.string s')) B3 tb (.bool u) := blk_far b1 (Ne.symm hne) _
  exact ⟨blk_far a2 hne _, b2.set _⟩
theorem val_store_below {w W : World} {B2 B3 : Nat} (h : Below w.heap.size w W) (h2 : w.heap.size ≤ B2) (h3 : w.heap.size ≤ B3) (v' s' u' : Value) : Below w.heap.size w (((W.setCell ⟨B2, 0, none⟩ v').setCell ⟨B2, 1, none⟩ s').setCell ⟨B3, 0, none⟩ u') :=
  ((h.setCell (p := ⟨B2, 0, none⟩) h2 _).setCell (p := ⟨B2, 1, none⟩) h2 _).setCell (p := ⟨B3, 0, none⟩) h3 _
set_option maxHeartbeats 4000000 in
set_option maxRecDepth 100000 in
theorem props_Get.calls (a b fl : Int) (A : Option Addr) (c : Nat) (l : List S42) (i : Int) (r1 : Int) (r2 : ByteArray) (r3 : Bool) (w : World) (hg : Laid w) (hr : Kd.C k42 w A l.length l) (hc : l.length ≤ c) (h : props_Get.f a b fl l i = some (r1, r2, r3)) :
    Calls Tryd.prog 18 #[.agg #[.int .i64 a, .int .u64 b, .int .u64 fl, .slice A l.length c], .int .i64 i] w fun e w' => e = .returned (.tuple #[.agg #[.int .u64 r1, .string r2], .bool r3]) ∧ Below w.heap.size w w' := by
  have hok : okH b fl l := by
    unfold props_Get.f at h
    split at h
    · assumption
    · cases h
  unfold props_Get.f at h
  rw [if_pos hok] at h
  replace h := Option.some.inj h
  unfold getR at h
  have hRt := Aside0.mk (Right_k (k := 4) (by decide) a b fl l hok)
  have HR := Aside0.mk hr
  have HG := Aside0.mk hg
  have HOK := Aside0.mk hok
  have hrf := right_form (a := a) (b := b) (fl := fl) (l := l)
  generalize RightR a b fl l = q at h hRt hrf
  clear hr hg hok
  have hu61 := Tryd.underlying61
  have hu25 := Tryd.underlying25
  have hu42 := Tryd.underlying42
  have hinf : (Tryd.prog.info? 42).map (·.size) = some 2 := by kernel_rfl
  obtain ⟨w4, hw4⟩ : ∃ w4, (((w.alloc (.cells #[.int .i64 a, .int .u64 b, .int .u64 fl, .slice A l.length c] 25)).alloc (.cells #[.int .i64 i] 3)).alloc (.cells #[.int .u64 0, .string ⟨#[]⟩] 42)).alloc (.cells #[.bool false] 4) = w4 := ⟨_, rfl⟩
  have hB4 : Below w.heap.size w w4 := by
    rw [← hw4]
    exact ((((Below.refl _ w).alloc (Nat.le_refl _) _).alloc (by simp) _).alloc (by simp; omega) _).alloc (by simp; omega) _
  have X0 : w4.heap[w.heap.size]? = some (.cells #[.int .i64 a, .int .u64 b, .int .u64 fl, .slice A l.length c] 25 (0, 0)) := by
    rw [← hw4]
    exact blk_alloc (blk_alloc (blk_alloc (blk_new w _) _) _) _
  have X1 : Boxed w4 (w.heap.size + 1) 3 (.int .i64 i) := by
    rw [← hw4]
    exact ((boxed_at _ _ _ _ (by simp)).alloc _).alloc _
  have X2 : w4.heap[w.heap.size + 1 + 1]? = some (.cells #[.int .u64 0, .string ⟨#[]⟩] 42 (0, 0)) := by
    rw [← hw4]
    have := blk_new ((w.alloc (.cells #[.int .i64 a, .int .u64 b, .int .u64 fl, .slice A l.length c] 25)).alloc (.cells #[.int .i64 i] 3)) (.cells #[.int .u64 0, .string ⟨#[]⟩] 42)
    refine blk_alloc ?_ _
    simpa using this
  have X3 : Boxed w4 (w.heap.size + 1 + 1 + 1) 4 (.bool false) := by
    rw [← hw4]
    exact boxed_at _ _ _ _ (by simp)
  have hs4 : w4.heap.size = w.heap.size + 4 := by rw [← hw4]; simp
  have d0 := (blk_cell X0 0).trans rfl
  have d1 := (blk_cell X0 1).trans rfl
  have d2 := (blk_cell X0 2).trans rfl
  have d3 := (blk_cell X0 3).trans rfl
  by_cases e : q = 0
  · subst e
    rw [if_pos rfl] at h
    obtain ⟨hform, -, -⟩ := hrf rfl
    have hlen := hform.2.2.2
    have HS := Aside0.mk h
    clear h hrf hform
    obtain ⟨cs, hcs⟩ : ∃ cs : Array Value, cs = #[.int .i64 a, .int .u64 b, .int .u64 fl, .slice A l.length c] := ⟨_, rfl⟩
    refine (callsIn_wide (n := 4)).1 ?_
    refine callsIn_of_wp_marks Tryd.func18 rfl trivial ?_ rfl
    simp only [Tryd.ntmps18, List.size_toArray, List.length_cons, List.length_nil, Nat.reduceAdd, Nat.reduceSub, Array.replicate_succ, Array.replicate_zero, List.push_toArray, List.append_toArray, List.nil_append, List.cons_append]
    gi_wp2_with (first | ((with_reducible refine And.intro ?_ ?_); (exact trivial); gi_at_call 14; refine (callsIn_wide.2 (props_Right.calls 4 a b fl A c l 0 _ (HG.out.below hB4) (Kd.C_below HR.out hB4) hc hRt.out)).mono ?_; rintro e w1 ⟨rfl, hb1⟩; have x0 := blk_below X0 hb1; have c0 := (blk_cell x0 0).trans rfl; have c1 := (blk_cell x0 1).trans rfl; have c2 := (blk_cell x0 2).trans rfl; have c3 := (blk_cell x0 3).trans rfl) | ((with_reducible refine And.intro ?_ ?_); (exact trivial); gi_at_call 25; refine (callsIn_wide.2 (each_calls _ _ _ _ _)).mono ?_; rintro e w' ⟨rfl, rfl⟩))
    have hBw : Below w.heap.size w w1 := hB4.trans (hb1.mono (by omega))
    have hs1 : w.heap.size + 4 ≤ w1.heap.size := by have := hb1.size; omega
    have hA : Below w1.heap.size w1 (w1.alloc (.cells #[.int .i64 a, .int .u64 b, .int .u64 fl, .slice A l.length c] 61)) := (Below.refl _ _).alloc (Nat.le_refl _) _
    have hF0 : GHeld w w1.heap.size cs i [] (w1.alloc (.cells #[.int .i64 a, .int .u64 b, .int .u64 fl, .slice A l.length c] 61)) := by
      rw [hcs]
      exact ⟨blk_new w1 _, blk_below (blk_below X0 hb1) hA, boxed_below (boxed_below X1 hb1) hA, blk_below (blk_below X2 hb1) hA, boxed_below (boxed_below X3 hb1) hA, fun _ h => absurd h List.not_mem_nil, hBw.trans (hA.mono (by omega))⟩
    have hsz : (w1.alloc (.cells #[.int .i64 a, .int .u64 b, .int .u64 fl, .slice A l.length c] 61)).heap.size = w1.heap.size + 1 := by simp
    have hown : OwnFrom (w1.alloc (.cells #[.int .i64 a, .int .u64 b, .int .u64 fl, .slice A l.length c] 61)).heap.size (GHeld w w1.heap.size cs i) := GHeld.own (by rw [hsz]; omega)
    clear X0 X1 X2 X3 d0 d1 d2 d3 c0 c1 c2 c3
    refine wpIn_rangeFunc_shared rfl (by decide) (gf := 44) (lb := #[.pointer (some ⟨w1.heap.size, 0, none⟩)]) rfl trivial (enters_of Tryd.func44 (by kernel_rfl) rfl)
      eencs (fun _ => rfl) (EJ (GHeld w w1.heap.size cs i) fl (whichF fl 0))
      (EJ1 (GHeld w w1.heap.size cs i) fl (whichF fl 0) fun x y => #[.agg #[.int .i64 a, .int .u64 b, .int .u64 fl, .slice A l.length c], .int .i64 i, .pointer (some ⟨w.heap.size, 0, none⟩), .pointer (some ⟨w.heap.size + 1, 0, none⟩), .pointer (some ⟨w.heap.size + 1 + 1, 0, none⟩), .pointer (some ⟨w.heap.size + 1 + 1 + 1, 0, none⟩), x, y,
        .agg #[.int .i64 a, .int .u64 b, .int .u64 fl, .slice A l.length c], .int .i64 0, .bool false, undef, .agg #[.int .i64 a, .int .u64 b, .int .u64 fl, .slice A l.length c], .agg #[.int .i64 a, .int .u64 b, .int .u64 fl, .slice A l.length c], .func (.func 44) #[] #[.pointer (some ⟨w1.heap.size, 0, none⟩)], x, y,
        undef, undef, undef, undef, undef, undef, undef, undef, undef])
      (EJ2 (GHeld w w1.heap.size cs i) fl (whichF fl 0)) (GX w r1 r2 r3) (fun _ W => GHeld w w1.heap.size cs i (whichF fl 0) W)
      (EJ1.own hown) (EJ2.own hown) (fun c' => GX.own (by rw [hsz]; omega) c') (fun _ => hown _) ?seq ?assign ?body ?done ?stop
    case stop =>
      rintro D c' s W hD ⟨rfl, e2, e3, e5⟩ hK
      rw [hsz] at hD
      have hBd := e5.trans (belowK_b (w := w) (Nat.le_refl _) W D _ (.deferred none) (by omega) hK rfl rfl)
      gi_wp2
      refine ⟨by simp, .inl ⟨_, _, rfl, run_takeDeferred hK, ?_⟩⟩
      have y2 := blk_other e2 (grownBy_putObj' W D (.deferred none)) (fun r e => by cases e; exact ⟨_, hK, rfl⟩)
      have y3 := (boxed_other e3 (grownBy_putObj' W D (.deferred none)) (fun r e => by cases e; exact ⟨_, hK, rfl⟩)).cell
      exact ⟨_, results_sb rfl _ _ _ _ _ _ _ _ rfl y2 hu42 rfl hinf rfl Tryd.underlying4 rfl y3, rfl, hBd⟩
    case seq =>
      rintro lp B X o1 o2 W1 hW1 _ hB h1 hY
      have hF1 : GHeld w w1.heap.size cs i [] W1 := by
        rw [← hW1]
        exact hF0.below (((Below.refl _ _).alloc (Nat.le_refl _) _).alloc (by simp) _)
      exact each_iter 2 a b fl HOK.out.2.1.1 HOK.out.2.1.2 A c l hc w1.heap.size (GHeld w w1.heap.size cs i) (fun _ _ _ hb h => h.below hb) (fun _ _ h => hcs ▸ h.1) (fun _ _ h => Kd.C_below HR.out h.2.2.2.2.2.2) (whichF fl 0) lp _ B X W1 hB h1 hY hF1 rfl
    case assign =>
      rintro lp s W K hlt hJ hK
      unfold eencs
      gi_wp2
      apply hK
      · exact (KeepsOthers.refl _).from _
      · exact ⟨by simp, hJ⟩
    case done =>
      rintro D W hD ⟨e0, e1, e2, e3, e4, hni, e5⟩ hK
      rw [hsz] at hD
      have hgo := getGo_app l i (whichF fl 0) [] 0 hni
      rw [List.append_nil, getGo] at hgo
      obtain ⟨rfl, hz⟩ := Prod.mk.inj (HS.out.symm.trans hgo)
      obtain ⟨rfl, rfl⟩ := Prod.mk.inj hz
      clear hz hgo
      have c20 := (blk_cell e3 0).trans rfl
      have c21 := (blk_cell e3 1).trans rfl
      have f20 := blk_frozen e3 0
      have f21 := blk_frozen e3 1
      have c3 := e4.cell
      have f3 := e4.frozen
      obtain ⟨y2, y3⟩ := val_store e3 e4 (by omega) 0 ⟨#[]⟩ false
      have hB2 := val_store_below e5 (B2 := w.heap.size + 1 + 1) (B3 := w.heap.size + 1 + 1 + 1) (by omega) (by omega) (.int .u64 0) (.string ⟨#[]⟩) (.bool false)
      have hK2 : (((W.setCell ⟨w.heap.size + 1 + 1, 0, none⟩ (.int .u64 0)).setCell ⟨w.heap.size + 1 + 1, 1, none⟩ (.string ⟨#[]⟩)).setCell ⟨w.heap.size + 1 + 1 + 1, 0, none⟩ (.bool false)).heap[D]? = some (.deferred (some [])) :=
        (KeepsOthers.setCell _ _ _).same D _ ((KeepsOthers.setCell _ _ _).same D _ ((KeepsOthers.setCell _ _ _).same D _ hK rfl) rfl) rfl
      obtain ⟨W3, hW3⟩ : ∃ W3, ((W.setCell ⟨w.heap.size + 1 + 1, 0, none⟩ (.int .u64 0)).setCell ⟨w.heap.size + 1 + 1, 1, none⟩ (.string ⟨#[]⟩)).setCell ⟨w.heap.size + 1 + 1 + 1, 0, none⟩ (.bool false) = W3 := ⟨_, rfl⟩
      rw [hW3] at y2 y3 hB2 hK2
      have hBd := hB2.trans (belowK_b (w := w) (Nat.le_refl _) W3 D _ (.deferred none) (by omega) hK2 rfl rfl)
      clear e3 e4
      gi_wp2
      refine ⟨by simp, .inl ⟨_, _, rfl, run_takeDeferred hK2, ?_⟩⟩
      have z2 := blk_other y2 (grownBy_putObj' W3 D (.deferred none)) (fun r e => by cases e; exact ⟨_, hK2, rfl⟩)
      have z3 := (boxed_other y3 (grownBy_putObj' W3 D (.deferred none)) (fun r e => by cases e; exact ⟨_, hK2, rfl⟩)).cell
      exact ⟨_, results_sb rfl _ _ _ _ _ _ _ _ rfl z2 hu42 rfl hinf rfl Tryd.underlying4 rfl z3, rfl, hBd⟩
    case body =>
      rintro lp s a' W hlt ⟨ha', hJ⟩
      obtain ⟨⟨h1, h0, h2, h3, h4, h5, h8⟩, hx, hh, ht, hle⟩ := hJ
      dsimp only at ha' hx hle ht h5
      subst ha'
      have hv := h2.cell
      have hws := whichF_step fl s.2 hx
      rw [hh, if_pos rfl] at hws
      have hnl : s.1.length < l.length := by
        have := congrArg List.length ht
        rw [hws, List.length_append, List.length_cons] at this
        omega
      by_cases e1 : (s.2 : Int) = i
      · have d1 : ((s.2 : Int) == i) = true := beq_iff_eq.2 e1
        have hgo : getGo l i (whichF fl 0) 0 = ((l.getD s.1.length z42).f0, (l.getD s.1.length z42).f1, true) := by
          rw [ht, getGo_app l i s.1 _ 0 h5, hws, getGo, if_pos e1, Nat.zero_add]
        have hrr := HS.out.symm.trans hgo
        obtain ⟨ad, hA', hx0, hx1⟩ := at_T42 (Kd.C_below HR.out h8) (s.1.length : Int) (by omega) (by omega)
        have hrd : rd_T42 l (s.1.length : Int) = l.getD s.1.length z42 := by unfold rd_T42; rw [Int.toNat_natCast]
        rw [hrd] at hx0 hx1
        rw [Int.toNat_natCast] at hx0 hx1
        generalize l.getD s.1.length z42 = v at hrr hx0 hx1
        obtain ⟨rfl, hz⟩ := Prod.mk.inj hrr
        obtain ⟨rfl, rfl⟩ := Prod.mk.inj hz
        obtain rfl := hA'
        rw [hcs] at h0
        have c3 := (blk_cell h0 3).trans rfl
        have p1 : (0 : Int) ≤ (s.1.length : Int) := by omega
        have q1 : (s.1.length : Int) < (l.length : Int) := by omega
        have q2 : s.1.length < l.length := hnl
        have c20 := (blk_cell h3 0).trans rfl
        have c21 := (blk_cell h3 1).trans rfl
        have f20 := blk_frozen h3 0
        have f21 := blk_frozen h3 1
        have c4 := h4.cell
        have f4 := h4.frozen
        have hT := Aside0.mk ht
        clear hgo hrr hz hws ht hh hrd h5
        obtain ⟨y2, y3⟩ := val_store h3 h4 (by omega) v.f0 v.f1 true
        have hB2 := val_store_below h8 (B2 := w.heap.size + 1 + 1) (B3 := w.heap.size + 1 + 1 + 1) (by omega) (by omega) (.int .u64 v.f0) (.string v.f1) (.bool true)
        clear h3 h4
        gi_wp2
        exact ⟨((KeepsOthers.setCell _ _ _).from _).trans (((KeepsOthers.setCell _ _ _).from _).trans ((KeepsOthers.setCell _ _ _).from _)), rfl, y2, y3, hB2⟩
      · have d1 : ((s.2 : Int) == i) = false := beq_eq_false_iff_ne.2 e1
        have h5' : ∀ k ∈ s.1 ++ [s.2], ¬ (k : Int) = i := by
          intro k hk
          rcases List.mem_append.1 hk with h | h
          · exact h5 k h
          · rw [List.mem_singleton.1 h]; exact e1
        have H5 := Aside0.mk h5'
        have hT := Aside0.mk ht
        clear e1 h5' h5 hws ht
        subst hcs
        gi_wp2
        exact ⟨(KeepsOthers.refl _).from _, ⟨h1, h0, h2, h3, h4, H5.out, h8⟩, hx, hh, hT.out, hle⟩
  · rw [if_neg e] at h
    obtain ⟨rfl, h2⟩ := Prod.mk.inj h
    obtain ⟨rfl, rfl⟩ := Prod.mk.inj h2
    have e1 : (q != 0) = true := bne_iff_ne.2 e
    clear h h2 hrf e
    refine (callsIn_wide (n := 4)).1 ?_
    refine callsIn_of_wp_marks Tryd.func18 rfl trivial ?_ rfl
    simp only [Tryd.ntmps18, List.size_toArray, List.length_cons, List.length_nil, Nat.reduceAdd, Nat.reduceSub, Array.replicate_succ, Array.replicate_zero, List.push_toArray, List.append_toArray, List.nil_append, List.cons_append]
    gi_wp2_with (first | ((with_reducible refine And.intro ?_ ?_); (exact trivial); gi_at_call 14; refine (callsIn_wide.2 (props_Right.calls 4 a b fl A c l q _ (HG.out.below hB4) (Kd.C_below HR.out hB4) hc hRt.out)).mono ?_; rintro e w1 ⟨rfl, hb1⟩; have x2 := blk_below X2 hb1; have x3 := boxed_below X3 hb1; have c20 := (blk_cell x2 0).trans rfl; have c21 := (blk_cell x2 1).trans rfl; have f20 := blk_frozen x2 0; have f21 := blk_frozen x2 1; have c3 := x3.cell; have f3 := x3.frozen))
    obtain ⟨y2, y3⟩ := val_store x2 x3 (by omega) 0 ⟨#[]⟩ false
    exact ⟨_, results_sb rfl _ _ _ _ _ _ _ _ rfl y2 hu42 rfl hinf rfl Tryd.underlying4 rfl y3.cell, rfl, val_store_below (hB4.trans (hb1.mono (by omega))) (by omega) (by omega) _ _ _⟩
end Go.Proofs.YthpfcplhlhnfeaaDoor.F
namespace Go.Proofs.YthpfcplhlhnfeaaDoor.F
open Go.RowKit Go.Proofs.YthpfcplhlhnfeaaDoorW.PrintWords Go.Proofs.YthpfcplhlhnfeaaDoorW.PrintLast Go.Proofs.YthpfcplhlhnfeaaDoorW.PrintMore
set_option linter.unusedVariables false
set_option linter.unusedSimpArgs false
set_option maxRecDepth 4000
open Go.Sort
section
variable {F : Fence} {n : Nat} {P : Program} {C : World → Prop} {l : List Oper} {o : Oper} {Q : Exit → Act → World → Prop}
/-- the last operation, as if it did nothing -/
def dumOp (o : Oper) : Oper := { o with op := .move (.const undef) }
theorem tail_get (l : List Oper) (x : Oper) (i : Nat) : (l ++ [x]).toArray[i]? = if i < l.length then l[i]? else if i = l.length then some x else none := by
  rw [List.getElem?_toArray]
  by_cases h : i < l.length
  · rw [if_pos h, List.getElem?_append_left h]
  · rw [if_neg h, List.getElem?_append_right (by omega)]
    by_cases e : i = l.length
    · rw [if_pos e, e, Nat.sub_self]; rfl
    · rw [if_neg e]
      exact List.getElem?_eq_none (by simp; omega)
theorem tail_map {β : Type} (g : Oper → β) (hg : g (dumOp o) = g o) (i : Nat) : ((l ++ [dumOp o]).toArray[i]?).map g = ((l ++ [o]).toArray[i]?).map g := by
  rw [tail_get, tail_get]
  by_cases h : i < l.length
  · rw [if_pos h, if_pos h]
  · rw [if_neg h, if_neg h]
    by_cases e : i = l.length
    · rw [if_pos e, if_pos e, Option.map_some, Option.map_some, hg]
    · rw [if_neg e, if_neg e]
theorem tail_ready (listed : Array Bool) : Region.ready .any (l ++ [dumOp o]).toArray listed = Region.ready .any (l ++ [o]).toArray listed := by
  unfold Region.ready
  have hs : (l ++ [dumOp o]).toArray.size = (l ++ [o]).toArray.size := by simp
  rw [hs]
  apply List.filter_congr
  intro i _
  rw [tail_map (fun o : Oper => o.after.all fun e => !Region.binds .any e || listed.getD e.on false) rfl i]
theorem tail_yielded (tmps : Array Value) : yielded (l ++ [dumOp o]).toArray tmps = yielded (l ++ [o]).toArray tmps := by
  funext j
  unfold yielded
  have : ((l ++ [dumOp o]).toArray[j]?).bind (·.dst) = ((l ++ [o]).toArray[j]?).bind (·.dst) := by
    have h := tail_map (l := l) (o := o) (fun o : Oper => o.dst) rfl j
    cases h1 : (l ++ [dumOp o]).toArray[j]? <;> cases h2 : (l ++ [o]).toArray[j]? <;> simp_all
  rw [this]
/-- each operation waits for earlier ones alone -/
def ordB (l : List Oper) : Bool := (List.range l.length).all fun i => match l[i]? with | some o => o.after.all fun e => !Region.binds .any e || decide (e.on < i) | none => true
theorem ord_ready {ll : List Oper} (ho : ordB ll = true) {listed : Array Bool} (hs : listed.size = ll.length) : ∀ (d i : Nat), d = i → i < ll.length → listed.getD i true = false → ∃ j, j ∈ Region.ready .any ll.toArray listed := by
  intro d
  induction d using Nat.strongRecOn with
  | _ d ih =>
    intro i hd hi hun
    by_cases h : ∃ j, j < i ∧ listed.getD j true = false
    · obtain ⟨j, hj, hjun⟩ := h
      exact ih j (by omega) j rfl (by omega) hjun
    · refine ⟨i, mem_ready.2 ⟨hun, ll[i], by rw [List.getElem?_toArray]; exact List.getElem?_eq_getElem hi, fun e he hb => ?_⟩⟩
      have h1 := List.all_eq_true.1 ho i (List.mem_range.2 hi)
      rw [List.getElem?_eq_getElem hi] at h1
      have h2 := Array.all_eq_true_iff_forall_mem.1 h1 e he
      rw [hb] at h2
      have h3 : e.on < i := by simpa using h2
      have h4 : ¬ listed.getD e.on true = false := fun hh => h ⟨e.on, h3, hh⟩
      have h5 : e.on < listed.size := by omega
      simp [h5] at h4 ⊢
      exact h4
/-- the last one waits for all others -/
def lastB (l : List Oper) (o : Oper) : Bool := (List.range l.length).all fun i => o.after.any fun e => Region.binds .any e && e.on == i
theorem last_all {listed : Array Bool} (hw : lastB l o = true) (hs : listed.size = l.length + 1) (hr : l.length ∈ Region.ready .any (l ++ [o]).toArray listed) : ∀ i, i < l.length → listed.getD i true = true := by
  intro i hi
  obtain ⟨_, oi, hoi, hall⟩ := mem_ready.1 hr
  rw [tail_get, if_neg (Nat.lt_irrefl _), if_pos rfl] at hoi
  obtain rfl := Option.some.inj hoi
  have h1 := List.all_eq_true.1 hw i (List.mem_range.2 hi)
  obtain ⟨e, he, h2⟩ := Array.any_eq_true'.1 h1
  simp only [Bool.and_eq_true, beq_iff_eq] at h2
  have h3 := hall e he h2.1
  rw [h2.2] at h3
  have h5 : i < listed.size := by omega
  simp [h5] at h3 ⊢
  exact h3
theorem none_ready {ops : Array Oper} {listed : Array Bool} (h : ∀ i, i < ops.size → listed.getD i true = true) : Region.ready .any ops listed = [] := by
  rw [List.eq_nil_iff_forall_not_mem]
  intro i hi
  obtain ⟨h1, oi, hoi, _⟩ := mem_ready.1 hi
  have := h i (Array.getElem?_eq_some_iff.1 hoi).1
  rw [this] at h1
  cases h1
theorem tail_any {Q0 : Act → Prop} (hnd : noDefer (l ++ [o]) = true) (ho : ordB (l ++ [o]) = true) (hw : lastB l o = true) (hdst : o.dst = none) (hg : o.guard = none) (hQ : ∀ a, Q0 a → ∀ w, C w → wpListIn F n P (l ++ [o]).toArray Q [o] a w) :
    ∀ (fuel : Nat) (listed : Array Bool) (a : Act) (w : World), listed.size = l.length + 1 → listed.getD l.length true = false → C w → wpAnyQIn F n P .any (l ++ [dumOp o]).toArray C Q0 fuel listed a → wpAnyIn F n P .any (l ++ [o]).toArray Q fuel listed a w := by
  intro fuel
  induction fuel with
  | zero =>
    intro listed a w hs hun hC h
    exfalso
    obtain ⟨j, hj⟩ := ord_ready ho (by simpa using hs) l.length l.length rfl (by simp) hun
    rw [← tail_ready, h.1] at hj
    exact absurd hj List.not_mem_nil
  | succ fuel ih =>
    intro listed a w hs hun hC h
    refine ⟨fun h0 => ?_, fun i hi => ?_⟩
    · exfalso
      obtain ⟨j, hj⟩ := ord_ready ho (by simpa using hs) l.length l.length rfl (by simp) hun
      rw [h0] at hj
      exact absurd hj List.not_mem_nil
    · have h2 := h.2 i (by rw [tail_ready]; exact hi)
      obtain ⟨hui, oi, hoi, -⟩ := mem_ready.1 hi
      by_cases e : i = l.length
      · subst e
        have hall := last_all hw hs hi
        have hrn : Region.ready .any (l ++ [o]).toArray (listed.setIfInBounds l.length true) = [] := none_ready fun j hj => by
          by_cases ej : l.length = j
          · subst ej
            have : l.length < listed.size := by omega
            simp [this]
          · rw [getD_set_ne true ej]
            exact hall j (by simp at hj; omega)
        unfold qOpIn at h2
        rw [tail_get, if_neg (Nat.lt_irrefl _), if_pos rfl] at h2
        simp only at h2
        obtain ⟨-, h2⟩ := h2
        have hwd : Region.wanted (dumOp o) (yielded (l ++ [dumOp o]).toArray a.tmps) = true := by simp only [Region.wanted, dumOp, hg]
        rw [if_pos hwd] at h2
        obtain ⟨v, -, h3⟩ := h2
        have hput : a.put (dumOp o).dst v = a := by
          have : (dumOp o).dst = none := hdst
          rw [this]
          rfl
        rw [hput] at h3
        have hq : Q0 a := by
          cases fuel with
          | zero => exact h3.2
          | succ fuel => exact h3.1 (by rw [tail_ready]; exact hrn)
        have h4 := hQ a hq w hC
        have hwo : Region.wanted o (yielded (l ++ [o]).toArray a.tmps) = true := by simp only [Region.wanted, hg]
        unfold wpOpIn
        rw [tail_get, if_neg (Nat.lt_irrefl _), if_pos rfl]
        simp only [hwo, if_true]
        simp only [wpListIn, hwo, if_true] at h4
        refine Oper.wpIn_mono (fun a' w' hh => ?_) h4
        cases fuel with
        | zero => exact ⟨hrn, hh⟩
        | succ fuel => exact ⟨fun _ => hh, fun j hj => by rw [hrn] at hj; exact absurd hj List.not_mem_nil⟩
      · have hlt : i < l.length := by
          have := (Array.getElem?_eq_some_iff.1 hoi).1
          simp at this
          omega
        have h5 : qOpIn F n P (l ++ [o]).toArray C i (wpAnyQIn F n P .any (l ++ [dumOp o]).toArray C Q0 fuel (listed.setIfInBounds i true)) a := by
          unfold qOpIn at h2 ⊢
          rw [tail_get, if_pos hlt] at h2 ⊢
          rw [tail_yielded] at h2
          exact h2
        refine op_round (noDefer_spec hnd) hC (fun a' w' hC' hh => ih _ a' w' (by simpa using hs) ?_ hC' hh) h5
        rw [getD_set_ne true e]
        exact hun
/-- the region -/
theorem region_tail_round {id : Nat} {a : Act} {w : World} (hm : P.follows .mixedOrders = true) (hB : Region.lexB .any (l ++ [dumOp o]).toArray = true) (hnd : noDefer (l ++ [o]) = true) (ho : ordB (l ++ [o]) = true) (hw : lastB l o = true) (hdst : o.dst = none) (hg : o.guard = none)
    (h : wpQuietIn F n P (l ++ [dumOp o]).toArray (fun w' => ∃ p : Regrown, w' = grow (redrawn w p.d) p.os) (fun a' => ∀ w', (∃ p : Regrown, w' = grow (redrawn w p.d) p.os) → wpListIn F n P (l ++ [o]).toArray Q [o] a' w') (l ++ [dumOp o]) a) : (Code.region id (l ++ [o]).toArray true).wpIn F n P Q a w := by
  simp only [Region.lexB, Bool.and_eq_true] at hB
  have hsz : (l ++ [o]).toArray.size = l.length + 1 := by simp
  refine wpIn_region_any hm (tail_any (C := fun w' => ∃ p : Regrown, w' = grow (redrawn w p.d) p.os) (Q0 := fun a' => ∀ w', (∃ p : Regrown, w' = grow (redrawn w p.d) p.os) → wpListIn F n P (l ++ [o]).toArray Q [o] a' w') hnd ho hw hdst hg (fun a h w hc => h w hc) _ _ _ _ (by simp) (by simp) ⟨⟨w.drawn + 1, #[]⟩, by rw [grow_empty]; rfl⟩ ?_)
  have := wpAnyQIn_lex (F := F) (n := n) (C := fun w' => ∃ p : Regrown, w' = grow (redrawn w p.d) p.os) (md := .any) hB.1 (l ++ [dumOp o]) 0 (Array.replicate (l ++ [dumOp o]).toArray.size false) a (by simp) (by simpa using hB.2) h
  simpa using this
end
/-- a written list of operations, its last one as if it did nothing; its last one; the others -/
def dumLast : List Oper → List Oper
  | [] => []
  | [o] => [dumOp o]
  | o :: o2 :: r => o :: dumLast (o2 :: r)
def lastOp : Oper → List Oper → Oper
  | o, [] => o
  | _, o2 :: r => lastOp o2 r
def initOps : Oper → List Oper → List Oper
  | _, [] => []
  | o, o2 :: r => o :: initOps o2 r
theorem split_last : ∀ (o : Oper) (r : List Oper), o :: r = initOps o r ++ [lastOp o r]
  | o, [] => rfl
  | o, o2 :: r => by rw [initOps, lastOp, List.cons_append, ← split_last o2 r]
theorem dum_last : ∀ (o : Oper) (r : List Oper), dumLast (o :: r) = initOps o r ++ [dumOp (lastOp o r)]
  | o, [] => rfl
  | o, o2 :: r => by rw [dumLast, initOps, lastOp, List.cons_append, ← dum_last o2 r]
theorem region_tail_lit {F : Fence} {n : Nat} {P : Program} {o1 : Oper} {r : List Oper} {Q : Exit → Act → World → Prop} {id : Nat} {a : Act} {w : World} (hm : P.follows .mixedOrders = true) (hB : Region.lexB .any (dumLast (o1 :: r)).toArray = true) (hnd : noDefer (o1 :: r) = true) (ho : ordB (o1 :: r) = true)
    (hw : lastB (initOps o1 r) (lastOp o1 r) = true) (hdst : (lastOp o1 r).dst = none) (hg : (lastOp o1 r).guard = none)
    (h : wpQuietIn F n P (dumLast (o1 :: r)).toArray (fun w' => ∃ p : Regrown, w' = grow (redrawn w p.d) p.os) (fun a' => ∀ w', (∃ p : Regrown, w' = grow (redrawn w p.d) p.os) → wpListIn F n P (o1 :: r).toArray Q [lastOp o1 r] a' w') (dumLast (o1 :: r)) a) : (Code.region id (o1 :: r).toArray true).wpIn F n P Q a w := by
  have e1 := dum_last o1 r
  have e2 := split_last o1 r
  rw [e1] at hB h
  rw [e2] at hnd ho h ⊢
  refine region_tail_round hm hB hnd ho hw hdst hg ?_
  exact h
end Go.Proofs.YthpfcplhlhnfeaaDoor.F
namespace Go.Proofs.YthpfcplhlhnfeaaDoor.F
open Go.RowKit Go.Proofs.YthpfcplhlhnfeaaDoorW.PrintWords Go.Proofs.YthpfcplhlhnfeaaDoorW.PrintLast Go.Proofs.YthpfcplhlhnfeaaDoorW.PrintMore
attribute [local go_sem] max2_int min2_int max_two min_two max_three min_three max_four min_four
set_option linter.unusedVariables false
set_option linter.unusedSimpArgs false
set_option maxRecDepth 4000
set_option linter.unnecessarySimpa false

/-! ### props_Bytes_1: function 23 -/
def props_Bytes_1.f (k : Nat) (a0 : Int) (a1 : Int) : Option (ByteArray) := (num_Put.f k a0 a1).bind fun bt123 => (some bt123.1)
theorem props_Bytes_1.mono : ∀ a0 a1 k, LeO (props_Bytes_1.f k a0 a1) (props_Bytes_1.f (k + 1) a0 a1) := by
  intro a0 a1 k
  unfold props_Bytes_1.f
  repeat' first
      | (with_reducible exact num_Put.mono _ _ _)
      | (with_reducible exact LeO.refl _)
      | (with_reducible exact LeO.none _)
      | (with_reducible refine LeO.ite ?_ ?_)
      | (with_reducible refine LeO.bind ?_ (fun _ => ?_))
      | exact num_Put.mono _ _ _
      | exact LeO.none _
      | refine LeO.ite ?_ ?_
      | refine LeO.bind ?_ (fun _ => ?_)
set_option maxHeartbeats 8000000 in
set_option maxRecDepth 100000 in
theorem props_Bytes_1.calls (k : Nat) (a0 : Int) (a1 : Int) (r : ByteArray) (w : World) (hg : Laid w) (h : props_Bytes_1.f k a0 a1 = some r) :
    Calls Tryd.prog 23 #[.int .i64 a0, .int .u64 a1] w fun e w' => e = .returned (.string r) ∧ Below w.heap.size w w' := by
  have HG := Aside0.mk hg
  clear hg
  have HB := Aside0.mk (Below.refl w.heap.size w)
  have H : ((num_Put.f k a0 a1).bind fun bt123 => (some bt123.1)) = some r := h
  clear h
  replace H := Option.bind_eq_some_iff.mp H
  obtain ⟨⟨t123, t124⟩, A30, H⟩ := H
  replace H : (some t123) = some r := H
  have A3 := Aside0.mk A30
  clear A30
  obtain rfl := Option.some.inj H
  go_enter Tryd.func23, Tryd.ntmps23
  go_wp2_with (first | ((with_reducible refine gate_callee (f := 24) rfl ?_); refine goesL_ (some 10) rfl rfl Tryd.func24 (by kernel_rfl) rfl #[.int .i64 a0, .int .u64 a1] rfl (by (try simp only [List.map_toArray, List.map_cons, List.map_nil]); first | done | rfl | (simp only [List.length_drop, List.length_take]; rfl)) ?_; (with_reducible refine (num_Put.calls k a0 a1 t123 t124 _ ?lg A3.out).mono ?_); (case lg => exact (HG.out.below (by repeat (first | (with_reducible first | exact HB.out | apply below_alloc | apply pw_below_drewN | apply below_drew1) | exact HB.out)))); rintro e w4 ⟨rfl, hb⟩; refine ⟨_, rfl, ?_⟩; have n0_ := Aside0.mk (below_step (by repeat (first | (with_reducible first | exact HB.out | apply below_alloc | apply pw_below_drewN | apply below_drew1) | exact HB.out)) hb); clear HB; have HB := n0_; clear n0_; (try clear hb); (try clear hb2); (try clear hk); (try clear hi)))
  go_ret
  exact ⟨by first | rfl | (simp [errW_none, errW_some] <;> rfl) | (simp [*, errW_none, errW_some] <;> rfl), by repeat (first | (with_reducible first | exact HB.out | apply below_alloc | apply pw_below_drewN | apply below_drew1) | exact HB.out)⟩


end Go.Proofs.YthpfcplhlhnfeaaDoor.F
namespace Go.Proofs.YthpfcplhlhnfeaaDoor.F
open Go.RowKit Go.Proofs.YthpfcplhlhnfeaaDoorW.PrintWords Go.Proofs.YthpfcplhlhnfeaaDoorW.PrintLast Go.Proofs.YthpfcplhlhnfeaaDoorW.PrintMore
set_option linter.unusedVariables false
set_option linter.unusedSimpArgs false
set_option maxRecDepth 4000
open Go.Sort
attribute [local go_sem] Oper.semAt_some
theorem boxed_new_drew (W : World) (t : TypeId) (v : Value) : Boxed (W.alloc (.cells #[v] t)).drew W.heap.size t v := Boxed.new W t v
/-- a number's bytes -/
def pnum (n v : Int) : ByteArray := (putR n v).1
theorem put1_k {k : Nat} (hk : 12 ≤ k) (n v : Int) (h0 : 0 ≤ v) (h1 : v < 18446744073709551616) : props_Bytes_1.f k n v = some (pnum n v) := by
  unfold props_Bytes_1.f
  rw [put_k hk n v h0 h1]
  rfl
theorem pnum_size (n v : Int) : (pnum n v).size ≤ 8 := put_size n v
/-- the bytes ahead of the properties -/
def headB (b fl : Int) : ByteArray := ((pnum 2 60 ++ pnum 2 0) ++ pnum 8 b) ++ pnum 2 fl
/-- a property's bytes -/
def propB (i : Nat) (v : S42) : ByteArray := if letN i = 111 then pnum 1 v.f0 else if letN i = 113 then pnum 8 v.f0 else if letN i = 83 then (layR 1 v.f1).1 else v.f1
def propsB (l : List S42) : List Nat → Nat → ByteArray
  | [], _ => ⟨#[]⟩
  | i :: is, n => propB i (l.getD n z42) ++ propsB l is (n + 1)
theorem propsB_app (l : List S42) : ∀ (pre rest : List Nat) (n : Nat), propsB l (pre ++ rest) n = propsB l pre n ++ propsB l rest (n + pre.length)
  | [], rest, n => (eq_of_list (by rw [propsB, append_data]; simp)).symm
  | i :: pre, rest, n => by
    rw [List.cons_append, propsB, propsB, propsB_app l pre rest (n + 1), app_assoc, List.length_cons, show n + 1 + pre.length = n + (pre.length + 1) by omega]
theorem propsB_snoc (l : List S42) (pre : List Nat) (i : Nat) : propsB l (pre ++ [i]) 0 = propsB l pre 0 ++ propB i (l.getD pre.length z42) := by
  rw [propsB_app, propsB, propsB, app_empty, Nat.zero_add]
theorem propB_size (i : Nat) (v : S42) (h : okV v) : (propB i v).size ≤ 4503599627370504 := by
  unfold propB
  have h1 := pnum_size 1 v.f0
  have h2 := pnum_size 8 v.f0
  have h3 := lay_size 1 v.f1
  have h4 := h.2.2
  split
  · omega
  · split
    · omega
    · split
      · omega
      · omega
theorem propsB_size (b fl : Int) (l : List S42) (h : okH b fl l) : ∀ (is : List Nat) (n : Nat), n + is.length ≤ l.length → (propsB l is n).size ≤ 4503599627370504 * is.length
  | [], n, _ => Nat.zero_le _
  | i :: is, n, hn => by
    rw [List.length_cons] at hn ⊢
    have h1 := propB_size i _ (h.at (n := n) (by omega))
    have h2 := propsB_size b fl l h is (n + 1) (by omega)
    rw [propsB, size_append]
    omega
def bytesR (a b fl : Int) (l : List S42) : ByteArray × Int := if RightR a b fl l = 0 then (headB b fl ++ propsB l (whichF fl 0) 0, 0) else (⟨#[]⟩, RightR a b fl l)
def props_Bytes.f (a b fl : Int) (l : List S42) : Option (ByteArray × Int) := if okH b fl l then some (bytesR a b fl l) else none
/-- What the blocks of a call of Bytes hold between two rounds. -/
def BHeld (w0 : World) (e g p : Nat) (cs : Array Value) (hd : ByteArray) (l : List S42) (pre : List Nat) (W : World) : Prop :=
  W.heap[e]? = some (.cells cs 61 (0, 0)) ∧ W.heap[w0.heap.size]? = some (.cells cs 25 (0, 0)) ∧ Boxed W g 57 (.func (.func 23) #[] #[]) ∧ Boxed W p 9 (.string (hd ++ propsB l pre 0)) ∧ Below w0.heap.size w0 W
theorem BHeld.below {w0 : World} {e g p : Nat} {cs : Array Value} {hd : ByteArray} {l : List S42} {pre : List Nat} {W W' : World} (hb : Below W.heap.size W W') (h : BHeld w0 e g p cs hd l pre W) : BHeld w0 e g p cs hd l pre W' := by
  obtain ⟨h1, h0, h2, h3, h8⟩ := h
  exact ⟨blk_below h1 hb, blk_below h0 hb, boxed_below h2 hb, boxed_below h3 hb, h8.trans (hb.mono (Nat.le_of_lt (blk_lt h0)))⟩
theorem BHeld.own {w0 : World} {B e g p : Nat} {cs : Array Value} {hd : ByteArray} {l : List S42} (hB : w0.heap.size ≤ B) : OwnFrom B (BHeld w0 e g p cs hd l) := by
  rintro x W W' row ⟨h1, h0, h2, h3, h8⟩ hg hr
  have hr' : ∀ r, row = some r → ∃ o : Obj, W.heap[r]? = some o ∧ o.isCells = false := fun r e => (hr r e).2
  exact ⟨blk_other h1 hg hr', blk_other h0 hg hr', boxed_other h2 hg hr', boxed_other h3 hg hr', ownFrom_below (β := List Nat) (Nat.le_refl _) hB x W W' row h8 hg hr⟩
theorem BHeld.step {w0 : World} {e g p : Nat} {cs : Array Value} {hd : ByteArray} {l : List S42} {pre : List Nat} {W W2 : World} (h : BHeld w0 e g p cs hd l pre W) (hb : Below W.heap.size W W2) (hp : w0.heap.size < p) (hpe : e ≠ p) (hpg : g ≠ p) (x : ByteArray) (i : Nat) (hx : x = hd ++ propsB l (pre ++ [i]) 0) :
    BHeld w0 e g p cs hd l (pre ++ [i]) (W2.setCell ⟨p, 0, none⟩ (.string x)) ∧ ∀ D, KeepsFrom D W (W2.setCell ⟨p, 0, none⟩ (.string x)) := by
  obtain ⟨h1, h0, h2, h3, h8⟩ := h.below hb
  subst hx
  exact ⟨⟨blk_far h1 hpe _, blk_far h0 (by show w0.heap.size ≠ p; omega) _, blk_far h2 hpg _, h3.set _, h8.setCell (p := ⟨p, 0, none⟩) (Nat.le_of_lt hp) _⟩, fun D => (keepsFrom_below hb).trans ((KeepsOthers.setCell _ _ _).from _)⟩
set_option maxHeartbeats 4000000 in
set_option maxRecDepth 100000 in
theorem props_Bytes.calls (a b fl : Int) (A : Option Addr) (c : Nat) (l : List S42) (r1 : ByteArray) (r2 : Int) (w : World) (hg : Laid w) (hr : Kd.C k42 w A l.length l) (hc : l.length ≤ c) (h : props_Bytes.f a b fl l = some (r1, r2)) :
    Calls Tryd.prog 11 #[.agg #[.int .i64 a, .int .u64 b, .int .u64 fl, .slice A l.length c]] w fun e w' => e = .returned (.tuple #[.string r1, .int .i64 r2]) ∧ Below w.heap.size w w' := by
  have hok : okH b fl l := by
    unfold props_Bytes.f at h
    split at h
    · assumption
    · cases h
  unfold props_Bytes.f at h
  rw [if_pos hok] at h
  replace h := Option.some.inj h
  unfold bytesR at h
  have hRt := Aside0.mk (Right_k (k := 4) (by decide) a b fl l hok)
  have HR := Aside0.mk hr
  have HG := Aside0.mk hg
  have HOK := Aside0.mk hok
  have hrf := right_form (a := a) (b := b) (fl := fl) (l := l)
  generalize RightR a b fl l = q at h hRt hrf
  clear hr hg hok
  have hu61 := Tryd.underlying61
  have hu25 := Tryd.underlying25
  have hu42 := Tryd.underlying42
  obtain ⟨w4, hw4⟩ : ∃ w4, w.alloc (.cells #[.int .i64 a, .int .u64 b, .int .u64 fl, .slice A l.length c] 25) = w4 := ⟨_, rfl⟩
  have hB4 : Below w.heap.size w w4 := by
    rw [← hw4]
    exact (Below.refl _ w).alloc (Nat.le_refl _) _
  have X0 : w4.heap[w.heap.size]? = some (.cells #[.int .i64 a, .int .u64 b, .int .u64 fl, .slice A l.length c] 25 (0, 0)) := by
    rw [← hw4]
    exact blk_new w _
  have hs4 : w4.heap.size = w.heap.size + 1 := by rw [← hw4]; simp
  have d0 := (blk_cell X0 0).trans rfl
  have d1 := (blk_cell X0 1).trans rfl
  have d2 := (blk_cell X0 2).trans rfl
  have d3 := (blk_cell X0 3).trans rfl
  by_cases e : q = 0
  · subst e
    rw [if_pos rfl] at h
    obtain ⟨hform, hsize, -⟩ := hrf rfl
    have hlen := hform.2.2.2
    obtain rfl : a = 60 := hform.1
    have hfl := hform.2.1
    obtain ⟨rfl, rfl⟩ := Prod.mk.inj h
    clear h hrf hform
    obtain ⟨cs, hcs⟩ : ∃ cs : Array Value, cs = #[.int .i64 60, .int .u64 b, .int .u64 fl, .slice A l.length c] := ⟨_, rfl⟩
    have hw60 : IntKind.u64.wrap 60 = 60 := rfl
    have hsf : ∀ (ad : Addr) f x y (W : World), (store ad (.func f x y)).run Tryd.prog W = stored Tryd.prog W ad (.func f x y) .plain := fun ad f x y W => run_store Tryd.prog W ad _ _ rfl
    refine (callsIn_wide (n := 4)).1 ?_
    refine callsIn_of_wp_marks Tryd.func11 rfl trivial ?_ rfl
    simp only [Tryd.ntmps11, List.size_toArray, List.length_cons, List.length_nil, Nat.reduceAdd, Nat.reduceSub, Array.replicate_succ, Array.replicate_zero, List.push_toArray, List.append_toArray, List.nil_append, List.cons_append]
    gi_wp2_with (first | ((with_reducible refine And.intro ?_ ?_); (exact trivial); gi_at_call 14; refine (callsIn_wide.2 (props_Right.calls 4 60 b fl A c l 0 _ (HG.out.below hB4) (Kd.C_below HR.out hB4) hc hRt.out)).mono ?_; rintro e w1 ⟨rfl, hb1⟩; have x0 := blk_below X0 hb1; have c0 := (blk_cell x0 0).trans rfl; have c1 := (blk_cell x0 1).trans rfl; have c2 := (blk_cell x0 2).trans rfl; have c3 := (blk_cell x0 3).trans rfl))
    obtain ⟨w5, hw5⟩ : ∃ w5, w1.alloc (.cells #[.func (.func 23) #[] #[]] 57) = w5 := ⟨_, rfl⟩
    have hB5 : Below w1.heap.size w1 w5 := by rw [← hw5]; exact (Below.refl _ _).alloc (Nat.le_refl _) _
    have X5 : Boxed w5 w1.heap.size 57 (.func (.func 23) #[] #[]) := by rw [← hw5]; exact Boxed.new w1 _ _
    have x05 := blk_below x0 hB5
    rw [hw5]
    have hL5 : Laid w5 := HG.out.below ((hB4.trans (hb1.mono (by omega))).trans (hB5.mono (by have := hb1.size; omega)))
    clear c0 c1 c2 c3 d0 d1 d2 d3
    refine wpIn_mono (Q := fun e a' w' => e = .normal ∧ ∃ p : Nat, a' = { tmps := #[.agg #[.int .i64 60, .int .u64 b, .int .u64 fl, .slice A l.length c], .pointer (some ⟨w.heap.size, 0, none⟩), .string ⟨#[]⟩, .int .i64 0, .int .i64 0, .pointer (some ⟨w1.heap.size, 0, none⟩), .pointer (some ⟨p, 0, none⟩), undef, undef, undef, undef, undef, .agg #[.int .i64 60, .int .u64 b, .int .u64 fl, .slice A l.length c], .int .i64 0, .int .i64 0, .bool false, undef, .func (.func 23) #[] #[], .pointer (some ⟨w.heap.size, 0, none⟩), .int .i64 60, .int .u64 60, .string (pnum 2 60), .func (.func 23) #[] #[], .string (pnum 2 0), .string (pnum 2 60 ++ pnum 2 0), .func (.func 23) #[] #[], .pointer (some ⟨w.heap.size, 1, none⟩), .int .u64 b, .string (pnum 8 b), .string ((pnum 2 60 ++ pnum 2 0) ++ pnum 8 b), .func (.func 23) #[] #[], .pointer (some ⟨w.heap.size, 2, none⟩), .int .u64 fl, .string (pnum 2 fl), .string (headB b fl), undef, undef, undef, undef, undef, undef, undef, undef, undef, undef, undef, undef, undef, undef, undef, undef, undef, undef, undef, undef, undef, undef, undef, undef, undef, undef, undef, undef, undef, undef, undef, undef, undef, undef, undef, undef, undef, undef, undef, undef, undef, undef, undef, undef, undef], defers := [] } ∧ w5.heap.size ≤ p ∧ Boxed w' p 9 (.string (headB b fl)) ∧ Below w5.heap.size w5 w') ?_ ?_
    · refine wpIn_wide.2 ?_
      have hSS : ∀ W', Below w5.heap.size w5 W' → Below w5.heap.size w5 W' ∧ W'.cell? ⟨w.heap.size, 0, none⟩ = some (.int .i64 60) ∧ W'.cell? ⟨w.heap.size, 1, none⟩ = some (.int .u64 b) ∧ W'.cell? ⟨w.heap.size, 2, none⟩ = some (.int .u64 fl) ∧ W'.cell? ⟨w1.heap.size, 0, none⟩ = some (.func (.func 23) #[] #[]) := by
        intro W' hb
        have y0 := blk_below x05 hb
        exact ⟨hb, (blk_cell y0 0).trans rfl, (blk_cell y0 1).trans rfl, (blk_cell y0 2).trans rfl, (boxed_below X5 hb).cell⟩
      have hAl : ∀ W' o, Below w5.heap.size w5 W' → Below w5.heap.size w5 (W'.alloc o) := fun W' o hb => hb.alloc hb.size o
      have hSt : ∀ W' p v, Below w5.heap.size w5 W' → w5.heap.size ≤ p → Below w5.heap.size w5 (W'.setCell ⟨p, 0, none⟩ v) := fun W' p v hb hp => hb.setCell (p := ⟨p, 0, none⟩) hp v
      have hdr : Below w5.heap.size w5 w5.drew := below_drew (Below.refl _ _)
      have hput : ∀ (n v : Int), 0 ≤ v → v < 18446744073709551616 → ∀ W', Below w5.heap.size w5 W' → Calls Tryd.prog 23 #[.int .i64 n, .int .u64 v] W' fun e w'' => e = .returned (.string (pnum n v)) ∧ Below w5.heap.size w5 w'' ∧ Below W'.heap.size W' w'' := by
        intro n v h0 h1 W' hb
        exact (props_Bytes_1.calls 12 n v _ W' (hL5.below hb) (put1_k (by decide) n v h0 h1)).mono fun e w'' ⟨he, hh⟩ => ⟨he, hb.trans (hh.mono hb.size), hh⟩
      obtain ⟨⟨hb0, hb9⟩, ⟨hf0, hf9⟩, -⟩ := HOK.out
      have z1 := pnum_size 2 60
      have z2 := pnum_size 2 0
      have z3 := pnum_size 8 b
      have z4 := pnum_size 2 fl
      have n1 : ¬ 9223372036854775807 < (pnum 2 60).size + (pnum 2 0).size := by omega
      have n2 : ¬ 9223372036854775807 < (pnum 2 60).size + (pnum 2 0).size + (pnum 8 b).size := by omega
      have n3 : ¬ 9223372036854775807 < (pnum 2 60).size + (pnum 2 0).size + (pnum 8 b).size + (pnum 2 fl).size := by omega
      clear z1 z2 z3 z4
      go_region_held3 (fun w' => Below w5.heap.size w5 w' ∧ w'.cell? ⟨w.heap.size, 0, none⟩ = some (.int .i64 60) ∧ w'.cell? ⟨w.heap.size, 1, none⟩ = some (.int .u64 b) ∧ w'.cell? ⟨w.heap.size, 2, none⟩ = some (.int .u64 fl) ∧ w'.cell? ⟨w1.heap.size, 0, none⟩ = some (.func (.func 23) #[] #[])) (first | exact hSS _ (by assumption) | exact hSS _ hdr | exact hSS _ (hAl _ _ (by assumption)) | exact hSS _ (below_drew (hAl _ _ (Below.refl _ _))) | exact hSS _ (hSt _ _ _ (by assumption) (Below.size (by assumption))) | exact hSS _ (hSt _ _ _ (hAl _ _ (by assumption)) (Below.size (by assumption))) | exact hSS _ (hSt _ _ _ (by assumption) (Nat.le_refl _))) (first | (go_at_call 23; refine (hput _ _ (by first | assumption | decide) (by first | assumption | decide) _ (by first | assumption | exact hAl _ _ (by assumption) | exact below_drew (hAl _ _ (Below.refl _ _)))).mono ?_; rintro e w' ⟨rfl, hbb, hbc⟩; (try (have hp1 := boxed_below (Boxed.new _ 9 _) hbc; have cp1 := hp1.cell; have fp1 := hp1.frozen)); (try (have hp1 := boxed_below (boxed_new_drew _ 9 _) hbc; have cp1 := hp1.cell; have fp1 := hp1.frozen)); (try (have hp2 := boxed_below (t := 9) (by assumption) hbc; have cp2 := hp2.cell; have fp2 := hp2.frozen)); clear hbc))
      all_goals
        first
          | exact ⟨rfl, _, rfl, Below.size (by assumption), Boxed.new _ _ _, hAl _ _ (by assumption)⟩
          | (refine ⟨rfl, _, rfl, ?_, Boxed.set (v := .string ⟨#[]⟩) _ ?_, ?_⟩
             · first | exact Nat.le_refl _ | exact Below.size (by assumption)
             · assumption
             · first | exact hSt _ _ _ (by assumption) (Below.size (by assumption)) | exact hSt _ _ _ (by assumption) (Nat.le_refl _))
    · rintro e a' w6 ⟨rfl, p, rfl, hp, hbp, hb6⟩
      dsimp only
      have x06 := blk_below x05 hb6
      have x56 := boxed_below X5 hb6
      have c0 := (blk_cell x06 0).trans rfl
      have c1 := (blk_cell x06 1).trans rfl
      have c2 := (blk_cell x06 2).trans rfl
      have c3 := (blk_cell x06 3).trans rfl
      have hs51 : w1.heap.size + 1 = w5.heap.size := by rw [← hw5]; simp
      have hs14 := hb1.size
      have hs65 := hb6.size
      have hB6 : Below w.heap.size w w6 := (((hB4.trans (hb1.mono (by omega))).trans (hB5.mono (by omega))).trans (hb6.mono (by omega)))
      gi_wp2_with (first | ((with_reducible refine And.intro ?_ ?_); (exact trivial); gi_at_call 25; refine (callsIn_wide.2 (each_calls _ _ _ _ _)).mono ?_; rintro e w' ⟨rfl, rfl⟩))
      have hs4' : w.heap.size + 1 ≤ w1.heap.size := by omega
      have hA : Below w6.heap.size w6 (w6.alloc (.cells #[.int .i64 60, .int .u64 b, .int .u64 fl, .slice A l.length c] 61)) := (Below.refl _ _).alloc (Nat.le_refl _) _
      have hempty : headB b fl ++ propsB l [] 0 = headB b fl := by rw [propsB, app_empty]
      have hF0 : BHeld w w6.heap.size w1.heap.size p cs (headB b fl) l [] (w6.alloc (.cells #[.int .i64 60, .int .u64 b, .int .u64 fl, .slice A l.length c] 61)) := by
        rw [hcs]
        exact ⟨blk_new w6 _, blk_below x06 hA, boxed_below x56 hA, by rw [hempty]; exact boxed_below hbp hA, hB6.trans (hA.mono (by omega))⟩
      have hsz : (w6.alloc (.cells #[.int .i64 60, .int .u64 b, .int .u64 fl, .slice A l.length c] 61)).heap.size = w6.heap.size + 1 := by simp
      have hown : OwnFrom (w6.alloc (.cells #[.int .i64 60, .int .u64 b, .int .u64 fl, .slice A l.length c] 61)).heap.size (BHeld w w6.heap.size w1.heap.size p cs (headB b fl) l) := BHeld.own (by rw [hsz]; omega)
      clear c0 c1 c2 c3
      refine wpIn_rangeFunc_shared rfl (by decide) (gf := 44) (lb := #[.pointer (some ⟨w6.heap.size, 0, none⟩)]) rfl trivial (enters_of Tryd.func44 (by kernel_rfl) rfl)
        eencs (fun _ => rfl) (EJ (BHeld w w6.heap.size w1.heap.size p cs (headB b fl) l) fl (whichF fl 0))
        (EJ1 (BHeld w w6.heap.size w1.heap.size p cs (headB b fl) l) fl (whichF fl 0) fun x y => [.agg #[.int .i64 60, .int .u64 b, .int .u64 fl, .slice A l.length c], .pointer (some ⟨w.heap.size, 0, none⟩), .string ⟨#[]⟩, .int .i64 0, .int .i64 0, .pointer (some ⟨w1.heap.size, 0, none⟩), .pointer (some ⟨p, 0, none⟩), x, y, undef, undef, undef, .agg #[.int .i64 60, .int .u64 b, .int .u64 fl, .slice A l.length c], .int .i64 0, .int .i64 0, .bool false, undef, .func (.func 23) #[] #[], .pointer (some ⟨w.heap.size, 0, none⟩), .int .i64 60, .int .u64 60, .string (pnum 2 60), .func (.func 23) #[] #[], .string (pnum 2 0), .string (pnum 2 60 ++ pnum 2 0), .func (.func 23) #[] #[], .pointer (some ⟨w.heap.size, 1, none⟩), .int .u64 b, .string (pnum 8 b), .string ((pnum 2 60 ++ pnum 2 0) ++ pnum 8 b), .func (.func 23) #[] #[], .pointer (some ⟨w.heap.size, 2, none⟩), .int .u64 fl, .string (pnum 2 fl), .string (headB b fl), .agg #[.int .i64 60, .int .u64 b, .int .u64 fl, .slice A l.length c], .agg #[.int .i64 60, .int .u64 b, .int .u64 fl, .slice A l.length c], .func (.func 44) #[] #[.pointer (some ⟨w6.heap.size, 0, none⟩)], x, y, undef, undef, undef, undef, undef, undef, undef, undef, undef, undef, undef, undef, undef, undef, undef, undef, undef, undef, undef, undef, undef, undef, undef, undef, undef, undef, undef, undef, undef, undef, undef, undef, undef, undef, undef, undef, undef, undef, undef, undef].toArray)
        (EJ2 (BHeld w w6.heap.size w1.heap.size p cs (headB b fl) l) fl (whichF fl 0)) (fun _ _ _ => False) (fun _ W => BHeld w w6.heap.size w1.heap.size p cs (headB b fl) l (whichF fl 0) W)
        (EJ1.own hown) (EJ2.own hown) (fun _ _ _ _ _ hs _ _ => hs) (fun _ => hown _) ?seq ?assign ?body ?done ?stop
      case stop =>
        rintro D c' s W _ h _
        exact h.elim
      case seq =>
        rintro lp B X o1 o2 W1 hW1 _ hB h1 hY
        have hF1 : BHeld w w6.heap.size w1.heap.size p cs (headB b fl) l [] W1 := by
          rw [← hW1]
          exact hF0.below (((Below.refl _ _).alloc (Nat.le_refl _) _).alloc (by simp) _)
        exact each_iter 2 60 b fl HOK.out.2.1.1 HOK.out.2.1.2 A c l hc w6.heap.size (BHeld w w6.heap.size w1.heap.size p cs (headB b fl) l) (fun _ _ _ hb h => h.below hb) (fun _ _ h => hcs ▸ h.1) (fun _ _ h => Kd.C_below HR.out h.2.2.2.2) (whichF fl 0) lp _ B X W1 hB h1 hY hF1 rfl
      case assign =>
        rintro lp s W K hlt hJ hK
        unfold eencs
        gi_wp2
        apply hK
        · exact (KeepsOthers.refl _).from _
        · exact ⟨by simp, hJ⟩
      case done =>
        rintro D W hD ⟨e1, e0, e2, e3, e5⟩ hK
        rw [hsz] at hD
        have c3 := e3.cell
        gi_wp2
        refine ⟨by simp, .inl ⟨_, _, rfl, run_takeDeferred hK, ?_⟩⟩
        have hBd := e5.trans (belowK_b (w := w) (Nat.le_refl _) W D _ (.deferred none) (by omega) hK rfl rfl)
        exact ⟨_, results_tmp2 rfl _ _ _, rfl, hBd⟩
      case body =>
        rintro lp s a' W hlt ⟨ha', hJ⟩
        obtain ⟨hHeld, hx, hh, ht, hle⟩ := hJ
        obtain ⟨h1, h0, h2, h3, h8⟩ := hHeld
        dsimp only at ha' hx hle ht
        subst ha'
        have hws := whichF_step fl s.2 hx
        rw [hh, if_pos rfl] at hws
        have hnl : s.1.length < l.length := by
          have := congrArg List.length ht
          rw [hws, List.length_append, List.length_cons] at this
          omega
        have hT := Aside0.mk ht
        clear ht
        obtain ⟨hv0, hv1, hv2⟩ := HOK.out.at hnl
        obtain ⟨ad, hA', hx0, hx1⟩ := at_T42 (Kd.C_below HR.out h8) (s.1.length : Int) (by omega) (by omega)
        have hrd : rd_T42 l (s.1.length : Int) = l.getD s.1.length z42 := by unfold rd_T42; rw [Int.toNat_natCast]
        rw [hrd] at hx0 hx1
        rw [Int.toNat_natCast] at hx0 hx1
        have hsn := propsB_snoc l s.1 s.2
        have hbs := propsB_size b fl l HOK.out s.1 0 (by omega)
        have hbp2 := propB_size s.2 _ (HOK.out.at hnl)
        have hz1 := pnum_size 2 60
        have hz2 := pnum_size 2 0
        have hz3 := pnum_size 8 b
        have hz4 := pnum_size 2 fl
        have hhd : (headB b fl).size ≤ 32 := by unfold headB; rw [size_append, size_append, size_append]; omega
        generalize l.getD s.1.length z42 = v at hv0 hv1 hv2 hx0 hx1 hsn hbp2
        obtain rfl := hA'
        have hbig : (headB b fl ++ propsB l s.1 0).size + (propB s.2 v).size ≤ 9223372036854775807 := by
          rw [size_append]
          have : s.1.length ≤ 13 := by omega
          have : 4503599627370504 * s.1.length ≤ 4503599627370504 * 13 := Nat.mul_le_mul_left _ this
          omega
        clear hbs hbp2 hz1 hz2 hz3 hz4 hhd hrd
        rw [hcs] at h0
        have c3 := (blk_cell h0 3).trans rfl
        have p1 : (0 : Int) ≤ (s.1.length : Int) := by omega
        have q1 : (s.1.length : Int) < (l.length : Int) := by omega
        have q2 : s.1.length < l.length := hnl
        have hwide : ∀ f, Fence.wide.fn f := fun _ => trivial
        have hdep : Fence.wide.depth = none := rfl
        obtain ⟨W1, hW1⟩ : ∃ W1, W.alloc (.cells #[.int .u64 v.f0, .string v.f1] 42) = W1 := ⟨_, rfl⟩
        have hA1 : Below W.heap.size W W1 := by rw [← hW1]; exact (Below.refl _ _).alloc (Nat.le_refl _) _
        have xv : W1.heap[W.heap.size]? = some (.cells #[.int .u64 v.f0, .string v.f1] 42 (0, 0)) := by rw [← hW1]; exact blk_new W _
        have h1' := blk_below h1 hA1
        have h0' := blk_below h0 hA1
        have h2' := boxed_below h2 hA1
        have h3' := boxed_below h3 hA1
        have h8' := h8.trans (hA1.mono h8.size)
        have hKA : ∀ D, KeepsFrom D W W1 := fun D => keepsFrom_below hA1
        have cv0 := (blk_cell xv 0).trans rfl
        have cv1 := (blk_cell xv 1).trans rfl
        have cg := h2'.cell
        have cp := h3'.cell
        have fp := h3'.frozen
        have q3 : s.2 < lettersB.size := hx
        have hxx := hx
        have hH1 : BHeld w w6.heap.size w1.heap.size p #[.int .i64 60, .int .u64 b, .int .u64 fl, .slice (some ad) l.length c] (headB b fl) l s.1 W1 := ⟨hcs ▸ h1', h0', h2', h3', h8'⟩
        subst hcs
        have hstep := fun (W2 : World) (hb : Below W1.heap.size W1 W2) (x : ByteArray) (hx : x = headB b fl ++ propsB l (s.1 ++ [s.2]) 0) => BHeld.step hH1 hb (by omega) (by have := hbp.lt; omega) (by omega) x s.2 hx
        clear h0 h1 h2 h3 hx h0' h1'
        have hbt0 : ∀ h, ((lettersB[s.2]'h).toNat : Int) = letN s.2 := fun h => by unfold letN; rw [bt_get lettersB s.2 h]; rfl
        have hHH := Aside0.mk hh
        have hSTEP := Aside0.mk hstep
        have hH1A := Aside0.mk hH1
        clear hh hstep hH1 hws
        rcases letN_isL s.2 hxx with hL | hL | hL | hL
        · -- a short text
          have hbt : ∀ h, ((lettersB[s.2]'h).toNat : Int) = 83 := fun h => by rw [hbt0 h, hL]
          have hpb : propB s.2 v = (layR 1 v.f1).1 := by unfold propB; rw [hL]; rfl
          have hsh := Aside0.mk (short_k (k := 12) (by decide) v.f1 (by omega))
          rw [hpb] at hsn hbig
          clear hpb hL hbt0
          generalize layR 1 v.f1 = lk at hsn hbig hsh
          obtain ⟨k1, k2⟩ := lk
          simp only at hsn hbig
          have hnb : ¬ 9223372036854775807 < (headB b fl ++ propsB l s.1 0).size + k1.size := by omega
          have hnb2 : ¬ 9223372036854775807 < (headB b fl).size + (propsB l s.1 0).size + k1.size := by rw [size_append] at hbig; omega
          have hval := Aside0.mk (show headB b fl ++ propsB l s.1 0 ++ k1 = headB b fl ++ propsB l (s.1 ++ [s.2]) 0 by rw [hsn, app_assoc])
          clear hbig hsn
          gi_wp2_with (first | (gi_at_call 22; refine (CallsIn.inRound lp (callsIn_wide.2 (props_Letters.calls lettersB _ rfl))).mono ?_; rintro e w' ⟨rfl, ⟨nd, rfl⟩⟩) | (gi_at_call 26; refine (CallsIn.inRound lp (callsIn_wide.2 (text_Short.calls 12 v.f1 k1 k2 _ (HG.out.below (pw_below_drewN h8' _)) hsh.out))).mono ?_; rintro e w2 ⟨rfl, hb⟩; have hb2 : Below W1.heap.size W1 w2 := (pw_below_drewN (Below.refl _ W1) nd).trans hb; have y3 := boxed_below h3' hb2; have cp' := y3.cell; have fp' := y3.frozen))
          obtain ⟨g1, g2⟩ := hSTEP.out w2 hb2 _ hval.out
          exact ⟨(hKA _).trans (g2 _), g1, hxx, hHH.out, hT.out, hle⟩
        · -- a table
          have hbt : ∀ h, ((lettersB[s.2]'h).toNat : Int) = 84 := fun h => by rw [hbt0 h, hL]
          have hpb : propB s.2 v = v.f1 := by unfold propB; rw [hL]; rfl
          rw [hpb] at hsn hbig
          clear hpb hL hbt0
          have hnb : ¬ 9223372036854775807 < (headB b fl ++ propsB l s.1 0).size + v.f1.size := by omega
          have hval := Aside0.mk (show headB b fl ++ propsB l s.1 0 ++ v.f1 = headB b fl ++ propsB l (s.1 ++ [s.2]) 0 by rw [hsn, app_assoc])
          clear hbig hsn
          gi_wp2_with (first | (gi_at_call 22; refine (CallsIn.inRound lp (callsIn_wide.2 (props_Letters.calls lettersB _ rfl))).mono ?_; rintro e w' ⟨rfl, ⟨nd, rfl⟩⟩))
          obtain ⟨g1, g2⟩ := hSTEP.out (W1.drewN nd) (pw_below_drewN (Below.refl _ W1) nd) _ hval.out
          exact ⟨(hKA _).trans (g2 _), g1, hxx, hHH.out, hT.out, hle⟩
        · -- a number of 1 bytes
          have hbt : ∀ h, ((lettersB[s.2]'h).toNat : Int) = 111 := fun h => by rw [hbt0 h, hL]
          have hpb : propB s.2 v = pnum 1 v.f0 := by unfold propB; rw [hL]; rfl
          rw [hpb] at hsn hbig
          clear hpb hL hbt0
          have hput := put1_k (k := 12) (by decide) 1 v.f0 hv0 hv1
          generalize pnum 1 v.f0 = k1 at hsn hbig hput
          have hnb : ¬ 9223372036854775807 < (headB b fl ++ propsB l s.1 0).size + k1.size := by omega
          have hnb2 : ¬ 9223372036854775807 < (headB b fl).size + (propsB l s.1 0).size + k1.size := by rw [size_append] at hbig; omega
          have hval := Aside0.mk (show headB b fl ++ propsB l s.1 0 ++ k1 = headB b fl ++ propsB l (s.1 ++ [s.2]) 0 by rw [hsn, app_assoc])
          clear hbig hsn
          have hmx : Tryd.prog.follows .mixedOrders = true := by kernel_rfl
          have hPUT := Aside0.mk hput
          clear hput
          gi_wp2_with (first | (gi_at_call 22; refine (CallsIn.inRound lp (callsIn_wide.2 (props_Letters.calls lettersB _ rfl))).mono ?_; rintro e w' ⟨rfl, ⟨nd, rfl⟩⟩))
          have hb2 : Below W1.heap.size W1 (W1.drewN nd) := pw_below_drewN (Below.refl _ W1) nd
          generalize W1.drewN nd = W2 at hb2 ⊢
          have xv' := blk_below xv hb2
          have e2' := boxed_below h2' hb2
          have e3' := boxed_below h3' hb2
          clear cv0 cv1 cg cp fp h2' h3' xv
          have k1_ := cell_regrown e3'.cell
          have k2_ := cell_regrown e2'.cell
          have k3_ := cell_regrown ((blk_cell xv' 0).trans rfl)
          have hb8 := h8'.trans (hb2.mono h8'.size)
          have cP : ∀ d os, CallsIn (Fence.wide.inRound lp) 1 Tryd.prog 23 #[.int .i64 1, .int .u64 v.f0] (grow (redrawn W2 d) os) fun e w'' => e = .returned (.string k1) ∧ ∃ p : Regrown, w'' = grow (redrawn W2 p.d) p.os :=
            fun d os => CallsIn.inRound lp (CallsIn.regrown_of (callsIn_wide.2 (props_Bytes_1.calls 12 1 v.f0 k1 _ (HG.out.below (hb8.trans ((below_regrown W2 d os).mono hb8.size))) hPUT.out)))
          refine region_tail_lit (by assumption) (by kernel_rfl) rfl (by kernel_rfl) (by kernel_rfl) rfl rfl ?_
          simp only [dumLast, dumOp, lastOp]
          repeat (quiet_step_in ((gi_at_call 23; exact cP _ _)))
          refine wpQuietIn_nil ?_
          intro _ hw'
          obtain ⟨⟨dq, osq⟩, hw''⟩ := hw'
          subst hw''
          have hBq := hb2.trans ((below_regrown W2 dq osq).mono hb2.size)
          have y3 := boxed_below e3' (below_regrown W2 dq osq)
          clear k1_ k2_ k3_ cP
          generalize grow (redrawn W2 dq) osq = W3 at hBq y3 ⊢
          have cp' := y3.cell
          have fp' := y3.frozen
          gi_wp2
          obtain ⟨g1, g2⟩ := hSTEP.out W3 hBq _ hval.out
          exact ⟨(hKA _).trans (g2 _), g1, hxx, hHH.out, hT.out, hle⟩
        · -- a number of 8 bytes
          have hbt : ∀ h, ((lettersB[s.2]'h).toNat : Int) = 113 := fun h => by rw [hbt0 h, hL]
          have hpb : propB s.2 v = pnum 8 v.f0 := by unfold propB; rw [hL]; rfl
          rw [hpb] at hsn hbig
          clear hpb hL hbt0
          have hput := put1_k (k := 12) (by decide) 8 v.f0 hv0 hv1
          generalize pnum 8 v.f0 = k1 at hsn hbig hput
          have hnb : ¬ 9223372036854775807 < (headB b fl ++ propsB l s.1 0).size + k1.size := by omega
          have hnb2 : ¬ 9223372036854775807 < (headB b fl).size + (propsB l s.1 0).size + k1.size := by rw [size_append] at hbig; omega
          have hval := Aside0.mk (show headB b fl ++ propsB l s.1 0 ++ k1 = headB b fl ++ propsB l (s.1 ++ [s.2]) 0 by rw [hsn, app_assoc])
          clear hbig hsn
          have hmx : Tryd.prog.follows .mixedOrders = true := by kernel_rfl
          have hPUT := Aside0.mk hput
          clear hput
          gi_wp2_with (first | (gi_at_call 22; refine (CallsIn.inRound lp (callsIn_wide.2 (props_Letters.calls lettersB _ rfl))).mono ?_; rintro e w' ⟨rfl, ⟨nd, rfl⟩⟩))
          have hb2 : Below W1.heap.size W1 (W1.drewN nd) := pw_below_drewN (Below.refl _ W1) nd
          generalize W1.drewN nd = W2 at hb2 ⊢
          have xv' := blk_below xv hb2
          have e2' := boxed_below h2' hb2
          have e3' := boxed_below h3' hb2
          clear cv0 cv1 cg cp fp h2' h3' xv
          have k1_ := cell_regrown e3'.cell
          have k2_ := cell_regrown e2'.cell
          have k3_ := cell_regrown ((blk_cell xv' 0).trans rfl)
          have hb8 := h8'.trans (hb2.mono h8'.size)
          have cP : ∀ d os, CallsIn (Fence.wide.inRound lp) 1 Tryd.prog 23 #[.int .i64 8, .int .u64 v.f0] (grow (redrawn W2 d) os) fun e w'' => e = .returned (.string k1) ∧ ∃ p : Regrown, w'' = grow (redrawn W2 p.d) p.os :=
            fun d os => CallsIn.inRound lp (CallsIn.regrown_of (callsIn_wide.2 (props_Bytes_1.calls 12 8 v.f0 k1 _ (HG.out.below (hb8.trans ((below_regrown W2 d os).mono hb8.size))) hPUT.out)))
          refine region_tail_lit (by assumption) (by kernel_rfl) rfl (by kernel_rfl) (by kernel_rfl) rfl rfl ?_
          simp only [dumLast, dumOp, lastOp]
          repeat (quiet_step_in ((gi_at_call 23; exact cP _ _)))
          refine wpQuietIn_nil ?_
          intro _ hw'
          obtain ⟨⟨dq, osq⟩, hw''⟩ := hw'
          subst hw''
          have hBq := hb2.trans ((below_regrown W2 dq osq).mono hb2.size)
          have y3 := boxed_below e3' (below_regrown W2 dq osq)
          clear k1_ k2_ k3_ cP
          generalize grow (redrawn W2 dq) osq = W3 at hBq y3 ⊢
          have cp' := y3.cell
          have fp' := y3.frozen
          gi_wp2
          obtain ⟨g1, g2⟩ := hSTEP.out W3 hBq _ hval.out
          exact ⟨(hKA _).trans (g2 _), g1, hxx, hHH.out, hT.out, hle⟩
  · rw [if_neg e] at h
    obtain ⟨rfl, rfl⟩ := Prod.mk.inj h
    have e1 : (q != 0) = true := bne_iff_ne.2 e
    clear h hrf e
    refine (callsIn_wide (n := 4)).1 ?_
    refine callsIn_of_wp_marks Tryd.func11 rfl trivial ?_ rfl
    simp only [Tryd.ntmps11, List.size_toArray, List.length_cons, List.length_nil, Nat.reduceAdd, Nat.reduceSub, Array.replicate_succ, Array.replicate_zero, List.push_toArray, List.append_toArray, List.nil_append, List.cons_append]
    gi_wp2_with (first | ((with_reducible refine And.intro ?_ ?_); (exact trivial); gi_at_call 14; refine (callsIn_wide.2 (props_Right.calls 4 a b fl A c l q _ (HG.out.below hB4) (Kd.C_below HR.out hB4) hc hRt.out)).mono ?_; rintro e w1 ⟨rfl, hb1⟩))
    exact ⟨_, results_tmp2 rfl _ _ _, rfl, hB4.trans (hb1.mono (by omega))⟩
end Go.Proofs.YthpfcplhlhnfeaaDoor.F
namespace Go.Proofs.YthpfcplhlhnfeaaDoor.F
open Go.RowKit Go.Proofs.YthpfcplhlhnfeaaDoorW.PrintWords Go.Proofs.YthpfcplhlhnfeaaDoorW.PrintLast Go.Proofs.YthpfcplhlhnfeaaDoorW.PrintMore
set_option linter.unusedVariables false
set_option linter.unusedSimpArgs false
set_option maxRecDepth 4000

theorem drop_split {β : Type} (cs : List β) (o n : Nat) : cs.drop o = (cs.drop o).take n ++ cs.drop (o + n) := by
  rw [← List.drop_drop, List.take_append_drop]

structure Opened {α : Type} (t : TypeId) (R : World → α → List Value → Prop) (good sized : α → Prop) (bulk : α → Nat) : Prop where
  out : ∀ {H : Type} (enc : TypeId × Value → H) (W : World) (fuel : Nat) (cs : List Value) (y : DataW H × List MemPlace),
    DataW.trod enc Tryd.prog W 0 (fun _ => true) true fuel t cs = some y → ∃ a : α, R W a cs ∧ good a ∧ ((∀ n ∈ y.1.weights Tryd.prog t, n ≤ reachBytes) → sized a) ∧ bulk a ≤ Rows.uptoBulk y.1

theorem Opened.iso {α β : Type} {t : TypeId} {R : World → α → List Value → Prop} {g s : α → Prop} {b : α → Nat} (h : Opened t R g s b) (f : α → β) {R' : World → β → List Value → Prop} {g' s' : β → Prop} {b' : β → Nat}
    (hR : ∀ W a cs, R W a cs → R' W (f a) cs) (hg : ∀ a, g a → g' (f a)) (hs : ∀ a, s a → s' (f a)) (hb : ∀ a, b' (f a) ≤ b a) : Opened t R' g' s' b' := by
  constructor
  intro H enc W fuel cs y hy
  obtain ⟨a, r, k, z, u⟩ := h.out enc W fuel cs y hy
  exact ⟨f a, hR _ _ _ r, hg _ k, fun hw => hs _ (z hw), Nat.le_trans (hb a) u⟩

theorem opened_int {t : TypeId} {k : IntKind} (ht : Tryd.prog.underlying t = some (.int k)) : Opened t (Kd.int k).K (fun a => (Lit.int k a).wf = true) (fun _ => True) (fun _ => 1) := by
  constructor
  intro H enc W fuel cs y hy
  cases fuel with
  | zero => simp [DataW.trod] at hy
  | succ fuel =>
    unfold DataW.trod at hy
    rw [ht] at hy
    split at hy <;> simp_all
    obtain ⟨⟨rfl, h⟩, rfl⟩ := hy
    exact ⟨_, rfl, h, by simp [Rows.uptoBulk]⟩
theorem opened_bool {t : TypeId} (ht : Tryd.prog.underlying t = some .bool) : Opened t Kd.bool.K (fun _ => True) (fun _ => True) (fun _ => 1) := by
  constructor
  intro H enc W fuel cs y hy
  cases fuel with
  | zero => simp [DataW.trod] at hy
  | succ fuel =>
    unfold DataW.trod at hy
    rw [ht] at hy
    cases cs with
    | nil => simp at hy
    | cons v r =>
      cases r with
      | cons _ _ => cases v <;> simp at hy
      | nil =>
        cases v <;> simp at hy
        rename_i b
        subst hy
        exact ⟨b, rfl, trivial, fun _ => trivial, by simp [Rows.uptoBulk]⟩
theorem opened_string {t : TypeId} (ht : Tryd.prog.underlying t = some .string) : Opened t Kd.string.K (fun a => a.size ≤ maxLen) (fun a => a.size ≤ 140737488351232) (fun a => a.size + 1) := by
  constructor
  intro H enc W fuel cs y hy
  cases fuel with
  | zero => simp [DataW.trod] at hy
  | succ fuel =>
    unfold DataW.trod at hy
    rw [ht] at hy
    cases cs with
    | nil => simp at hy
    | cons v r =>
      cases r with
      | cons _ _ => cases v <;> simp at hy
      | nil =>
        cases v <;> simp at hy
        rename_i s
        obtain ⟨h, rfl⟩ := hy
        have e : s.data.toList.length = s.size := by simp
        refine ⟨s, rfl, h, ?_, ?_⟩
        · intro hw
          have := hw s.data.toList.length (by simp [DataW.weights])
          rw [e] at this
          exact Nat.le_trans this (by decide)
        · simp only [Rows.uptoBulk]; omega

/-- a value's shape, out of its one cell -/
theorem shape_int {t : TypeId} {k : IntKind} {W : World} {r : Reach} {b : Nat} {v : Value} {a : Int} (ht : Tryd.prog.underlying t = some (.int k)) (hv : Value.okWide Tryd.prog W r b t v) (h : (Kd.int k).K W a v.cells.toList) : v = .int k a := by
  obtain ⟨n, rfl⟩ := WideShapes.okWide_int ht hv
  have h' : [Value.int k n] = [Value.int k a] := h
  simpa using h'
theorem shape_bool {t : TypeId} {W : World} {r : Reach} {b : Nat} {v : Value} {a : Bool} (ht : Tryd.prog.underlying t = some .bool) (hv : Value.okWide Tryd.prog W r b t v) (h : Kd.bool.K W a v.cells.toList) : v = .bool a := by
  obtain ⟨n, rfl⟩ := WideShapes.okWide_bool ht hv
  have h' : [Value.bool n] = [Value.bool a] := h
  simpa using h'
theorem shape_string {t : TypeId} {W : World} {r : Reach} {b : Nat} {v : Value} {a : ByteArray} (ht : Tryd.prog.underlying t = some .string) (hv : Value.okWide Tryd.prog W r b t v) (h : Kd.string.K W a v.cells.toList) : v = .string a := by
  obtain ⟨n, rfl⟩ := WideShapes.okWide_string ht hv
  have h' : [Value.string n] = [Value.string a] := h
  simpa using h'
theorem shape_slice {α : Type} {t e : TypeId} {d : Kd α} {W : World} {r : Reach} {b : Nat} {v : Value} {l : List α} (ht : Tryd.prog.underlying t = some (.slice e)) (hv : Value.okWide Tryd.prog W r b t v) (h : (Kd.slice e d).K W l v.cells.toList) : ∃ A c, v = .slice A l.length c ∧ l.length ≤ c ∧ d.C W A l.length l := by
  obtain ⟨a, n, m, rfl⟩ := WideShapes.okWide_slice ht hv
  obtain ⟨A, c, h1, h2, h3⟩ := h
  have h' : [Value.slice a n m] = [Value.slice A l.length c] := h1
  exact ⟨A, c, by simpa using h', h2, h3⟩
theorem shape_struct {t : TypeId} {fs : Array Field} {W : World} {r : Reach} {b : Nat} {v : Value} {l : List Value} (ht : Tryd.prog.underlying t = some (.struct fs)) (hv : Value.okWide Tryd.prog W r b t v) (h : v.cells.toList = l) : v = .agg l.toArray := by
  obtain ⟨cs, rfl, _⟩ := WideShapes.okWide_struct ht hv
  have h' : cs.toList = l := h
  subst h'
  rfl
theorem laid_out : laidOutB Tryd.prog = true := by kernel_rfl
theorem own_knob : ownKnob Tryd.prog.godebug = none := by kernel_rfl

theorem exists_list {α : Type} {n : Nat} {p : Nat → α → Prop} (h : ∀ i, i < n → ∃ x, p i x) : ∃ l : List α, l.length = n ∧ ∀ i x, l[i]? = some x → p i x := by
  induction n with
  | zero => exact ⟨[], rfl, fun i x hx => by simp at hx⟩
  | succ n ih =>
    obtain ⟨l, hl, hp⟩ := ih (fun i hi => h i (by omega))
    obtain ⟨x, hx⟩ := h n (by omega)
    refine ⟨l ++ [x], by simp [hl], fun i y hy => ?_⟩
    rcases Nat.lt_trichotomy i l.length with hlt | heq | hgt
    · rw [List.getElem?_append_left hlt] at hy; exact hp i y hy
    · subst heq
      rw [List.getElem?_append_right (Nat.le_refl _)] at hy
      simp at hy
      subst hy
      rw [hl]; exact hx
    · rw [List.getElem?_append_right (by omega)] at hy
      have : i - l.length = (i - l.length - 1) + 1 := by omega
      rw [this] at hy
      simp at hy

theorem bulk_sum {α H : Type} (b : α → Nat) : ∀ (l : List α) (ds : List (DataW H)), l.length = ds.length → (∀ (i : Nat) (x : α) (d : DataW H), l[i]? = some x → ds[i]? = some d → b x ≤ Rows.uptoBulk d) → (l.map b).sum ≤ Rows.uptoBulkAll ds
  | [], [], _, _ => by simp [Rows.uptoBulkAll]
  | x :: l, d :: ds, h, hb => by
    have h1 := hb 0 x d rfl rfl
    have h2 := bulk_sum b l ds (by simpa using h) (fun i y e hy he => hb (i + 1) y e (by simpa using hy) (by simpa using he))
    simp only [List.map_cons, List.sum_cons, Rows.uptoBulkAll]
    omega
  | [], _ :: _, h, _ => by simp at h
  | _ :: _, [], h, _ => by simp at h

theorem weights_mem_all {H : Type} {P : Program} {e : TypeId} : ∀ {ds : List (DataW H)} {d : DataW H} {n : Nat}, d ∈ ds → n ∈ d.weights P e → n ∈ DataW.weightsAll P e ds
  | x :: ds, d, n, hd, hn => by
    simp only [DataW.weightsAll, List.mem_append]
    rcases List.mem_cons.1 hd with rfl | hd
    · exact .inl hn
    · exact .inr (weights_mem_all hd hn)
  | [], _, _, hd, _ => by simp at hd

theorem opened_slice {α : Type} {t e : TypeId} {d : Kd α} {g s : α → Prop} {b : α → Nat} (ht : Tryd.prog.underlying t = some (.slice e)) (hsz : Tryd.prog.cellsOf e = d.sz) (h : Opened e d.K g s b) :
    Opened t (Kd.slice e d).K (fun l => l.length ≤ maxLen ∧ ∀ x ∈ l, g x) (fun l => l.length * Tryd.prog.bytesOf e ≤ 140737488351232 ∧ ∀ x ∈ l, s x) (fun l => (l.map b).sum + 1) := by
  constructor
  intro H enc W fuel cs y hy
  rcases DataW.trod_slice ht hy with ⟨rfl, rfl⟩ | ⟨a, len, cap, elems, rest, n, rfl, rfl, rfl, hba, hl, hm, hlen, hel, _, _⟩
  · refine ⟨[], ⟨none, 0, rfl, Nat.le_refl _, rfl, by simp, fun h0 => absurd h0 (by simp)⟩, ⟨by simp, by simp⟩, fun _ => ⟨by simp, by simp⟩, by simp [Rows.uptoBulk]⟩
  · have hx : ∀ i, i < len → ∃ x : α, (∃ c y, W.cells? 0 (a.add (i * Tryd.prog.cellsOf e)) (Tryd.prog.cellsOf e) = some c ∧ elems[i]? = some y ∧ d.K W x c ∧ g x ∧ ((∀ n ∈ y.1.weights Tryd.prog e, n ≤ reachBytes) → s x) ∧ b x ≤ Rows.uptoBulk y.1) := by
      intro i hi
      have h1 := hel i hi
      have h2 : elems[i]? = some elems[i] := List.getElem?_eq_getElem (by omega)
      rw [h2] at h1
      obtain ⟨c, hc, hd⟩ := Option.bind_eq_some_iff.1 h1
      obtain ⟨x, r, k, z, u⟩ := h.out enc W n c _ hd
      exact ⟨x, c, _, hc, h2, r, k, z, u⟩
    obtain ⟨l, hll, hp⟩ := exists_list hx
    have hmem : ∀ x ∈ l, ∃ y, y ∈ elems ∧ g x ∧ ((∀ n ∈ y.1.weights Tryd.prog e, n ≤ reachBytes) → s x) := by
      intro x hx
      obtain ⟨i, hi⟩ := List.mem_iff_getElem?.1 hx
      obtain ⟨c, y, _, hy, _, k, z, _⟩ := hp i x hi
      exact ⟨y, List.mem_of_getElem? hy, k, z⟩
    refine ⟨l, ⟨some a, cap, by rw [hll], by omega, rfl, ?_, fun h0 => ⟨a, rfl, fun j p hj => ?_⟩⟩, ⟨by omega, fun x hx => ?_⟩, fun hw => ⟨?_, fun x hx => ?_⟩, ?_⟩
    · unfold maxLen at hm; omega
    · obtain ⟨c, y, hc, _, r, _⟩ := hp j p hj
      obtain ⟨_, hc1, hc2⟩ := World.cells?_some hc
      refine ⟨c, d.K_len r, r, fun i u hu => ?_⟩
      have := hc2 i (by have := (List.getElem?_eq_some_iff.1 hu).1; omega)
      rw [hu, hsz, Deep.add_add] at this
      exact this
    · obtain ⟨y, _, k, _⟩ := hmem x hx
      exact k
    · have := hw ((elems.length + rest.length) * Tryd.prog.bytesOf e) (by simp [DataW.weights, ht])
      have h2 : l.length * Tryd.prog.bytesOf e ≤ (elems.length + rest.length) * Tryd.prog.bytesOf e := Nat.mul_le_mul_right _ (by omega)
      exact Nat.le_trans (Nat.le_trans h2 this) (by decide)
    · obtain ⟨y, hy, _, z⟩ := hmem x hx
      exact z fun n hn => hw n (by
        simp only [DataW.weights, ht, List.mem_cons, List.mem_append]
        exact .inr (.inl (weights_mem_all (List.mem_map_of_mem hy) hn)))
    · have := bulk_sum b l (elems.map (·.1)) (by simp; omega) (fun i x dd hx hd => by
        obtain ⟨c, y, _, hy, _, _, _, u⟩ := hp i x hx
        rw [List.getElem?_map, hy] at hd
        simp at hd
        subst hd
        exact u)
      simp only [Rows.uptoBulk]
      omega

theorem cells_split1 {β : Type} {cs : List β} {n0 : Nat} (h : cs.length = n0) : cs = (cs.drop (0)).take n0 := by
  have q : (cs.drop (0)).take n0 = cs.drop (0) := List.take_of_length_le (by rw [List.length_drop]; omega)
  rw [q]
  rfl
theorem opened_struct1 {α0 : Type} {t : TypeId} {f0 : Field} {n0 : Nat}
    {R0 : World → α0 → List Value → Prop} {g0 s0 : α0 → Prop} {b0 : α0 → Nat}
    (hs : Tryd.prog.underlying t = some (.struct #[f0])) (hc : Tryd.prog.cellsOf t = n0)
    (hn0 : Tryd.prog.cellsOf f0.type = n0) (ho0 : f0.offset = 0) (h0 : Opened f0.type R0 g0 s0 b0)
    : Opened t (fun W (a : α0) cs => ∃ c0, cs = c0 ∧ R0 W a c0) (fun a => g0 a) (fun a => s0 a) (fun a => b0 a) := by
  constructor
  intro H enc W fuel cs y hy
  obtain ⟨xs, m, rfl, rfl, hl, hx, hf⟩ := DataW.trod_struct hs hy
  obtain ⟨x0, rfl⟩ : ∃ x0, xs = [x0] := by
    match xs, hx with
    | [x0], _ => exact ⟨x0, rfl⟩
  have e0 := hf 0 f0 rfl
  rw [hn0, ho0] at e0
  obtain ⟨a0, r0, k0, z0, u0⟩ := h0.out enc W m _ _ (e0.trans rfl)
  rw [hc] at hl
  refine ⟨a0, ⟨_, ?_, r0⟩, k0, fun hw => ?_, ?_⟩
  · exact cells_split1 hl
  · have hw' : ∀ n ∈ DataW.weightsEach Tryd.prog [f0.type] [x0.1], n ≤ reachBytes := fun n hn => hw n (by simp only [DataW.weights, hs]; exact hn)
    exact z0 fun n hn => hw' n (DataW.weights_mem_each (j := 0) rfl rfl n hn)
  · simp only [Rows.uptoBulk, Rows.uptoBulkAll, List.map]
    omega

theorem cells_split2 {β : Type} {cs : List β} {n0 n1 : Nat} (h : cs.length = n0 + n1) : cs = (cs.drop (0)).take n0 ++ ((cs.drop (n0)).take n1) := by
  have p0 := drop_split cs (0) n0
  rw [Nat.zero_add] at p0
  have q : (cs.drop (n0)).take n1 = cs.drop (n0) := List.take_of_length_le (by rw [List.length_drop]; omega)
  rw [q]
  rw [← p0]
  rfl
theorem opened_struct2 {α0 α1 : Type} {t : TypeId} {f0 f1 : Field} {n0 n1 : Nat}
    {R0 : World → α0 → List Value → Prop} {g0 s0 : α0 → Prop} {b0 : α0 → Nat}
    {R1 : World → α1 → List Value → Prop} {g1 s1 : α1 → Prop} {b1 : α1 → Nat}
    (hs : Tryd.prog.underlying t = some (.struct #[f0, f1])) (hc : Tryd.prog.cellsOf t = n0 + n1)
    (hn0 : Tryd.prog.cellsOf f0.type = n0) (ho0 : f0.offset = 0) (h0 : Opened f0.type R0 g0 s0 b0)
    (hn1 : Tryd.prog.cellsOf f1.type = n1) (ho1 : f1.offset = n0) (h1 : Opened f1.type R1 g1 s1 b1)
    : Opened t (fun W (a : α0 × α1) cs => ∃ c0 c1, cs = c0 ++ (c1) ∧ R0 W a.1 c0 ∧ R1 W a.2 c1) (fun a => g0 a.1 ∧ g1 a.2) (fun a => s0 a.1 ∧ s1 a.2) (fun a => b0 a.1 + b1 a.2) := by
  constructor
  intro H enc W fuel cs y hy
  obtain ⟨xs, m, rfl, rfl, hl, hx, hf⟩ := DataW.trod_struct hs hy
  obtain ⟨x0, x1, rfl⟩ : ∃ x0 x1, xs = [x0, x1] := by
    match xs, hx with
    | [x0, x1], _ => exact ⟨x0, x1, rfl⟩
  have e0 := hf 0 f0 rfl
  rw [hn0, ho0] at e0
  obtain ⟨a0, r0, k0, z0, u0⟩ := h0.out enc W m _ _ (e0.trans rfl)
  have e1 := hf 1 f1 rfl
  rw [hn1, ho1] at e1
  obtain ⟨a1, r1, k1, z1, u1⟩ := h1.out enc W m _ _ (e1.trans rfl)
  rw [hc] at hl
  refine ⟨(a0, a1), ⟨_, _, ?_, r0, r1⟩, ⟨k0, k1⟩, fun hw => ?_, ?_⟩
  · exact cells_split2 hl
  · have hw' : ∀ n ∈ DataW.weightsEach Tryd.prog [f0.type, f1.type] [x0.1, x1.1], n ≤ reachBytes := fun n hn => hw n (by simp only [DataW.weights, hs]; exact hn)
    exact ⟨z0 fun n hn => hw' n (DataW.weights_mem_each (j := 0) rfl rfl n hn), z1 fun n hn => hw' n (DataW.weights_mem_each (j := 1) rfl rfl n hn)⟩
  · simp only [Rows.uptoBulk, Rows.uptoBulkAll, List.map]
    omega

theorem cells_split3 {β : Type} {cs : List β} {n0 n1 n2 : Nat} (h : cs.length = n0 + n1 + n2) : cs = (cs.drop (0)).take n0 ++ ((cs.drop (n0)).take n1 ++ ((cs.drop (n0 + n1)).take n2)) := by
  have p0 := drop_split cs (0) n0
  rw [Nat.zero_add] at p0
  have p1 := drop_split cs (n0) n1
  have q : (cs.drop (n0 + n1)).take n2 = cs.drop (n0 + n1) := List.take_of_length_le (by rw [List.length_drop]; omega)
  rw [q]
  rw [← p1]
  rw [← p0]
  rfl
theorem opened_struct3 {α0 α1 α2 : Type} {t : TypeId} {f0 f1 f2 : Field} {n0 n1 n2 : Nat}
    {R0 : World → α0 → List Value → Prop} {g0 s0 : α0 → Prop} {b0 : α0 → Nat}
    {R1 : World → α1 → List Value → Prop} {g1 s1 : α1 → Prop} {b1 : α1 → Nat}
    {R2 : World → α2 → List Value → Prop} {g2 s2 : α2 → Prop} {b2 : α2 → Nat}
    (hs : Tryd.prog.underlying t = some (.struct #[f0, f1, f2])) (hc : Tryd.prog.cellsOf t = n0 + n1 + n2)
    (hn0 : Tryd.prog.cellsOf f0.type = n0) (ho0 : f0.offset = 0) (h0 : Opened f0.type R0 g0 s0 b0)
    (hn1 : Tryd.prog.cellsOf f1.type = n1) (ho1 : f1.offset = n0) (h1 : Opened f1.type R1 g1 s1 b1)
    (hn2 : Tryd.prog.cellsOf f2.type = n2) (ho2 : f2.offset = n0 + n1) (h2 : Opened f2.type R2 g2 s2 b2)
    : Opened t (fun W (a : α0 × α1 × α2) cs => ∃ c0 c1 c2, cs = c0 ++ (c1 ++ (c2)) ∧ R0 W a.1 c0 ∧ R1 W a.2.1 c1 ∧ R2 W a.2.2 c2) (fun a => g0 a.1 ∧ g1 a.2.1 ∧ g2 a.2.2) (fun a => s0 a.1 ∧ s1 a.2.1 ∧ s2 a.2.2) (fun a => b0 a.1 + b1 a.2.1 + b2 a.2.2) := by
  constructor
  intro H enc W fuel cs y hy
  obtain ⟨xs, m, rfl, rfl, hl, hx, hf⟩ := DataW.trod_struct hs hy
  obtain ⟨x0, x1, x2, rfl⟩ : ∃ x0 x1 x2, xs = [x0, x1, x2] := by
    match xs, hx with
    | [x0, x1, x2], _ => exact ⟨x0, x1, x2, rfl⟩
  have e0 := hf 0 f0 rfl
  rw [hn0, ho0] at e0
  obtain ⟨a0, r0, k0, z0, u0⟩ := h0.out enc W m _ _ (e0.trans rfl)
  have e1 := hf 1 f1 rfl
  rw [hn1, ho1] at e1
  obtain ⟨a1, r1, k1, z1, u1⟩ := h1.out enc W m _ _ (e1.trans rfl)
  have e2 := hf 2 f2 rfl
  rw [hn2, ho2] at e2
  obtain ⟨a2, r2, k2, z2, u2⟩ := h2.out enc W m _ _ (e2.trans rfl)
  rw [hc] at hl
  refine ⟨(a0, a1, a2), ⟨_, _, _, ?_, r0, r1, r2⟩, ⟨k0, k1, k2⟩, fun hw => ?_, ?_⟩
  · exact cells_split3 hl
  · have hw' : ∀ n ∈ DataW.weightsEach Tryd.prog [f0.type, f1.type, f2.type] [x0.1, x1.1, x2.1], n ≤ reachBytes := fun n hn => hw n (by simp only [DataW.weights, hs]; exact hn)
    exact ⟨z0 fun n hn => hw' n (DataW.weights_mem_each (j := 0) rfl rfl n hn), z1 fun n hn => hw' n (DataW.weights_mem_each (j := 1) rfl rfl n hn), z2 fun n hn => hw' n (DataW.weights_mem_each (j := 2) rfl rfl n hn)⟩
  · simp only [Rows.uptoBulk, Rows.uptoBulkAll, List.map]
    omega

theorem cells_split4 {β : Type} {cs : List β} {n0 n1 n2 n3 : Nat} (h : cs.length = n0 + n1 + n2 + n3) : cs = (cs.drop (0)).take n0 ++ ((cs.drop (n0)).take n1 ++ ((cs.drop (n0 + n1)).take n2 ++ ((cs.drop (n0 + n1 + n2)).take n3))) := by
  have p0 := drop_split cs (0) n0
  rw [Nat.zero_add] at p0
  have p1 := drop_split cs (n0) n1
  have p2 := drop_split cs (n0 + n1) n2
  have q : (cs.drop (n0 + n1 + n2)).take n3 = cs.drop (n0 + n1 + n2) := List.take_of_length_le (by rw [List.length_drop]; omega)
  rw [q]
  rw [← p2]
  rw [← p1]
  rw [← p0]
  rfl
theorem opened_struct4 {α0 α1 α2 α3 : Type} {t : TypeId} {f0 f1 f2 f3 : Field} {n0 n1 n2 n3 : Nat}
    {R0 : World → α0 → List Value → Prop} {g0 s0 : α0 → Prop} {b0 : α0 → Nat}
    {R1 : World → α1 → List Value → Prop} {g1 s1 : α1 → Prop} {b1 : α1 → Nat}
    {R2 : World → α2 → List Value → Prop} {g2 s2 : α2 → Prop} {b2 : α2 → Nat}
    {R3 : World → α3 → List Value → Prop} {g3 s3 : α3 → Prop} {b3 : α3 → Nat}
    (hs : Tryd.prog.underlying t = some (.struct #[f0, f1, f2, f3])) (hc : Tryd.prog.cellsOf t = n0 + n1 + n2 + n3)
    (hn0 : Tryd.prog.cellsOf f0.type = n0) (ho0 : f0.offset = 0) (h0 : Opened f0.type R0 g0 s0 b0)
    (hn1 : Tryd.prog.cellsOf f1.type = n1) (ho1 : f1.offset = n0) (h1 : Opened f1.type R1 g1 s1 b1)
    (hn2 : Tryd.prog.cellsOf f2.type = n2) (ho2 : f2.offset = n0 + n1) (h2 : Opened f2.type R2 g2 s2 b2)
    (hn3 : Tryd.prog.cellsOf f3.type = n3) (ho3 : f3.offset = n0 + n1 + n2) (h3 : Opened f3.type R3 g3 s3 b3)
    : Opened t (fun W (a : α0 × α1 × α2 × α3) cs => ∃ c0 c1 c2 c3, cs = c0 ++ (c1 ++ (c2 ++ (c3))) ∧ R0 W a.1 c0 ∧ R1 W a.2.1 c1 ∧ R2 W a.2.2.1 c2 ∧ R3 W a.2.2.2 c3) (fun a => g0 a.1 ∧ g1 a.2.1 ∧ g2 a.2.2.1 ∧ g3 a.2.2.2) (fun a => s0 a.1 ∧ s1 a.2.1 ∧ s2 a.2.2.1 ∧ s3 a.2.2.2) (fun a => b0 a.1 + b1 a.2.1 + b2 a.2.2.1 + b3 a.2.2.2) := by
  constructor
  intro H enc W fuel cs y hy
  obtain ⟨xs, m, rfl, rfl, hl, hx, hf⟩ := DataW.trod_struct hs hy
  obtain ⟨x0, x1, x2, x3, rfl⟩ : ∃ x0 x1 x2 x3, xs = [x0, x1, x2, x3] := by
    match xs, hx with
    | [x0, x1, x2, x3], _ => exact ⟨x0, x1, x2, x3, rfl⟩
  have e0 := hf 0 f0 rfl
  rw [hn0, ho0] at e0
  obtain ⟨a0, r0, k0, z0, u0⟩ := h0.out enc W m _ _ (e0.trans rfl)
  have e1 := hf 1 f1 rfl
  rw [hn1, ho1] at e1
  obtain ⟨a1, r1, k1, z1, u1⟩ := h1.out enc W m _ _ (e1.trans rfl)
  have e2 := hf 2 f2 rfl
  rw [hn2, ho2] at e2
  obtain ⟨a2, r2, k2, z2, u2⟩ := h2.out enc W m _ _ (e2.trans rfl)
  have e3 := hf 3 f3 rfl
  rw [hn3, ho3] at e3
  obtain ⟨a3, r3, k3, z3, u3⟩ := h3.out enc W m _ _ (e3.trans rfl)
  rw [hc] at hl
  refine ⟨(a0, a1, a2, a3), ⟨_, _, _, _, ?_, r0, r1, r2, r3⟩, ⟨k0, k1, k2, k3⟩, fun hw => ?_, ?_⟩
  · exact cells_split4 hl
  · have hw' : ∀ n ∈ DataW.weightsEach Tryd.prog [f0.type, f1.type, f2.type, f3.type] [x0.1, x1.1, x2.1, x3.1], n ≤ reachBytes := fun n hn => hw n (by simp only [DataW.weights, hs]; exact hn)
    exact ⟨z0 fun n hn => hw' n (DataW.weights_mem_each (j := 0) rfl rfl n hn), z1 fun n hn => hw' n (DataW.weights_mem_each (j := 1) rfl rfl n hn), z2 fun n hn => hw' n (DataW.weights_mem_each (j := 2) rfl rfl n hn), z3 fun n hn => hw' n (DataW.weights_mem_each (j := 3) rfl rfl n hn)⟩
  · simp only [Rows.uptoBulk, Rows.uptoBulkAll, List.map]
    omega

theorem cells_split5 {β : Type} {cs : List β} {n0 n1 n2 n3 n4 : Nat} (h : cs.length = n0 + n1 + n2 + n3 + n4) : cs = (cs.drop (0)).take n0 ++ ((cs.drop (n0)).take n1 ++ ((cs.drop (n0 + n1)).take n2 ++ ((cs.drop (n0 + n1 + n2)).take n3 ++ ((cs.drop (n0 + n1 + n2 + n3)).take n4)))) := by
  have p0 := drop_split cs (0) n0
  rw [Nat.zero_add] at p0
  have p1 := drop_split cs (n0) n1
  have p2 := drop_split cs (n0 + n1) n2
  have p3 := drop_split cs (n0 + n1 + n2) n3
  have q : (cs.drop (n0 + n1 + n2 + n3)).take n4 = cs.drop (n0 + n1 + n2 + n3) := List.take_of_length_le (by rw [List.length_drop]; omega)
  rw [q]
  rw [← p3]
  rw [← p2]
  rw [← p1]
  rw [← p0]
  rfl
theorem opened_struct5 {α0 α1 α2 α3 α4 : Type} {t : TypeId} {f0 f1 f2 f3 f4 : Field} {n0 n1 n2 n3 n4 : Nat}
    {R0 : World → α0 → List Value → Prop} {g0 s0 : α0 → Prop} {b0 : α0 → Nat}
    {R1 : World → α1 → List Value → Prop} {g1 s1 : α1 → Prop} {b1 : α1 → Nat}
    {R2 : World → α2 → List Value → Prop} {g2 s2 : α2 → Prop} {b2 : α2 → Nat}
    {R3 : World → α3 → List Value → Prop} {g3 s3 : α3 → Prop} {b3 : α3 → Nat}
    {R4 : World → α4 → List Value → Prop} {g4 s4 : α4 → Prop} {b4 : α4 → Nat}
    (hs : Tryd.prog.underlying t = some (.struct #[f0, f1, f2, f3, f4])) (hc : Tryd.prog.cellsOf t = n0 + n1 + n2 + n3 + n4)
    (hn0 : Tryd.prog.cellsOf f0.type = n0) (ho0 : f0.offset = 0) (h0 : Opened f0.type R0 g0 s0 b0)
    (hn1 : Tryd.prog.cellsOf f1.type = n1) (ho1 : f1.offset = n0) (h1 : Opened f1.type R1 g1 s1 b1)
    (hn2 : Tryd.prog.cellsOf f2.type = n2) (ho2 : f2.offset = n0 + n1) (h2 : Opened f2.type R2 g2 s2 b2)
    (hn3 : Tryd.prog.cellsOf f3.type = n3) (ho3 : f3.offset = n0 + n1 + n2) (h3 : Opened f3.type R3 g3 s3 b3)
    (hn4 : Tryd.prog.cellsOf f4.type = n4) (ho4 : f4.offset = n0 + n1 + n2 + n3) (h4 : Opened f4.type R4 g4 s4 b4)
    : Opened t (fun W (a : α0 × α1 × α2 × α3 × α4) cs => ∃ c0 c1 c2 c3 c4, cs = c0 ++ (c1 ++ (c2 ++ (c3 ++ (c4)))) ∧ R0 W a.1 c0 ∧ R1 W a.2.1 c1 ∧ R2 W a.2.2.1 c2 ∧ R3 W a.2.2.2.1 c3 ∧ R4 W a.2.2.2.2 c4) (fun a => g0 a.1 ∧ g1 a.2.1 ∧ g2 a.2.2.1 ∧ g3 a.2.2.2.1 ∧ g4 a.2.2.2.2) (fun a => s0 a.1 ∧ s1 a.2.1 ∧ s2 a.2.2.1 ∧ s3 a.2.2.2.1 ∧ s4 a.2.2.2.2) (fun a => b0 a.1 + b1 a.2.1 + b2 a.2.2.1 + b3 a.2.2.2.1 + b4 a.2.2.2.2) := by
  constructor
  intro H enc W fuel cs y hy
  obtain ⟨xs, m, rfl, rfl, hl, hx, hf⟩ := DataW.trod_struct hs hy
  obtain ⟨x0, x1, x2, x3, x4, rfl⟩ : ∃ x0 x1 x2 x3 x4, xs = [x0, x1, x2, x3, x4] := by
    match xs, hx with
    | [x0, x1, x2, x3, x4], _ => exact ⟨x0, x1, x2, x3, x4, rfl⟩
  have e0 := hf 0 f0 rfl
  rw [hn0, ho0] at e0
  obtain ⟨a0, r0, k0, z0, u0⟩ := h0.out enc W m _ _ (e0.trans rfl)
  have e1 := hf 1 f1 rfl
  rw [hn1, ho1] at e1
  obtain ⟨a1, r1, k1, z1, u1⟩ := h1.out enc W m _ _ (e1.trans rfl)
  have e2 := hf 2 f2 rfl
  rw [hn2, ho2] at e2
  obtain ⟨a2, r2, k2, z2, u2⟩ := h2.out enc W m _ _ (e2.trans rfl)
  have e3 := hf 3 f3 rfl
  rw [hn3, ho3] at e3
  obtain ⟨a3, r3, k3, z3, u3⟩ := h3.out enc W m _ _ (e3.trans rfl)
  have e4 := hf 4 f4 rfl
  rw [hn4, ho4] at e4
  obtain ⟨a4, r4, k4, z4, u4⟩ := h4.out enc W m _ _ (e4.trans rfl)
  rw [hc] at hl
  refine ⟨(a0, a1, a2, a3, a4), ⟨_, _, _, _, _, ?_, r0, r1, r2, r3, r4⟩, ⟨k0, k1, k2, k3, k4⟩, fun hw => ?_, ?_⟩
  · exact cells_split5 hl
  · have hw' : ∀ n ∈ DataW.weightsEach Tryd.prog [f0.type, f1.type, f2.type, f3.type, f4.type] [x0.1, x1.1, x2.1, x3.1, x4.1], n ≤ reachBytes := fun n hn => hw n (by simp only [DataW.weights, hs]; exact hn)
    exact ⟨z0 fun n hn => hw' n (DataW.weights_mem_each (j := 0) rfl rfl n hn), z1 fun n hn => hw' n (DataW.weights_mem_each (j := 1) rfl rfl n hn), z2 fun n hn => hw' n (DataW.weights_mem_each (j := 2) rfl rfl n hn), z3 fun n hn => hw' n (DataW.weights_mem_each (j := 3) rfl rfl n hn), z4 fun n hn => hw' n (DataW.weights_mem_each (j := 4) rfl rfl n hn)⟩
  · simp only [Rows.uptoBulk, Rows.uptoBulkAll, List.map]
    omega

theorem cells_split6 {β : Type} {cs : List β} {n0 n1 n2 n3 n4 n5 : Nat} (h : cs.length = n0 + n1 + n2 + n3 + n4 + n5) : cs = (cs.drop (0)).take n0 ++ ((cs.drop (n0)).take n1 ++ ((cs.drop (n0 + n1)).take n2 ++ ((cs.drop (n0 + n1 + n2)).take n3 ++ ((cs.drop (n0 + n1 + n2 + n3)).take n4 ++ ((cs.drop (n0 + n1 + n2 + n3 + n4)).take n5))))) := by
  have p0 := drop_split cs (0) n0
  rw [Nat.zero_add] at p0
  have p1 := drop_split cs (n0) n1
  have p2 := drop_split cs (n0 + n1) n2
  have p3 := drop_split cs (n0 + n1 + n2) n3
  have p4 := drop_split cs (n0 + n1 + n2 + n3) n4
  have q : (cs.drop (n0 + n1 + n2 + n3 + n4)).take n5 = cs.drop (n0 + n1 + n2 + n3 + n4) := List.take_of_length_le (by rw [List.length_drop]; omega)
  rw [q]
  rw [← p4]
  rw [← p3]
  rw [← p2]
  rw [← p1]
  rw [← p0]
  rfl
theorem opened_struct6 {α0 α1 α2 α3 α4 α5 : Type} {t : TypeId} {f0 f1 f2 f3 f4 f5 : Field} {n0 n1 n2 n3 n4 n5 : Nat}
    {R0 : World → α0 → List Value → Prop} {g0 s0 : α0 → Prop} {b0 : α0 → Nat}
    {R1 : World → α1 → List Value → Prop} {g1 s1 : α1 → Prop} {b1 : α1 → Nat}
    {R2 : World → α2 → List Value → Prop} {g2 s2 : α2 → Prop} {b2 : α2 → Nat}
    {R3 : World → α3 → List Value → Prop} {g3 s3 : α3 → Prop} {b3 : α3 → Nat}
    {R4 : World → α4 → List Value → Prop} {g4 s4 : α4 → Prop} {b4 : α4 → Nat}
    {R5 : World → α5 → List Value → Prop} {g5 s5 : α5 → Prop} {b5 : α5 → Nat}
    (hs : Tryd.prog.underlying t = some (.struct #[f0, f1, f2, f3, f4, f5])) (hc : Tryd.prog.cellsOf t = n0 + n1 + n2 + n3 + n4 + n5)
    (hn0 : Tryd.prog.cellsOf f0.type = n0) (ho0 : f0.offset = 0) (h0 : Opened f0.type R0 g0 s0 b0)
    (hn1 : Tryd.prog.cellsOf f1.type = n1) (ho1 : f1.offset = n0) (h1 : Opened f1.type R1 g1 s1 b1)
    (hn2 : Tryd.prog.cellsOf f2.type = n2) (ho2 : f2.offset = n0 + n1) (h2 : Opened f2.type R2 g2 s2 b2)
    (hn3 : Tryd.prog.cellsOf f3.type = n3) (ho3 : f3.offset = n0 + n1 + n2) (h3 : Opened f3.type R3 g3 s3 b3)
    (hn4 : Tryd.prog.cellsOf f4.type = n4) (ho4 : f4.offset = n0 + n1 + n2 + n3) (h4 : Opened f4.type R4 g4 s4 b4)
    (hn5 : Tryd.prog.cellsOf f5.type = n5) (ho5 : f5.offset = n0 + n1 + n2 + n3 + n4) (h5 : Opened f5.type R5 g5 s5 b5)
    : Opened t (fun W (a : α0 × α1 × α2 × α3 × α4 × α5) cs => ∃ c0 c1 c2 c3 c4 c5, cs = c0 ++ (c1 ++ (c2 ++ (c3 ++ (c4 ++ (c5))))) ∧ R0 W a.1 c0 ∧ R1 W a.2.1 c1 ∧ R2 W a.2.2.1 c2 ∧ R3 W a.2.2.2.1 c3 ∧ R4 W a.2.2.2.2.1 c4 ∧ R5 W a.2.2.2.2.2 c5) (fun a => g0 a.1 ∧ g1 a.2.1 ∧ g2 a.2.2.1 ∧ g3 a.2.2.2.1 ∧ g4 a.2.2.2.2.1 ∧ g5 a.2.2.2.2.2) (fun a => s0 a.1 ∧ s1 a.2.1 ∧ s2 a.2.2.1 ∧ s3 a.2.2.2.1 ∧ s4 a.2.2.2.2.1 ∧ s5 a.2.2.2.2.2) (fun a => b0 a.1 + b1 a.2.1 + b2 a.2.2.1 + b3 a.2.2.2.1 + b4 a.2.2.2.2.1 + b5 a.2.2.2.2.2) := by
  constructor
  intro H enc W fuel cs y hy
  obtain ⟨xs, m, rfl, rfl, hl, hx, hf⟩ := DataW.trod_struct hs hy
  obtain ⟨x0, x1, x2, x3, x4, x5, rfl⟩ : ∃ x0 x1 x2 x3 x4 x5, xs = [x0, x1, x2, x3, x4, x5] := by
    match xs, hx with
    | [x0, x1, x2, x3, x4, x5], _ => exact ⟨x0, x1, x2, x3, x4, x5, rfl⟩
  have e0 := hf 0 f0 rfl
  rw [hn0, ho0] at e0
  obtain ⟨a0, r0, k0, z0, u0⟩ := h0.out enc W m _ _ (e0.trans rfl)
  have e1 := hf 1 f1 rfl
  rw [hn1, ho1] at e1
  obtain ⟨a1, r1, k1, z1, u1⟩ := h1.out enc W m _ _ (e1.trans rfl)
  have e2 := hf 2 f2 rfl
  rw [hn2, ho2] at e2
  obtain ⟨a2, r2, k2, z2, u2⟩ := h2.out enc W m _ _ (e2.trans rfl)
  have e3 := hf 3 f3 rfl
  rw [hn3, ho3] at e3
  obtain ⟨a3, r3, k3, z3, u3⟩ := h3.out enc W m _ _ (e3.trans rfl)
  have e4 := hf 4 f4 rfl
  rw [hn4, ho4] at e4
  obtain ⟨a4, r4, k4, z4, u4⟩ := h4.out enc W m _ _ (e4.trans rfl)
  have e5 := hf 5 f5 rfl
  rw [hn5, ho5] at e5
  obtain ⟨a5, r5, k5, z5, u5⟩ := h5.out enc W m _ _ (e5.trans rfl)
  rw [hc] at hl
  refine ⟨(a0, a1, a2, a3, a4, a5), ⟨_, _, _, _, _, _, ?_, r0, r1, r2, r3, r4, r5⟩, ⟨k0, k1, k2, k3, k4, k5⟩, fun hw => ?_, ?_⟩
  · exact cells_split6 hl
  · have hw' : ∀ n ∈ DataW.weightsEach Tryd.prog [f0.type, f1.type, f2.type, f3.type, f4.type, f5.type] [x0.1, x1.1, x2.1, x3.1, x4.1, x5.1], n ≤ reachBytes := fun n hn => hw n (by simp only [DataW.weights, hs]; exact hn)
    exact ⟨z0 fun n hn => hw' n (DataW.weights_mem_each (j := 0) rfl rfl n hn), z1 fun n hn => hw' n (DataW.weights_mem_each (j := 1) rfl rfl n hn), z2 fun n hn => hw' n (DataW.weights_mem_each (j := 2) rfl rfl n hn), z3 fun n hn => hw' n (DataW.weights_mem_each (j := 3) rfl rfl n hn), z4 fun n hn => hw' n (DataW.weights_mem_each (j := 4) rfl rfl n hn), z5 fun n hn => hw' n (DataW.weights_mem_each (j := 5) rfl rfl n hn)⟩
  · simp only [Rows.uptoBulk, Rows.uptoBulkAll, List.map]
    omega

theorem cells_split7 {β : Type} {cs : List β} {n0 n1 n2 n3 n4 n5 n6 : Nat} (h : cs.length = n0 + n1 + n2 + n3 + n4 + n5 + n6) : cs = (cs.drop (0)).take n0 ++ ((cs.drop (n0)).take n1 ++ ((cs.drop (n0 + n1)).take n2 ++ ((cs.drop (n0 + n1 + n2)).take n3 ++ ((cs.drop (n0 + n1 + n2 + n3)).take n4 ++ ((cs.drop (n0 + n1 + n2 + n3 + n4)).take n5 ++ ((cs.drop (n0 + n1 + n2 + n3 + n4 + n5)).take n6)))))) := by
  have p0 := drop_split cs (0) n0
  rw [Nat.zero_add] at p0
  have p1 := drop_split cs (n0) n1
  have p2 := drop_split cs (n0 + n1) n2
  have p3 := drop_split cs (n0 + n1 + n2) n3
  have p4 := drop_split cs (n0 + n1 + n2 + n3) n4
  have p5 := drop_split cs (n0 + n1 + n2 + n3 + n4) n5
  have q : (cs.drop (n0 + n1 + n2 + n3 + n4 + n5)).take n6 = cs.drop (n0 + n1 + n2 + n3 + n4 + n5) := List.take_of_length_le (by rw [List.length_drop]; omega)
  rw [q]
  rw [← p5]
  rw [← p4]
  rw [← p3]
  rw [← p2]
  rw [← p1]
  rw [← p0]
  rfl
theorem opened_struct7 {α0 α1 α2 α3 α4 α5 α6 : Type} {t : TypeId} {f0 f1 f2 f3 f4 f5 f6 : Field} {n0 n1 n2 n3 n4 n5 n6 : Nat}
    {R0 : World → α0 → List Value → Prop} {g0 s0 : α0 → Prop} {b0 : α0 → Nat}
    {R1 : World → α1 → List Value → Prop} {g1 s1 : α1 → Prop} {b1 : α1 → Nat}
    {R2 : World → α2 → List Value → Prop} {g2 s2 : α2 → Prop} {b2 : α2 → Nat}
    {R3 : World → α3 → List Value → Prop} {g3 s3 : α3 → Prop} {b3 : α3 → Nat}
    {R4 : World → α4 → List Value → Prop} {g4 s4 : α4 → Prop} {b4 : α4 → Nat}
    {R5 : World → α5 → List Value → Prop} {g5 s5 : α5 → Prop} {b5 : α5 → Nat}
    {R6 : World → α6 → List Value → Prop} {g6 s6 : α6 → Prop} {b6 : α6 → Nat}
    (hs : Tryd.prog.underlying t = some (.struct #[f0, f1, f2, f3, f4, f5, f6])) (hc : Tryd.prog.cellsOf t = n0 + n1 + n2 + n3 + n4 + n5 + n6)
    (hn0 : Tryd.prog.cellsOf f0.type = n0) (ho0 : f0.offset = 0) (h0 : Opened f0.type R0 g0 s0 b0)
    (hn1 : Tryd.prog.cellsOf f1.type = n1) (ho1 : f1.offset = n0) (h1 : Opened f1.type R1 g1 s1 b1)
    (hn2 : Tryd.prog.cellsOf f2.type = n2) (ho2 : f2.offset = n0 + n1) (h2 : Opened f2.type R2 g2 s2 b2)
    (hn3 : Tryd.prog.cellsOf f3.type = n3) (ho3 : f3.offset = n0 + n1 + n2) (h3 : Opened f3.type R3 g3 s3 b3)
    (hn4 : Tryd.prog.cellsOf f4.type = n4) (ho4 : f4.offset = n0 + n1 + n2 + n3) (h4 : Opened f4.type R4 g4 s4 b4)
    (hn5 : Tryd.prog.cellsOf f5.type = n5) (ho5 : f5.offset = n0 + n1 + n2 + n3 + n4) (h5 : Opened f5.type R5 g5 s5 b5)
    (hn6 : Tryd.prog.cellsOf f6.type = n6) (ho6 : f6.offset = n0 + n1 + n2 + n3 + n4 + n5) (h6 : Opened f6.type R6 g6 s6 b6)
    : Opened t (fun W (a : α0 × α1 × α2 × α3 × α4 × α5 × α6) cs => ∃ c0 c1 c2 c3 c4 c5 c6, cs = c0 ++ (c1 ++ (c2 ++ (c3 ++ (c4 ++ (c5 ++ (c6)))))) ∧ R0 W a.1 c0 ∧ R1 W a.2.1 c1 ∧ R2 W a.2.2.1 c2 ∧ R3 W a.2.2.2.1 c3 ∧ R4 W a.2.2.2.2.1 c4 ∧ R5 W a.2.2.2.2.2.1 c5 ∧ R6 W a.2.2.2.2.2.2 c6) (fun a => g0 a.1 ∧ g1 a.2.1 ∧ g2 a.2.2.1 ∧ g3 a.2.2.2.1 ∧ g4 a.2.2.2.2.1 ∧ g5 a.2.2.2.2.2.1 ∧ g6 a.2.2.2.2.2.2) (fun a => s0 a.1 ∧ s1 a.2.1 ∧ s2 a.2.2.1 ∧ s3 a.2.2.2.1 ∧ s4 a.2.2.2.2.1 ∧ s5 a.2.2.2.2.2.1 ∧ s6 a.2.2.2.2.2.2) (fun a => b0 a.1 + b1 a.2.1 + b2 a.2.2.1 + b3 a.2.2.2.1 + b4 a.2.2.2.2.1 + b5 a.2.2.2.2.2.1 + b6 a.2.2.2.2.2.2) := by
  constructor
  intro H enc W fuel cs y hy
  obtain ⟨xs, m, rfl, rfl, hl, hx, hf⟩ := DataW.trod_struct hs hy
  obtain ⟨x0, x1, x2, x3, x4, x5, x6, rfl⟩ : ∃ x0 x1 x2 x3 x4 x5 x6, xs = [x0, x1, x2, x3, x4, x5, x6] := by
    match xs, hx with
    | [x0, x1, x2, x3, x4, x5, x6], _ => exact ⟨x0, x1, x2, x3, x4, x5, x6, rfl⟩
  have e0 := hf 0 f0 rfl
  rw [hn0, ho0] at e0
  obtain ⟨a0, r0, k0, z0, u0⟩ := h0.out enc W m _ _ (e0.trans rfl)
  have e1 := hf 1 f1 rfl
  rw [hn1, ho1] at e1
  obtain ⟨a1, r1, k1, z1, u1⟩ := h1.out enc W m _ _ (e1.trans rfl)
  have e2 := hf 2 f2 rfl
  rw [hn2, ho2] at e2
  obtain ⟨a2, r2, k2, z2, u2⟩ := h2.out enc W m _ _ (e2.trans rfl)
  have e3 := hf 3 f3 rfl
  rw [hn3, ho3] at e3
  obtain ⟨a3, r3, k3, z3, u3⟩ := h3.out enc W m _ _ (e3.trans rfl)
  have e4 := hf 4 f4 rfl
  rw [hn4, ho4] at e4
  obtain ⟨a4, r4, k4, z4, u4⟩ := h4.out enc W m _ _ (e4.trans rfl)
  have e5 := hf 5 f5 rfl
  rw [hn5, ho5] at e5
  obtain ⟨a5, r5, k5, z5, u5⟩ := h5.out enc W m _ _ (e5.trans rfl)
  have e6 := hf 6 f6 rfl
  rw [hn6, ho6] at e6
  obtain ⟨a6, r6, k6, z6, u6⟩ := h6.out enc W m _ _ (e6.trans rfl)
  rw [hc] at hl
  refine ⟨(a0, a1, a2, a3, a4, a5, a6), ⟨_, _, _, _, _, _, _, ?_, r0, r1, r2, r3, r4, r5, r6⟩, ⟨k0, k1, k2, k3, k4, k5, k6⟩, fun hw => ?_, ?_⟩
  · exact cells_split7 hl
  · have hw' : ∀ n ∈ DataW.weightsEach Tryd.prog [f0.type, f1.type, f2.type, f3.type, f4.type, f5.type, f6.type] [x0.1, x1.1, x2.1, x3.1, x4.1, x5.1, x6.1], n ≤ reachBytes := fun n hn => hw n (by simp only [DataW.weights, hs]; exact hn)
    exact ⟨z0 fun n hn => hw' n (DataW.weights_mem_each (j := 0) rfl rfl n hn), z1 fun n hn => hw' n (DataW.weights_mem_each (j := 1) rfl rfl n hn), z2 fun n hn => hw' n (DataW.weights_mem_each (j := 2) rfl rfl n hn), z3 fun n hn => hw' n (DataW.weights_mem_each (j := 3) rfl rfl n hn), z4 fun n hn => hw' n (DataW.weights_mem_each (j := 4) rfl rfl n hn), z5 fun n hn => hw' n (DataW.weights_mem_each (j := 5) rfl rfl n hn), z6 fun n hn => hw' n (DataW.weights_mem_each (j := 6) rfl rfl n hn)⟩
  · simp only [Rows.uptoBulk, Rows.uptoBulkAll, List.map]
    omega

theorem cells_split8 {β : Type} {cs : List β} {n0 n1 n2 n3 n4 n5 n6 n7 : Nat} (h : cs.length = n0 + n1 + n2 + n3 + n4 + n5 + n6 + n7) : cs = (cs.drop (0)).take n0 ++ ((cs.drop (n0)).take n1 ++ ((cs.drop (n0 + n1)).take n2 ++ ((cs.drop (n0 + n1 + n2)).take n3 ++ ((cs.drop (n0 + n1 + n2 + n3)).take n4 ++ ((cs.drop (n0 + n1 + n2 + n3 + n4)).take n5 ++ ((cs.drop (n0 + n1 + n2 + n3 + n4 + n5)).take n6 ++ ((cs.drop (n0 + n1 + n2 + n3 + n4 + n5 + n6)).take n7))))))) := by
  have p0 := drop_split cs (0) n0
  rw [Nat.zero_add] at p0
  have p1 := drop_split cs (n0) n1
  have p2 := drop_split cs (n0 + n1) n2
  have p3 := drop_split cs (n0 + n1 + n2) n3
  have p4 := drop_split cs (n0 + n1 + n2 + n3) n4
  have p5 := drop_split cs (n0 + n1 + n2 + n3 + n4) n5
  have p6 := drop_split cs (n0 + n1 + n2 + n3 + n4 + n5) n6
  have q : (cs.drop (n0 + n1 + n2 + n3 + n4 + n5 + n6)).take n7 = cs.drop (n0 + n1 + n2 + n3 + n4 + n5 + n6) := List.take_of_length_le (by rw [List.length_drop]; omega)
  rw [q]
  rw [← p6]
  rw [← p5]
  rw [← p4]
  rw [← p3]
  rw [← p2]
  rw [← p1]
  rw [← p0]
  rfl
theorem opened_struct8 {α0 α1 α2 α3 α4 α5 α6 α7 : Type} {t : TypeId} {f0 f1 f2 f3 f4 f5 f6 f7 : Field} {n0 n1 n2 n3 n4 n5 n6 n7 : Nat}
    {R0 : World → α0 → List Value → Prop} {g0 s0 : α0 → Prop} {b0 : α0 → Nat}
    {R1 : World → α1 → List Value → Prop} {g1 s1 : α1 → Prop} {b1 : α1 → Nat}
    {R2 : World → α2 → List Value → Prop} {g2 s2 : α2 → Prop} {b2 : α2 → Nat}
    {R3 : World → α3 → List Value → Prop} {g3 s3 : α3 → Prop} {b3 : α3 → Nat}
    {R4 : World → α4 → List Value → Prop} {g4 s4 : α4 → Prop} {b4 : α4 → Nat}
    {R5 : World → α5 → List Value → Prop} {g5 s5 : α5 → Prop} {b5 : α5 → Nat}
    {R6 : World → α6 → List Value → Prop} {g6 s6 : α6 → Prop} {b6 : α6 → Nat}
    {R7 : World → α7 → List Value → Prop} {g7 s7 : α7 → Prop} {b7 : α7 → Nat}
    (hs : Tryd.prog.underlying t = some (.struct #[f0, f1, f2, f3, f4, f5, f6, f7])) (hc : Tryd.prog.cellsOf t = n0 + n1 + n2 + n3 + n4 + n5 + n6 + n7)
    (hn0 : Tryd.prog.cellsOf f0.type = n0) (ho0 : f0.offset = 0) (h0 : Opened f0.type R0 g0 s0 b0)
    (hn1 : Tryd.prog.cellsOf f1.type = n1) (ho1 : f1.offset = n0) (h1 : Opened f1.type R1 g1 s1 b1)
    (hn2 : Tryd.prog.cellsOf f2.type = n2) (ho2 : f2.offset = n0 + n1) (h2 : Opened f2.type R2 g2 s2 b2)
    (hn3 : Tryd.prog.cellsOf f3.type = n3) (ho3 : f3.offset = n0 + n1 + n2) (h3 : Opened f3.type R3 g3 s3 b3)
    (hn4 : Tryd.prog.cellsOf f4.type = n4) (ho4 : f4.offset = n0 + n1 + n2 + n3) (h4 : Opened f4.type R4 g4 s4 b4)
    (hn5 : Tryd.prog.cellsOf f5.type = n5) (ho5 : f5.offset = n0 + n1 + n2 + n3 + n4) (h5 : Opened f5.type R5 g5 s5 b5)
    (hn6 : Tryd.prog.cellsOf f6.type = n6) (ho6 : f6.offset = n0 + n1 + n2 + n3 + n4 + n5) (h6 : Opened f6.type R6 g6 s6 b6)
    (hn7 : Tryd.prog.cellsOf f7.type = n7) (ho7 : f7.offset = n0 + n1 + n2 + n3 + n4 + n5 + n6) (h7 : Opened f7.type R7 g7 s7 b7)
    : Opened t (fun W (a : α0 × α1 × α2 × α3 × α4 × α5 × α6 × α7) cs => ∃ c0 c1 c2 c3 c4 c5 c6 c7, cs = c0 ++ (c1 ++ (c2 ++ (c3 ++ (c4 ++ (c5 ++ (c6 ++ (c7))))))) ∧ R0 W a.1 c0 ∧ R1 W a.2.1 c1 ∧ R2 W a.2.2.1 c2 ∧ R3 W a.2.2.2.1 c3 ∧ R4 W a.2.2.2.2.1 c4 ∧ R5 W a.2.2.2.2.2.1 c5 ∧ R6 W a.2.2.2.2.2.2.1 c6 ∧ R7 W a.2.2.2.2.2.2.2 c7) (fun a => g0 a.1 ∧ g1 a.2.1 ∧ g2 a.2.2.1 ∧ g3 a.2.2.2.1 ∧ g4 a.2.2.2.2.1 ∧ g5 a.2.2.2.2.2.1 ∧ g6 a.2.2.2.2.2.2.1 ∧ g7 a.2.2.2.2.2.2.2) (fun a => s0 a.1 ∧ s1 a.2.1 ∧ s2 a.2.2.1 ∧ s3 a.2.2.2.1 ∧ s4 a.2.2.2.2.1 ∧ s5 a.2.2.2.2.2.1 ∧ s6 a.2.2.2.2.2.2.1 ∧ s7 a.2.2.2.2.2.2.2) (fun a => b0 a.1 + b1 a.2.1 + b2 a.2.2.1 + b3 a.2.2.2.1 + b4 a.2.2.2.2.1 + b5 a.2.2.2.2.2.1 + b6 a.2.2.2.2.2.2.1 + b7 a.2.2.2.2.2.2.2) := by
  constructor
  intro H enc W fuel cs y hy
  obtain ⟨xs, m, rfl, rfl, hl, hx, hf⟩ := DataW.trod_struct hs hy
  obtain ⟨x0, x1, x2, x3, x4, x5, x6, x7, rfl⟩ : ∃ x0 x1 x2 x3 x4 x5 x6 x7, xs = [x0, x1, x2, x3, x4, x5, x6, x7] := by
    match xs, hx with
    | [x0, x1, x2, x3, x4, x5, x6, x7], _ => exact ⟨x0, x1, x2, x3, x4, x5, x6, x7, rfl⟩
  have e0 := hf 0 f0 rfl
  rw [hn0, ho0] at e0
  obtain ⟨a0, r0, k0, z0, u0⟩ := h0.out enc W m _ _ (e0.trans rfl)
  have e1 := hf 1 f1 rfl
  rw [hn1, ho1] at e1
  obtain ⟨a1, r1, k1, z1, u1⟩ := h1.out enc W m _ _ (e1.trans rfl)
  have e2 := hf 2 f2 rfl
  rw [hn2, ho2] at e2
  obtain ⟨a2, r2, k2, z2, u2⟩ := h2.out enc W m _ _ (e2.trans rfl)
  have e3 := hf 3 f3 rfl
  rw [hn3, ho3] at e3
  obtain ⟨a3, r3, k3, z3, u3⟩ := h3.out enc W m _ _ (e3.trans rfl)
  have e4 := hf 4 f4 rfl
  rw [hn4, ho4] at e4
  obtain ⟨a4, r4, k4, z4, u4⟩ := h4.out enc W m _ _ (e4.trans rfl)
  have e5 := hf 5 f5 rfl
  rw [hn5, ho5] at e5
  obtain ⟨a5, r5, k5, z5, u5⟩ := h5.out enc W m _ _ (e5.trans rfl)
  have e6 := hf 6 f6 rfl
  rw [hn6, ho6] at e6
  obtain ⟨a6, r6, k6, z6, u6⟩ := h6.out enc W m _ _ (e6.trans rfl)
  have e7 := hf 7 f7 rfl
  rw [hn7, ho7] at e7
  obtain ⟨a7, r7, k7, z7, u7⟩ := h7.out enc W m _ _ (e7.trans rfl)
  rw [hc] at hl
  refine ⟨(a0, a1, a2, a3, a4, a5, a6, a7), ⟨_, _, _, _, _, _, _, _, ?_, r0, r1, r2, r3, r4, r5, r6, r7⟩, ⟨k0, k1, k2, k3, k4, k5, k6, k7⟩, fun hw => ?_, ?_⟩
  · exact cells_split8 hl
  · have hw' : ∀ n ∈ DataW.weightsEach Tryd.prog [f0.type, f1.type, f2.type, f3.type, f4.type, f5.type, f6.type, f7.type] [x0.1, x1.1, x2.1, x3.1, x4.1, x5.1, x6.1, x7.1], n ≤ reachBytes := fun n hn => hw n (by simp only [DataW.weights, hs]; exact hn)
    exact ⟨z0 fun n hn => hw' n (DataW.weights_mem_each (j := 0) rfl rfl n hn), z1 fun n hn => hw' n (DataW.weights_mem_each (j := 1) rfl rfl n hn), z2 fun n hn => hw' n (DataW.weights_mem_each (j := 2) rfl rfl n hn), z3 fun n hn => hw' n (DataW.weights_mem_each (j := 3) rfl rfl n hn), z4 fun n hn => hw' n (DataW.weights_mem_each (j := 4) rfl rfl n hn), z5 fun n hn => hw' n (DataW.weights_mem_each (j := 5) rfl rfl n hn), z6 fun n hn => hw' n (DataW.weights_mem_each (j := 6) rfl rfl n hn), z7 fun n hn => hw' n (DataW.weights_mem_each (j := 7) rfl rfl n hn)⟩
  · simp only [Rows.uptoBulk, Rows.uptoBulkAll, List.map]
    omega

end Go.Proofs.YthpfcplhlhnfeaaDoor.F
namespace Go.Proofs.YthpfcplhlhnfeaaDoor.F
open Go.RowKit Go.Proofs.YthpfcplhlhnfeaaDoorW.PrintWords Go.Proofs.YthpfcplhlhnfeaaDoorW.PrintLast
set_option linter.unusedVariables false

/-! elements of type 42 -/
def good_42 (a : S42) : Prop := (Lit.int .u64 a.f0).wf = true ∧ a.f1.size ≤ maxLen
def sized_42 (a : S42) : Prop := True ∧ a.f1.size ≤ 140737488351232
def bulk_42 (a : S42) : Nat := (fun _ => 1) a.f0 + (fun a => a.size + 1) a.f1
theorem opened_42 : Opened 42 k42.K good_42 sized_42 bulk_42 :=
  Opened.iso (opened_struct2 (n0 := 1) (n1 := 1) Tryd.underlying42 (by kernel_rfl) (by kernel_rfl) rfl (opened_int (k := .u64) Tryd.underlying22) (by kernel_rfl) rfl (opened_string Tryd.underlying9)) (fun a => S42.mk a.1 a.2) (by rintro W a cs ⟨c0, c1, e, r0, r1⟩; exact ⟨c0, _, e, r0, r1⟩) (fun a h => h) (fun a h => h) (fun a => Nat.le_refl _)
end Go.Proofs.YthpfcplhlhnfeaaDoor.F
namespace Go.Proofs.YthpfcplhlhnfeaaDoor.F
open Go.RowKit Go.Proofs.YthpfcplhlhnfeaaDoorW.PrintWords Go.Proofs.YthpfcplhlhnfeaaDoorW.PrintLast Go.Proofs.YthpfcplhlhnfeaaDoorW.PrintMore
attribute [local go_sem] max2_int min2_int max_two min_two max_three min_three max_four min_four
set_option linter.unusedVariables false
set_option linter.unusedSimpArgs false
set_option maxRecDepth 4000
set_option linter.unnecessarySimpa false

/-! ### interchangelaw07_shown: function 10 -/
def interchangelaw07_shown.f  : Option (Bool) := (props_Bytes.f 60 5 0 ([] : List (S42))).bind fun bt127 => (if bt127.2 = 0 then (if bt127.1.toList = ([0, 60, 0, 0, 0, 0, 0, 0, 0, 0, 0, 5, 0, 0] : List UInt8) then ((props_Letters.f).bind fun t129 => (some (t129.toList == ([83, 83, 84, 111, 111, 83, 83, 83, 83, 113, 83, 83, 83, 83] : List UInt8)))) else (some false)) else (some false))
set_option maxHeartbeats 8000000 in
set_option maxRecDepth 100000 in
theorem interchangelaw07_shown.calls  (r : Bool) (w : World) (hg : Laid w) (h : interchangelaw07_shown.f  = some r) :
    Calls Tryd.prog 10 #[] w fun e w' => e = .returned (.bool r) ∧ Below w.heap.size w w' := by
  have HG := Aside0.mk hg
  clear hg
  have hu25 := Tryd.underlying25
  have HB := Aside0.mk (Below.refl w.heap.size w)
  have H : ((props_Bytes.f 60 5 0 ([] : List (S42))).bind fun bt127 => (if bt127.2 = 0 then (if bt127.1.toList = ([0, 60, 0, 0, 0, 0, 0, 0, 0, 0, 0, 5, 0, 0] : List UInt8) then ((props_Letters.f).bind fun t129 => (some (t129.toList == ([83, 83, 84, 111, 111, 83, 83, 83, 83, 113, 83, 83, 83, 83] : List UInt8)))) else (some false)) else (some false))) = some r := h
  clear h
  replace H := Option.bind_eq_some_iff.mp H
  obtain ⟨⟨t127, t128⟩, A10, H⟩ := H
  replace H : (if t128 = 0 then (if t127.toList = ([0, 60, 0, 0, 0, 0, 0, 0, 0, 0, 0, 5, 0, 0] : List UInt8) then ((props_Letters.f).bind fun t129 => (some (t129.toList == ([83, 83, 84, 111, 111, 83, 83, 83, 83, 113, 83, 83, 83, 83] : List UInt8)))) else (some false)) else (some false)) = some r := H
  have A1 := Aside0.mk A10
  clear A10
  by_cases c2 : t128 = 0
  · rw [if_pos c2] at H
    have c2b0 : (t128 == 0) = true := beq_iff_eq.mpr c2
    have c2b1 : (t128 != 0) = false := bne_eq_false_iff_eq.mpr c2
    clear c2
    by_cases c3 : t127.toList = ([0, 60, 0, 0, 0, 0, 0, 0, 0, 0, 0, 5, 0, 0] : List UInt8)
    · rw [if_pos c3] at H
      have c3b0 : (t127.toList == ([0, 60, 0, 0, 0, 0, 0, 0, 0, 0, 0, 5, 0, 0] : List UInt8)) = true := beq_iff_eq.mpr c3
      have c3b1 : (t127.toList != ([0, 60, 0, 0, 0, 0, 0, 0, 0, 0, 0, 5, 0, 0] : List UInt8)) = false := bne_eq_false_iff_eq.mpr c3
      clear c3
      replace H := Option.bind_eq_some_iff.mp H
      obtain ⟨t129, A40, H⟩ := H
      replace H : (some (t129.toList == ([83, 83, 84, 111, 111, 83, 83, 83, 83, 113, 83, 83, 83, 83] : List UInt8))) = some r := H
      have A4 := Aside0.mk A40
      clear A40
      obtain rfl := Option.some.inj H
      go_enter Tryd.func10, Tryd.ntmps10
      go_wp2_with (first | (go_at_call 11; (refine (props_Bytes.calls 60 5 0 _ _ ([] : List (S42)) t127 t128 _ ?lg ?side1 ?side2 A1.out).mono ?_); (case lg => exact HG.out.below HB.out); (case side1 => exact Kd.C_nil _ _); (case side2 => exact Nat.le_refl _); rintro e w5 ⟨rfl, hb⟩; have n0_ := Aside0.mk (below_step (by repeat (first | (with_reducible first | exact HB.out | apply below_alloc | apply pw_below_drewN | apply below_drew1) | exact HB.out)) hb); clear HB; have HB := n0_; clear n0_; (try clear hb); (try clear hb2); (try clear hk); (try clear hi)) | (go_at_call 22; (with_reducible refine (props_Letters.calls  t129 _ A4.out).mono ?_); rintro e w' ⟨rfl, ⟨nd, rfl⟩⟩))
      go_ret
      exact ⟨by first | rfl | (simp [errW_none, errW_some] <;> rfl) | (simp [*, errW_none, errW_some] <;> rfl), by repeat (first | (with_reducible first | exact HB.out | apply below_alloc | apply pw_below_drewN | apply below_drew1) | exact HB.out)⟩
    · rw [if_neg c3] at H
      have c3b0 : (t127.toList == ([0, 60, 0, 0, 0, 0, 0, 0, 0, 0, 0, 5, 0, 0] : List UInt8)) = false := beq_eq_false_iff_ne.mpr c3
      have c3b1 : (t127.toList != ([0, 60, 0, 0, 0, 0, 0, 0, 0, 0, 0, 5, 0, 0] : List UInt8)) = true := bne_iff_ne.mpr c3
      obtain rfl := Option.some.inj H
      go_enter Tryd.func10, Tryd.ntmps10
      go_wp2_with (first | (go_at_call 11; (refine (props_Bytes.calls 60 5 0 _ _ ([] : List (S42)) t127 t128 _ ?lg ?side1 ?side2 A1.out).mono ?_); (case lg => exact HG.out.below HB.out); (case side1 => exact Kd.C_nil _ _); (case side2 => exact Nat.le_refl _); rintro e w6 ⟨rfl, hb⟩; have n0_ := Aside0.mk (below_step (by repeat (first | (with_reducible first | exact HB.out | apply below_alloc | apply pw_below_drewN | apply below_drew1) | exact HB.out)) hb); clear HB; have HB := n0_; clear n0_; (try clear hb); (try clear hb2); (try clear hk); (try clear hi)))
      go_ret
      exact ⟨by first | rfl | (simp [errW_none, errW_some] <;> rfl) | (simp [*, errW_none, errW_some] <;> rfl), by repeat (first | (with_reducible first | exact HB.out | apply below_alloc | apply pw_below_drewN | apply below_drew1) | exact HB.out)⟩
  · rw [if_neg c2] at H
    have c2b0 : (t128 == 0) = false := beq_eq_false_iff_ne.mpr c2
    have c2b1 : (t128 != 0) = true := bne_iff_ne.mpr c2
    obtain rfl := Option.some.inj H
    go_enter Tryd.func10, Tryd.ntmps10
    go_wp2_with (first | (go_at_call 11; (refine (props_Bytes.calls 60 5 0 _ _ ([] : List (S42)) t127 t128 _ ?lg ?side1 ?side2 A1.out).mono ?_); (case lg => exact HG.out.below HB.out); (case side1 => exact Kd.C_nil _ _); (case side2 => exact Nat.le_refl _); rintro e w7 ⟨rfl, hb⟩; have n0_ := Aside0.mk (below_step (by repeat (first | (with_reducible first | exact HB.out | apply below_alloc | apply pw_below_drewN | apply below_drew1) | exact HB.out)) hb); clear HB; have HB := n0_; clear n0_; (try clear hb); (try clear hb2); (try clear hk); (try clear hi)))
    go_ret
    exact ⟨by first | rfl | (simp [errW_none, errW_some] <;> rfl) | (simp [*, errW_none, errW_some] <;> rfl), by repeat (first | (with_reducible first | exact HB.out | apply below_alloc | apply pw_below_drewN | apply below_drew1) | exact HB.out)⟩


end Go.Proofs.YthpfcplhlhnfeaaDoor.F
namespace Go.Proofs.YthpfcplhlhnfeaaDoor.F
open Go.RowKit Go.Proofs.YthpfcplhlhnfeaaDoorW.PrintWords Go.Proofs.YthpfcplhlhnfeaaDoorW.PrintLast Go.Proofs.YthpfcplhlhnfeaaDoorW.PrintMore
set_option linter.unusedVariables false
set_option linter.unusedSimpArgs false
set_option maxRecDepth 4000
theorem shown_t : interchangelaw07_shown.f = some true := by
  unfold interchangelaw07_shown.f
  have h : props_Bytes.f 60 5 0 ([] : List S42) = some (⟨#[0, 60, 0, 0, 0, 0, 0, 0, 0, 0, 0, 5, 0, 0]⟩, 0) := by
    unfold props_Bytes.f
    rw [if_pos (by decide)]
    decide +kernel
  rw [h]
  decide +kernel
theorem vals_ok {b fl : Int} {l : List S42} (h1 : (Lit.int .u64 b).wf = true) (h2 : (Lit.int .u64 fl).wf = true) (h3 : l.length ≤ maxLen ∧ ∀ x ∈ l, good_42 x) (hs : l.length * Tryd.prog.bytesOf 42 ≤ 140737488351232 ∧ ∀ x ∈ l, sized_42 x) : okH b fl l := by
  have hb : Tryd.prog.bytesOf 42 = 24 := by kernel_rfl
  have hl := hs.1
  rw [hb] at hl
  exact ⟨u64_bounds h1, u64_bounds h2, by omega, fun v hv => ⟨(u64_bounds (h3.2 v hv).1).1, (u64_bounds (h3.2 v hv).1).2, Nat.le_trans (hs.2 v hv).2 (by decide)⟩⟩
theorem val_ok {v0 : Int} {v1 : ByteArray} (h : (Lit.int .u64 v0).wf = true) (hs : v1.size ≤ 140737488351232) : okV ⟨v0, v1⟩ := ⟨(u64_bounds h).1, (u64_bounds h).2, Nat.le_trans hs (by decide)⟩
theorem okH.len {b fl : Int} {l : List S42} (h : okH b fl l) (b' : Int) (h' : 0 ≤ b' ∧ b' < 18446744073709551616) : okH b' fl l := ⟨h', h.2⟩
theorem Bytes_f {a b fl : Int} {l : List S42} (h : okH b fl l) : props_Bytes.f a b fl l = some (bytesR a b fl l) := by unfold props_Bytes.f; rw [if_pos h]
theorem Get_f {a b fl : Int} {l : List S42} (h : okH b fl l) (i : Int) : props_Get.f a b fl l i = some (getR a b fl l i) := by unfold props_Get.f; rw [if_pos h]
theorem RightR_size {a b fl : Int} {l : List S42} (h : RightR a b fl l = 0) (b' : Int) : RightR a b' fl l = if 65536 < b' then 4 else 0 := by
  obtain ⟨h1, h2, h3⟩ := right_form h
  unfold RightR
  rw [if_pos h1, h3]
theorem pnum8_size {v : Int} (h0 : 0 ≤ v) (h1 : v < 18446744073709551616) : (pnum 8 v).size = 8 := by
  unfold pnum putR
  rw [if_pos (.inr (.inr (.inr rfl))), if_pos (by show v < 18446744073709551616; omega), toBA_size, be_length]
  rfl
theorem pnum2_size {v : Int} (h1 : v ≤ 65535) : (pnum 2 v).size = 2 := by
  unfold pnum putR
  rw [if_pos (.inr (.inl rfl)), if_pos (by show v < 65536; omega), toBA_size, be_length]
  rfl
theorem headB_size {b fl : Int} (h0 : 0 ≤ b) (h1 : b < 18446744073709551616) (h2 : fl ≤ 65535) : (headB b fl).size = 14 := by
  unfold headB
  rw [size_append, size_append, size_append, pnum8_size h0 h1, pnum2_size h2, pnum2_size (by decide), pnum2_size (by decide)]
end Go.Proofs.YthpfcplhlhnfeaaDoor.F
namespace Go.Proofs.YthpfcplhlhnfeaaDoor.F
open Go.RowKit Go.Proofs.YthpfcplhlhnfeaaDoorW.PrintWords Go.Proofs.YthpfcplhlhnfeaaDoorW.PrintLast Go.Proofs.YthpfcplhlhnfeaaDoorW.PrintMore
set_option linter.unusedVariables false
set_option linter.unusedSimpArgs false
set_option maxRecDepth 4000
theorem head4_store {W : World} {B : Nat} {t : TypeId} {c0 c1 c2 c3 : Value} (h : W.heap[B]? = some (.cells #[c0, c1, c2, c3] t (0, 0))) (v0 v1 v2 v3 : Value) :
    ((((W.setCell ⟨B, 0, none⟩ v0).setCell ⟨B, 1, none⟩ v1).setCell ⟨B, 2, none⟩ v2).setCell ⟨B, 3, none⟩ v3).heap[B]? = some (.cells #[v0, v1, v2, v3] t (0, 0)) := by
  have a1 := blk_put h 0 v0 (cs' := #[v0, c1, c2, c3]) rfl
  have a2 := blk_put a1 1 v1 (cs' := #[v0, v1, c2, c3]) rfl
  have a3 := blk_put a2 2 v2 (cs' := #[v0, v1, v2, c3]) rfl
  exact blk_put a3 3 v3 rfl
theorem head4_cells {W : World} {B : Nat} {t : TypeId} {c0 c1 c2 c3 : Value} (h : W.heap[B]? = some (.cells #[c0, c1, c2, c3] t (0, 0))) :
    (W.cell? ⟨B, 0, none⟩ = some c0 ∧ W.cell? ⟨B, 1, none⟩ = some c1 ∧ W.cell? ⟨B, 2, none⟩ = some c2 ∧ W.cell? ⟨B, 3, none⟩ = some c3) ∧ W.frozen? ⟨B, 0, none⟩ = false ∧ W.frozen? ⟨B, 1, none⟩ = false ∧ W.frozen? ⟨B, 2, none⟩ = false ∧ W.frozen? ⟨B, 3, none⟩ = false :=
  ⟨⟨(blk_cell h 0).trans rfl, (blk_cell h 1).trans rfl, (blk_cell h 2).trans rfl, (blk_cell h 3).trans rfl⟩, blk_frozen h 0, blk_frozen h 1, blk_frozen h 2, blk_frozen h 3⟩
theorem head4_below {n : Nat} {w W : World} {B : Nat} (h : Below n w W) (hB : n ≤ B) (v0 v1 v2 v3 : Value) : Below n w ((((W.setCell ⟨B, 0, none⟩ v0).setCell ⟨B, 1, none⟩ v1).setCell ⟨B, 2, none⟩ v2).setCell ⟨B, 3, none⟩ v3) :=
  (((h.setCell (p := ⟨B, 0, none⟩) hB _).setCell (p := ⟨B, 1, none⟩) hB _).setCell (p := ⟨B, 2, none⟩) hB _).setCell (p := ⟨B, 3, none⟩) hB _
theorem grownBy_setAt (W : World) (b i : Nat) (v : Value) : W.grownBy (W.setCell ⟨b, i, none⟩ v) (some b) :=
  ⟨rfl, rfl, rfl, (KeepsWalks.setCell W _ v).size, fun k _ hk => Below.heap_setCell _ _ _ k (fun e => hk (by rw [e]))⟩
theorem blk_appended {W w1 : World} {n₀ base B : Nat} {t e : TypeId} {size k m : Nat} {c0 c1 c2 v v' : Value} {xs ys : List Value} {tmp : Obj}
    (hv : W.heap[B]? = some (.cells #[c0, c1, c2, v] t (0, 0))) (hrow : W.ownsRow base e size v k xs) (hb : base ≤ W.heap.size) (hB : B < base) (hn : n₀ ≤ B)
    (hown' : w1.ownsRow base e size v' m ys) (hgrow : (W.alloc tmp).grownBy w1 v.ownBlock) :
    w1.heap[B]? = some (.cells #[c0, c1, c2, v] t (0, 0)) ∧ (w1.setCell ⟨B, 3, none⟩ v').heap[B]? = some (.cells #[c0, c1, c2, v'] t (0, 0)) ∧ (w1.setCell ⟨B, 3, none⟩ v').ownsRow base e size v' m ys ∧ KeepsOthers W (w1.setCell ⟨B, 3, none⟩ v') ∧ Below n₀ W (w1.setCell ⟨B, 3, none⟩ v') := by
  have hne : some B ≠ v.ownBlock := row_ne hrow hB
  have hv1 : w1.heap[B]? = some (.cells #[c0, c1, c2, v] t (0, 0)) := (hgrow.block B (Array.getElem?_eq_some_iff.1 (blk_alloc hv tmp)).1 hne).trans (blk_alloc hv tmp)
  refine ⟨hv1, blk_put hv1 3 v' rfl, own_setCell hown' (p := ⟨B, 3, none⟩) (row_ne hown' hB) _, ?_, ?_⟩
  · refine ((KeepsOthers.alloc W tmp).trans (KeepsOthers.of_grownBy hgrow fun j o ej hj => ?_)).trans (KeepsOthers.setCell _ _ _)
    rcases (hrow.alloc tmp).2 with ⟨rfl, _⟩ | ⟨g, cap, cur, rfl, _, hgb, _⟩
    · simp [Value.ownBlock] at ej
    · obtain rfl : g = j := by simpa [Value.ownBlock] using ej
      rw [hgb] at hj; cases hj; rfl
  · refine (((Below.refl n₀ W).alloc (by omega) tmp).grown hgrow (by simp; omega) fun j ej => ?_).setCell (p := ⟨B, 3, none⟩) hn v'
    rcases hrow.2 with ⟨rfl, _⟩ | ⟨g, cap, cur, rfl, hb, _, _⟩
    · simp [Value.ownBlock] at ej
    · obtain rfl : g = j := by simpa [Value.ownBlock] using ej
      omega
/-- another block, over the same step -/
theorem blk_kept {W w1 : World} {base B B2 i : Nat} {t e : TypeId} {size k : Nat} {v : Value} {cs : Array Value} {xs : List Value} {tmp : Obj} {u : Value}
    (hv : W.heap[B2]? = some (.cells cs t (0, 0))) (hrow : W.ownsRow base e size v k xs) (hB : B2 < base) (hne : B2 ≠ B) (hgrow : (W.alloc tmp).grownBy w1 v.ownBlock) :
    (w1.setCell ⟨B, i, none⟩ u).heap[B2]? = some (.cells cs t (0, 0)) :=
  blk_far ((hgrow.block B2 (Array.getElem?_eq_some_iff.1 (blk_alloc hv tmp)).1 (row_ne hrow hB)).trans (blk_alloc hv tmp)) hne _
/-- a row of values -/
theorem R_far4 {W : World} {base B : Nat} {v : Value} {l : List S42} (h : Kd.R k42 42 W base (fun _ => True) v l) (hB : B < base) (v0 v1 v2 v3 : Value) :
    Kd.R k42 42 ((((W.setCell ⟨B, 0, none⟩ v0).setCell ⟨B, 1, none⟩ v1).setCell ⟨B, 2, none⟩ v2).setCell ⟨B, 3, none⟩ v3) base (fun _ => True) v l :=
  Kd.R_mono (Kd.R_far (Kd.R_far (Kd.R_far (Kd.R_far (Kd.R_bound h) (p := ⟨B, 0, none⟩) (fun k hk => by have := hk.2.1; show k ≠ B; omega) v0) (p := ⟨B, 1, none⟩) (fun k hk => by have := hk.2.1; show k ≠ B; omega) v1) (p := ⟨B, 2, none⟩) (fun k hk => by have := hk.2.1; show k ≠ B; omega) v2) (p := ⟨B, 3, none⟩) (fun k hk => by have := hk.2.1; show k ≠ B; omega) v3) (fun _ _ => trivial)
theorem vals_row {W : World} {base : Nat} {v : Value} {l : List S42} (h : Kd.R k42 42 W base (fun _ => True) v l) : ∃ inner : List Value, W.ownsRow base 42 2 v l.length inner ∧
    ∀ (W' : World) (v' : Value) (x : S42), W'.ownsRow base 42 2 v' (l.length + 1) (inner ++ [.int .u64 x.f0, .string x.f1]) → Kd.R k42 42 W' base (fun _ => True) v' (l ++ [x]) := by
  obtain ⟨_, inner, hrow0, hreps⟩ := h
  exact ⟨inner, hrow0, fun W' v' x hr2 => ⟨fun _ _ => trivial, _, by rw [List.length_append]; exact hr2, (hreps.imp_ (fun _ c hq => by rw [k42_openM hq]; exact k42_mkM _ _ _ _)).snoc (k42_mkM _ _ _ x) rfl⟩⟩
end Go.Proofs.YthpfcplhlhnfeaaDoor.F
