/- Texts of this session for the law PropsTakes, one behind the other: Hget, Htail, propsBytes1, Hpbytes, Hrow4, propsvalue, Pptake, Hptake, interchangelaw07shown. -/
import Derived.Deep.RegionHeld3
import Derived.Test.YthpfcplhlhnfeaaDoorBPropsTakesa
import Derived.Test.YthpfcplhlhnfeaaDoorBPropsTakesb
import Derived.Test.YthpfcplhlhnfeaaDoorBPropsTakesc
namespace Go.Proofs.YthpfcplhlhnfeaaDoor.F
open Go.RowKit Go.Proofs.YthpfcplhlhnfeaaDoorW.PrintWords Go.Proofs.YthpfcplhlhnfeaaDoorW.PrintLast Go.Proofs.YthpfcplhlhnfeaaDoorW.PrintMore
set_option linter.unusedVariables false
set_option linter.unusedSimpArgs false
set_option maxRecDepth 4000
attribute [local go_sem] Oper.semAt_some
theorem results_sb {P : Program} {fn : Func} {p q : Tmp} {ty ty2 : TypeId} {d2 : TypeDesc} {u : Value} (h : fn.results = #[.cell p ty, .cell q ty2]) (tmps : Array Value) (w : World) (g : Nat) (t : TypeId) (cs : Array Value) (fr : Nat × Nat) (d : TypeDesc) (b : Addr)
    (hp : tmps.getD p undef = .pointer (some ⟨g, 0, none⟩)) (hg : w.heap[g]? = some (.cells cs t fr)) (hu : P.underlying ty = some d) (hd : (match d with | .struct _ | .array _ _ => true | _ => false) = true) (hi : (P.info? ty).map (·.size) = some cs.size)
    (hq : tmps.getD q undef = .pointer (some b)) (hu2 : P.underlying ty2 = some d2) (hd2 : (match d2 with | .struct _ | .array _ _ => true | _ => false) = false) (hc2 : w.cell? b = some u) : (results fn tmps).run P w = .ok (.tuple #[.agg cs, u]) w := by
  have h1 : tmps[p]?.getD undef = .pointer (some ⟨g, 0, none⟩) := by simpa using hp
  have h2 : tmps[q]?.getD undef = .pointer (some b) := by simpa using hq
  have hb : (isAgg ty2).run P w = .ok false w := by cases d2 <;> simp_all [isAgg, run_underlying hu2]
  have hl : (loadVar ty2 b).run P w = .ok u w := by simp [loadVar, hb, go_sem, hc2]
  simp [results, h, h1, h2, asAddr, run_loadVar_row w g t ty cs fr d hg hu hd hi, hl]
/-- the property's value, of the ones in a list, from the n-th value on -/
def getGo (l : List S42) (i : Int) : List Nat → Nat → Int × ByteArray × Bool
  | [], _ => (0, ⟨#[]⟩, false)
  | k :: ks, n => if (k : Int) = i then ((l.getD n z42).f0, (l.getD n z42).f1, true) else getGo l i ks (n + 1)
theorem getGo_app (l : List S42) (i : Int) : ∀ (pre rest : List Nat) (n : Nat), (∀ k ∈ pre, ¬ (k : Int) = i) → getGo l i (pre ++ rest) n = getGo l i rest (n + pre.length)
  | [], rest, n, _ => rfl
  | k :: pre, rest, n, h => by
    rw [List.cons_append, getGo, if_neg (h k (List.mem_cons_self ..)), getGo_app l i pre rest (n + 1) fun q hq => h q (List.mem_cons_of_mem _ hq), List.length_cons, show n + 1 + pre.length = n + (pre.length + 1) by omega]
def getR (a b fl : Int) (l : List S42) (i : Int) : Int × ByteArray × Bool := if RightR a b fl l = 0 then getGo l i (whichF fl 0) 0 else (0, ⟨#[]⟩, false)
def props_Get.f (a b fl : Int) (l : List S42) (i : Int) : Option (Int × ByteArray × Bool) := if okH b fl l then some (getR a b fl l i) else none
theorem right_form {a b fl : Int} {l : List S42} (h : RightR a b fl l = 0) : FormR a fl l ∧ ¬ 65536 < b ∧ valuesR fl l = 0 := by
  unfold RightR at h
  by_cases e : FormR a fl l
  · rw [if_pos e] at h
    by_cases e2 : 65536 < b
    · rw [if_pos e2] at h; exact absurd h (by decide)
    · rw [if_neg e2] at h; exact ⟨e, e2, h⟩
  · rw [if_neg e] at h; exact absurd h (by decide)
/-- What the blocks of a call of Get hold between two rounds. -/
def GHeld (w0 : World) (e : Nat) (cs : Array Value) (i : Int) (pre : List Nat) (W : World) : Prop :=
  W.heap[e]? = some (.cells cs 61 (0, 0)) ∧ W.heap[w0.heap.size]? = some (.cells cs 25 (0, 0)) ∧ Boxed W (w0.heap.size + 1) 3 (.int .i64 i) ∧ W.heap[w0.heap.size + 1 + 1]? = some (.cells #[.int .u64 0, .string ⟨#[]⟩] 42 (0, 0)) ∧ Boxed W (w0.heap.size + 1 + 1 + 1) 4 (.bool false) ∧ (∀ k ∈ pre, ¬ (k : Int) = i) ∧ Below w0.heap.size w0 W
theorem GHeld.below {w0 : World} {e : Nat} {cs : Array Value} {i : Int} {pre : List Nat} {W W' : World} (hb : Below W.heap.size W W') (h : GHeld w0 e cs i pre W) : GHeld w0 e cs i pre W' := by
  obtain ⟨h1, h0, h2, h3, h4, h5, h8⟩ := h
  exact ⟨blk_below h1 hb, blk_below h0 hb, boxed_below h2 hb, blk_below h3 hb, boxed_below h4 hb, h5, h8.trans (hb.mono (by have := h2.lt; omega))⟩
theorem GHeld.own {w0 : World} {B e : Nat} {cs : Array Value} {i : Int} (hB : w0.heap.size ≤ B) : OwnFrom B (GHeld w0 e cs i) := by
  rintro x W W' row ⟨h1, h0, h2, h3, h4, h5, h8⟩ hg hr
  have hr' : ∀ r, row = some r → ∃ o : Obj, W.heap[r]? = some o ∧ o.isCells = false := fun r e => (hr r e).2
  exact ⟨blk_other h1 hg hr', blk_other h0 hg hr', boxed_other h2 hg hr', blk_other h3 hg hr', boxed_other h4 hg hr', h5, ownFrom_below (β := List Nat) (Nat.le_refl _) hB x W W' row h8 hg hr⟩
/-- where it was found -/
def GX (w0 : World) (r1 : Int) (r2 : ByteArray) (r3 : Bool) (c : Code) (_ : List Nat × Nat) (W : World) : Prop :=
  c = .ret ∧ W.heap[w0.heap.size + 1 + 1]? = some (.cells #[.int .u64 r1, .string r2] 42 (0, 0)) ∧ Boxed W (w0.heap.size + 1 + 1 + 1) 4 (.bool r3) ∧ Below w0.heap.size w0 W
theorem GX.own {w0 : World} {B : Nat} {r1 : Int} {r2 : ByteArray} {r3 : Bool} (hB : w0.heap.size ≤ B) (c : Code) : OwnFrom B (GX w0 r1 r2 r3 c) := by
  rintro x W W' row ⟨h1, h2, h4, h8⟩ hg hr
  have hr' : ∀ r, row = some r → ∃ o : Obj, W.heap[r]? = some o ∧ o.isCells = false := fun r e => (hr r e).2
  exact ⟨h1, blk_other h2 hg hr', boxed_other h4 hg hr', ownFrom_below (β := List Nat × Nat) (Nat.le_refl _) hB x W W' row h8 hg hr⟩
/-- a value and a bool, stored into their cells -/
theorem val_store {W : World} {B2 B3 : Nat} {t tb : TypeId} {v : Int} {s : ByteArray} {u : Bool} (h2 : W.heap[B2]? = some (.cells #[.int .u64 v, .string s] t (0, 0))) (h3 : Boxed W B3 tb (.bool u)) (hne : B2 ≠ B3) (v' : Int) (s' : ByteArray) (u' : Bool) :
    (((W.setCell ⟨B2, 0, none⟩ (.int .u64 v')).setCell ⟨B2, 1, none⟩ (.string s')).setCell ⟨B3, 0, none⟩ (.bool u')).heap[B2]? = some (.cells #[.int .u64 v', .string s'] t (0, 0)) ∧ Boxed (((W.setCell ⟨B2, 0, none⟩ (.int .u64 v')).setCell ⟨B2, 1, none⟩ (.string s')).setCell ⟨B3, 0, none⟩ (.bool u')) B3 tb (.bool u') := by
  have a1 := blk_put h2 0 (.int .u64 v') (cs' := #[.int .u64 v', .string s]) rfl
  have a2 := blk_put a1 1 (.string s') (cs' := #[.int .u64 v', .string s']) rfl
  have b1 : Boxed (W.setCell ⟨B2, 0, none⟩ (.int .u64 v')) B3 tb (.bool u) := blk_far h3 (Ne.symm hne) _
  have b2 : Boxed ((W.setCell ⟨B2, 0, none⟩ (.int .u64 v')).setCell ⟨B2, 1, none⟩ (.string s')) B3 tb (.bool u) := blk_far b1 (Ne.symm hne) _
  exact ⟨blk_far a2 hne _, b2.set _⟩
theorem val_store_below {w W : World} {B2 B3 : Nat} (h : Below w.heap.size w W) (h2 : w.heap.size ≤ B2) (h3 : w.heap.size ≤ B3) (v' s' u' : Value) : Below w.heap.size w (((W.setCell ⟨B2, 0, none⟩ v').setCell ⟨B2, 1, none⟩ s').setCell ⟨B3, 0, none⟩ u') :=
  ((h.setCell (p := ⟨B2, 0, none⟩) h2 _).setCell (p := ⟨B2, 1, none⟩) h2 _).setCell (p := ⟨B3, 0, none⟩) h3 _
set_option maxHeartbeats 4000000 in
set_option maxRecDepth 100000 in
theorem props_Get.calls (a b fl : Int) (A : Option Addr) (c : Nat) (l : List S42) (i : Int) (r1 : Int) (r2 : ByteArray) (r3 : Bool) (w : World) (hg : Laid w) (hr : Kd.C k42 w A l.length l) (hc : l.length ≤ c) (h : props_Get.f a b fl l i = some (r1, r2, r3)) :
    Calls Tryd.prog 18 #[.agg #[.int .i64 a, .int .u64 b, .int .u64 fl, .slice A l.length c], .int .i64 i] w fun e w' => e = .returned (.tuple #[.agg #[.int .u64 r1, .string r2], .bool r3]) ∧ Below w.heap.size w w' := by
  have hok : okH b fl l := by
    unfold props_Get.f at h
    split at h
    · assumption
    · cases h
  unfold props_Get.f at h
  rw [if_pos hok] at h
  replace h := Option.some.inj h
  unfold getR at h
  have hRt := Aside0.mk (Right_k (k := 4) (by decide) a b fl l hok)
  have HR := Aside0.mk hr
  have HG := Aside0.mk hg
  have HOK := Aside0.mk hok
  have hrf := right_form (a := a) (b := b) (fl := fl) (l := l)
  generalize RightR a b fl l = q at h hRt hrf
  clear hr hg hok
  have hu61 := Tryd.underlying61
  have hu25 := Tryd.underlying25
  have hu42 := Tryd.underlying42
  have hinf : (Tryd.prog.info? 42).map (·.size) = some 2 := by kernel_rfl
  obtain ⟨w4, hw4⟩ : ∃ w4, (((w.alloc (.cells #[.int .i64 a, .int .u64 b, .int .u64 fl, .slice A l.length c] 25)).alloc (.cells #[.int .i64 i] 3)).alloc (.cells #[.int .u64 0, .string ⟨#[]⟩] 42)).alloc (.cells #[.bool false] 4) = w4 := ⟨_, rfl⟩
  have hB4 : Below w.heap.size w w4 := by
    rw [← hw4]
    exact ((((Below.refl _ w).alloc (Nat.le_refl _) _).alloc (by simp) _).alloc (by simp; omega) _).alloc (by simp; omega) _
  have X0 : w4.heap[w.heap.size]? = some (.cells #[.int .i64 a, .int .u64 b, .int .u64 fl, .slice A l.length c] 25 (0, 0)) := by
    rw [← hw4]
    exact blk_alloc (blk_alloc (blk_alloc (blk_new w _) _) _) _
  have X1 : Boxed w4 (w.heap.size + 1) 3 (.int .i64 i) := by
    rw [← hw4]
    exact ((boxed_at _ _ _ _ (by simp)).alloc _).alloc _
  have X2 : w4.heap[w.heap.size + 1 + 1]? = some (.cells #[.int .u64 0, .string ⟨#[]⟩] 42 (0, 0)) := by
    rw [← hw4]
    have := blk_new ((w.alloc (.cells #[.int .i64 a, .int .u64 b, .int .u64 fl, .slice A l.length c] 25)).alloc (.cells #[.int .i64 i] 3)) (.cells #[.int .u64 0, .string ⟨#[]⟩] 42)
    refine blk_alloc ?_ _
    simpa using this
  have X3 : Boxed w4 (w.heap.size + 1 + 1 + 1) 4 (.bool false) := by
    rw [← hw4]
    exact boxed_at _ _ _ _ (by simp)
  have hs4 : w4.heap.size = w.heap.size + 4 := by rw [← hw4]; simp
  have d0 := (blk_cell X0 0).trans rfl
  have d1 := (blk_cell X0 1).trans rfl
  have d2 := (blk_cell X0 2).trans rfl
  have d3 := (blk_cell X0 3).trans rfl
  by_cases e : q = 0
  · subst e
    rw [if_pos rfl] at h
    obtain ⟨hform, -, -⟩ := hrf rfl
    have hlen := hform.2.2.2
    have HS := Aside0.mk h
    clear h hrf hform
    obtain ⟨cs, hcs⟩ : ∃ cs : Array Value, cs = #[.int .i64 a, .int .u64 b, .int .u64 fl, .slice A l.length c] := ⟨_, rfl⟩
    refine (callsIn_wide (n := 4)).1 ?_
    refine callsIn_of_wp_marks Tryd.func18 rfl trivial ?_ rfl
    simp only [Tryd.ntmps18, List.size_toArray, List.length_cons, List.length_nil, Nat.reduceAdd, Nat.reduceSub, Array.replicate_succ, Array.replicate_zero, List.push_toArray, List.append_toArray, List.nil_append, List.cons_append]
    gi_wp2_with (first | ((with_reducible refine And.intro ?_ ?_); (exact trivial); gi_at_call 14; refine (callsIn_wide.2 (props_Right.calls 4 a b fl A c l 0 _ (HG.out.below hB4) (Kd.C_below HR.out hB4) hc hRt.out)).mono ?_; rintro e w1 ⟨rfl, hb1⟩; have x0 := blk_below X0 hb1; have c0 := (blk_cell x0 0).trans rfl; have c1 := (blk_cell x0 1).trans rfl; have c2 := (blk_cell x0 2).trans rfl; have c3 := (blk_cell x0 3).trans rfl) | ((with_reducible refine And.intro ?_ ?_); (exact trivial); gi_at_call 25; refine (callsIn_wide.2 (each_calls _ _ _ _ _)).mono ?_; rintro e w' ⟨rfl, rfl⟩))
    have hBw : Below w.heap.size w w1 := hB4.trans (hb1.mono (by omega))
    have hs1 : w.heap.size + 4 ≤ w1.heap.size := by have := hb1.size; omega
    have hA : Below w1.heap.size w1 (w1.alloc (.cells #[.int .i64 a, .int .u64 b, .int .u64 fl, .slice A l.length c] 61)) := (Below.refl _ _).alloc (Nat.le_refl _) _
    have hF0 : GHeld w w1.heap.size cs i [] (w1.alloc (.cells #[.int .i64 a, .int .u64 b, .int .u64 fl, .slice A l.length c] 61)) := by
      rw [hcs]
      exact ⟨blk_new w1 _, blk_below (blk_below X0 hb1) hA, boxed_below (boxed_below X1 hb1) hA, blk_below (blk_below X2 hb1) hA, boxed_below (boxed_below X3 hb1) hA, fun _ h => absurd h List.not_mem_nil, hBw.trans (hA.mono (by omega))⟩
    have hsz : (w1.alloc (.cells #[.int .i64 a, .int .u64 b, .int .u64 fl, .slice A l.length c] 61)).heap.size = w1.heap.size + 1 := by simp
    have hown : OwnFrom (w1.alloc (.cells #[.int .i64 a, .int .u64 b, .int .u64 fl, .slice A l.length c] 61)).heap.size (GHeld w w1.heap.size cs i) := GHeld.own (by rw [hsz]; omega)
    clear X0 X1 X2 X3 d0 d1 d2 d3 c0 c1 c2 c3
    refine wpIn_rangeFunc_shared rfl (by decide) (gf := 44) (lb := #[.pointer (some ⟨w1.heap.size, 0, none⟩)]) rfl trivial (enters_of Tryd.func44 (by kernel_rfl) rfl)
      eencs (fun _ => rfl) (EJ (GHeld w w1.heap.size cs i) fl (whichF fl 0))
      (EJ1 (GHeld w w1.heap.size cs i) fl (whichF fl 0) fun x y => #[.agg #[.int .i64 a, .int .u64 b, .int .u64 fl, .slice A l.length c], .int .i64 i, .pointer (some ⟨w.heap.size, 0, none⟩), .pointer (some ⟨w.heap.size + 1, 0, none⟩), .pointer (some ⟨w.heap.size + 1 + 1, 0, none⟩), .pointer (some ⟨w.heap.size + 1 + 1 + 1, 0, none⟩), x, y,
        .agg #[.int .i64 a, .int .u64 b, .int .u64 fl, .slice A l.length c], .int .i64 0, .bool false, undef, .agg #[.int .i64 a, .int .u64 b, .int .u64 fl, .slice A l.length c], .agg #[.int .i64 a, .int .u64 b, .int .u64 fl, .slice A l.length c], .func (.func 44) #[] #[.pointer (some ⟨w1.heap.size, 0, none⟩)], x, y,
        undef, undef, undef, undef, undef, undef, undef, undef, undef])
      (EJ2 (GHeld w w1.heap.size cs i) fl (whichF fl 0)) (GX w r1 r2 r3) (fun _ W => GHeld w w1.heap.size cs i (whichF fl 0) W)
      (EJ1.own hown) (EJ2.own hown) (fun c' => GX.own (by rw [hsz]; omega) c') (fun _ => hown _) ?seq ?assign ?body ?done ?stop
    case stop =>
      rintro D c' s W hD ⟨rfl, e2, e3, e5⟩ hK
      rw [hsz] at hD
      have hBd := e5.trans (belowK_b (w := w) (Nat.le_refl _) W D _ (.deferred none) (by omega) hK rfl rfl)
      gi_wp2
      refine ⟨by simp, .inl ⟨_, _, rfl, run_takeDeferred hK, ?_⟩⟩
      have y2 := blk_other e2 (grownBy_putObj' W D (.deferred none)) (fun r e => by cases e; exact ⟨_, hK, rfl⟩)
      have y3 := (boxed_other e3 (grownBy_putObj' W D (.deferred none)) (fun r e => by cases e; exact ⟨_, hK, rfl⟩)).cell
      exact ⟨_, results_sb rfl _ _ _ _ _ _ _ _ rfl y2 hu42 rfl hinf rfl Tryd.underlying4 rfl y3, rfl, hBd⟩
    case seq =>
      rintro lp B X o1 o2 W1 hW1 _ hB h1 hY
      have hF1 : GHeld w w1.heap.size cs i [] W1 := by
        rw [← hW1]
        exact hF0.below (((Below.refl _ _).alloc (Nat.le_refl _) _).alloc (by simp) _)
      exact each_iter 2 a b fl HOK.out.2.1.1 HOK.out.2.1.2 A c l hc w1.heap.size (GHeld w w1.heap.size cs i) (fun _ _ _ hb h => h.below hb) (fun _ _ h => hcs ▸ h.1) (fun _ _ h => Kd.C_below HR.out h.2.2.2.2.2.2) (whichF fl 0) lp _ B X W1 hB h1 hY hF1 rfl
    case assign =>
      rintro lp s W K hlt hJ hK
      unfold eencs
      gi_wp2
      apply hK
      · exact (KeepsOthers.refl _).from _
      · exact ⟨by simp, hJ⟩
    case done =>
      rintro D W hD ⟨e0, e1, e2, e3, e4, hni, e5⟩ hK
      rw [hsz] at hD
      have hgo := getGo_app l i (whichF fl 0) [] 0 hni
      rw [List.append_nil, getGo] at hgo
      obtain ⟨rfl, hz⟩ := Prod.mk.inj (HS.out.symm.trans hgo)
      obtain ⟨rfl, rfl⟩ := Prod.mk.inj hz
      clear hz hgo
      have c20 := (blk_cell e3 0).trans rfl
      have c21 := (blk_cell e3 1).trans rfl
      have f20 := blk_frozen e3 0
      have f21 := blk_frozen e3 1
      have c3 := e4.cell
      have f3 := e4.frozen
      obtain ⟨y2, y3⟩ := val_store e3 e4 (by omega) 0 ⟨#[]⟩ false
      have hB2 := val_store_below e5 (B2 := w.heap.size + 1 + 1) (B3 := w.heap.size + 1 + 1 + 1) (by omega) (by omega) (.int .u64 0) (.string ⟨#[]⟩) (.bool false)
      have hK2 : (((W.setCell ⟨w.heap.size + 1 + 1, 0, none⟩ (.int .u64 0)).setCell ⟨w.heap.size + 1 + 1, 1, none⟩ (.string ⟨#[]⟩)).setCell ⟨w.heap.size + 1 + 1 + 1, 0, none⟩ (.bool false)).heap[D]? = some (.deferred (some [])) :=
        (KeepsOthers.setCell _ _ _).same D _ ((KeepsOthers.setCell _ _ _).same D _ ((KeepsOthers.setCell _ _ _).same D _ hK rfl) rfl) rfl
      obtain ⟨W3, hW3⟩ : ∃ W3, ((W.setCell ⟨w.heap.size + 1 + 1, 0, none⟩ (.int .u64 0)).setCell ⟨w.heap.size + 1 + 1, 1, none⟩ (.string ⟨#[]⟩)).setCell ⟨w.heap.size + 1 + 1 + 1, 0, none⟩ (.bool false) = W3 := ⟨_, rfl⟩
      rw [hW3] at y2 y3 hB2 hK2
      have hBd := hB2.trans (belowK_b (w := w) (Nat.le_refl _) W3 D _ (.deferred none) (by omega) hK2 rfl rfl)
      clear e3 e4
      gi_wp2
      refine ⟨by simp, .inl ⟨_, _, rfl, run_takeDeferred hK2, ?_⟩⟩
      have z2 := blk_other y2 (grownBy_putObj' W3 D (.deferred none)) (fun r e => by cases e; exact ⟨_, hK2, rfl⟩)
      have z3 := (boxed_other y3 (grownBy_putObj' W3 D (.deferred none)) (fun r e => by cases e; exact ⟨_, hK2, rfl⟩)).cell
      exact ⟨_, results_sb rfl _ _ _ _ _ _ _ _ rfl z2 hu42 rfl hinf rfl Tryd.underlying4 rfl z3, rfl, hBd⟩
    case body =>
      rintro lp s a' W hlt ⟨ha', hJ⟩
      obtain ⟨⟨h1, h0, h2, h3, h4, h5, h8⟩, hx, hh, ht, hle⟩ := hJ
      dsimp only at ha' hx hle ht h5
      subst ha'
      have hv := h2.cell
      have hws := whichF_step fl s.2 hx
      rw [hh, if_pos rfl] at hws
      have hnl : s.1.length < l.length := by
        have := congrArg List.length ht
        rw [hws, List.length_append, List.length_cons] at this
        omega
      by_cases e1 : (s.2 : Int) = i
      · have d1 : ((s.2 : Int) == i) = true := beq_iff_eq.2 e1
        have hgo : getGo l i (whichF fl 0) 0 = ((l.getD s.1.length z42).f0, (l.getD s.1.length z42).f1, true) := by
          rw [ht, getGo_app l i s.1 _ 0 h5, hws, getGo, if_pos e1, Nat.zero_add]
        have hrr := HS.out.symm.trans hgo
        obtain ⟨ad, hA', hx0, hx1⟩ := at_T42 (Kd.C_below HR.out h8) (s.1.length : Int) (by omega) (by omega)
        have hrd : rd_T42 l (s.1.length : Int) = l.getD s.1.length z42 := by unfold rd_T42; rw [Int.toNat_natCast]
        rw [hrd] at hx0 hx1
        rw [Int.toNat_natCast] at hx0 hx1
        generalize l.getD s.1.length z42 = v at hrr hx0 hx1
        obtain ⟨rfl, hz⟩ := Prod.mk.inj hrr
        obtain ⟨rfl, rfl⟩ := Prod.mk.inj hz
        obtain rfl := hA'
        rw [hcs] at h0
        have c3 := (blk_cell h0 3).trans rfl
        have p1 : (0 : Int) ≤ (s.1.length : Int) := by omega
        have q1 : (s.1.length : Int) < (l.length : Int) := by omega
        have q2 : s.1.length < l.length := hnl
        have c20 := (blk_cell h3 0).trans rfl
        have c21 := (blk_cell h3 1).trans rfl
        have f20 := blk_frozen h3 0
        have f21 := blk_frozen h3 1
        have c4 := h4.cell
        have f4 := h4.frozen
        have hT := Aside0.mk ht
        clear hgo hrr hz hws ht hh hrd h5
        obtain ⟨y2, y3⟩ := val_store h3 h4 (by omega) v.f0 v.f1 true
        have hB2 := val_store_below h8 (B2 := w.heap.size + 1 + 1) (B3 := w.heap.size + 1 + 1 + 1) (by omega) (by omega) (.int .u64 v.f0) (.string v.f1) (.bool true)
        clear h3 h4
        gi_wp2
        exact ⟨((KeepsOthers.setCell _ _ _).from _).trans (((KeepsOthers.setCell _ _ _).from _).trans ((KeepsOthers.setCell _ _ _).from _)), rfl, y2, y3, hB2⟩
      · have d1 : ((s.2 : Int) == i) = false := beq_eq_false_iff_ne.2 e1
        have h5' : ∀ k ∈ s.1 ++ [s.2], ¬ (k : Int) = i := by
          intro k hk
          rcases List.mem_append.1 hk with h | h
          · exact h5 k h
          · rw [List.mem_singleton.1 h]; exact e1
        have H5 := Aside0.mk h5'
        have hT := Aside0.mk ht
        clear e1 h5' h5 hws ht
        subst hcs
        gi_wp2
        exact ⟨(KeepsOthers.refl _).from _, ⟨h1, h0, h2, h3, h4, H5.out, h8⟩, hx, hh, hT.out, hle⟩
  · rw [if_neg e] at h
    obtain ⟨rfl, h2⟩ := Prod.mk.inj h
    obtain ⟨rfl, rfl⟩ := Prod.mk.inj h2
    have e1 : (q != 0) = true := bne_iff_ne.2 e
    clear h h2 hrf e
    refine (callsIn_wide (n := 4)).1 ?_
    refine callsIn_of_wp_marks Tryd.func18 rfl trivial ?_ rfl
    simp only [Tryd.ntmps18, List.size_toArray, List.length_cons, List.length_nil, Nat.reduceAdd, Nat.reduceSub, Array.replicate_succ, Array.replicate_zero, List.push_toArray, List.append_toArray, List.nil_append, List.cons_append]
    gi_wp2_with (first | ((with_reducible refine And.intro ?_ ?_); (exact trivial); gi_at_call 14; refine (callsIn_wide.2 (props_Right.calls 4 a b fl A c l q _ (HG.out.below hB4) (Kd.C_below HR.out hB4) hc hRt.out)).mono ?_; rintro e w1 ⟨rfl, hb1⟩; have x2 := blk_below X2 hb1; have x3 := boxed_below X3 hb1; have c20 := (blk_cell x2 0).trans rfl; have c21 := (blk_cell x2 1).trans rfl; have f20 := blk_frozen x2 0; have f21 := blk_frozen x2 1; have c3 := x3.cell; have f3 := x3.frozen))
    obtain ⟨y2, y3⟩ := val_store x2 x3 (by omega) 0 ⟨#[]⟩ false
    exact ⟨_, results_sb rfl _ _ _ _ _ _ _ _ rfl y2 hu42 rfl hinf rfl Tryd.underlying4 rfl y3.cell, rfl, val_store_below (hB4.trans (hb1.mono (by omega))) (by omega) (by omega) _ _ _⟩
end Go.Proofs.YthpfcplhlhnfeaaDoor.F
namespace Go.Proofs.YthpfcplhlhnfeaaDoor.F
open Go.RowKit Go.Proofs.YthpfcplhlhnfeaaDoorW.PrintWords Go.Proofs.YthpfcplhlhnfeaaDoorW.PrintLast Go.Proofs.YthpfcplhlhnfeaaDoorW.PrintMore
set_option linter.unusedVariables false
set_option linter.unusedSimpArgs false
set_option maxRecDepth 4000
open Go.Sort
section
variable {F : Fence} {n : Nat} {P : Program} {C : World → Prop} {l : List Oper} {o : Oper} {Q : Exit → Act → World → Prop}
/-- the last operation, as if it did nothing -/
def dumOp (o : Oper) : Oper := { o with op := .move (.const undef) }
theorem tail_get (l : List Oper) (x : Oper) (i : Nat) : (l ++ [x]).toArray[i]? = if i < l.length then l[i]? else if i = l.length then some x else none := by
  rw [List.getElem?_toArray]
  by_cases h : i < l.length
  · rw [if_pos h, List.getElem?_append_left h]
  · rw [if_neg h, List.getElem?_append_right (by omega)]
    by_cases e : i = l.length
    · rw [if_pos e, e, Nat.sub_self]; rfl
    · rw [if_neg e]
      exact List.getElem?_eq_none (by simp; omega)
theorem tail_map {β : Type} (g : Oper → β) (hg : g (dumOp o) = g o) (i : Nat) : ((l ++ [dumOp o]).toArray[i]?).map g = ((l ++ [o]).toArray[i]?).map g := by
  rw [tail_get, tail_get]
  by_cases h : i < l.length
  · rw [if_pos h, if_pos h]
  · rw [if_neg h, if_neg h]
    by_cases e : i = l.length
    · rw [if_pos e, if_pos e, Option.map_some, Option.map_some, hg]
    · rw [if_neg e, if_neg e]
theorem tail_ready (listed : Array Bool) : Region.ready .any (l ++ [dumOp o]).toArray listed = Region.ready .any (l ++ [o]).toArray listed := by
  unfold Region.ready
  have hs : (l ++ [dumOp o]).toArray.size = (l ++ [o]).toArray.size := by simp
  rw [hs]
  apply List.filter_congr
  intro i _
  rw [tail_map (fun o : Oper => o.after.all fun e => !Region.binds .any e || listed.getD e.on false) rfl i]
theorem tail_yielded (tmps : Array Value) : yielded (l ++ [dumOp o]).toArray tmps = yielded (l ++ [o]).toArray tmps := by
  funext j
  unfold yielded
  have : ((l ++ [dumOp o]).toArray[j]?).bind (·.dst) = ((l ++ [o]).toArray[j]?).bind (·.dst) := by
    have h := tail_map (l := l) (o := o) (fun o : Oper => o.dst) rfl j
    cases h1 : (l ++ [dumOp o]).toArray[j]? <;> cases h2 : (l ++ [o]).toArray[j]? <;> simp_all
  rw [this]
/-- each operation waits for earlier ones alone -/
def ordB (l : List Oper) : Bool := (List.range l.length).all fun i => match l[i]? with | some o => o.after.all fun e => !Region.binds .any e || decide (e.on < i) | none => true
theorem ord_ready {ll : List Oper} (ho : ordB ll = true) {listed : Array Bool} (hs : listed.size = ll.length) : ∀ (d i : Nat), d = i → i < ll.length → listed.getD i true = false → ∃ j, j ∈ Region.ready .any ll.toArray listed := by
  intro d
  induction d using Nat.strongRecOn with
  | _ d ih =>
    intro i hd hi hun
    by_cases h : ∃ j, j < i ∧ listed.getD j true = false
    · obtain ⟨j, hj, hjun⟩ := h
      exact ih j (by omega) j rfl (by omega) hjun
    · refine ⟨i, mem_ready.2 ⟨hun, ll[i], by rw [List.getElem?_toArray]; exact List.getElem?_eq_getElem hi, fun e he hb => ?_⟩⟩
      have h1 := List.all_eq_true.1 ho i (List.mem_range.2 hi)
      rw [List.getElem?_eq_getElem hi] at h1
      have h2 := Array.all_eq_true_iff_forall_mem.1 h1 e he
      rw [hb] at h2
      have h3 : e.on < i := by simpa using h2
      have h4 : ¬ listed.getD e.on true = false := fun hh => h ⟨e.on, h3, hh⟩
      have h5 : e.on < listed.size := by omega
      simp [h5] at h4 ⊢
      exact h4
/-- the last one waits for all others -/
def lastB (l : List Oper) (o : Oper) : Bool := (List.range l.length).all fun i => o.after.any fun e => Region.binds .any e && e.on == i
theorem last_all {listed : Array Bool} (hw : lastB l o = true) (hs : listed.size = l.length + 1) (hr : l.length ∈ Region.ready .any (l ++ [o]).toArray listed) : ∀ i, i < l.length → listed.getD i true = true := by
  intro i hi
  obtain ⟨_, oi, hoi, hall⟩ := mem_ready.1 hr
  rw [tail_get, if_neg (Nat.lt_irrefl _), if_pos rfl] at hoi
  obtain rfl := Option.some.inj hoi
  have h1 := List.all_eq_true.1 hw i (List.mem_range.2 hi)
  obtain ⟨e, he, h2⟩ := Array.any_eq_true'.1 h1
  simp only [Bool.and_eq_true, beq_iff_eq] at h2
  have h3 := hall e he h2.1
  rw [h2.2] at h3
  have h5 : i < listed.size := by omega
  simp [h5] at h3 ⊢
  exact h3
theorem none_ready {ops : Array Oper} {listed : Array Bool} (h : ∀ i, i < ops.size → listed.getD i true = true) : Region.ready .any ops listed = [] := by
  rw [List.eq_nil_iff_forall_not_mem]
  intro i hi
  obtain ⟨h1, oi, hoi, _⟩ := mem_ready.1 hi
  have := h i (Array.getElem?_eq_some_iff.1 hoi).1
  rw [this] at h1
  cases h1
theorem tail_any {Q0 : Act → Prop} (hnd : noDefer (l ++ [o]) = true) (ho : ordB (l ++ [o]) = true) (hw : lastB l o = true) (hdst : o.dst = none) (hg : o.guard = none) (hQ : ∀ a, Q0 a → ∀ w, C w → wpListIn F n P (l ++ [o]).toArray Q [o] a w) :
    ∀ (fuel : Nat) (listed : Array Bool) (a : Act) (w : World), listed.size = l.length + 1 → listed.getD l.length true = false → C w → wpAnyQIn F n P .any (l ++ [dumOp o]).toArray C Q0 fuel listed a → wpAnyIn F n P .any (l ++ [o]).toArray Q fuel listed a w := by
  intro fuel
  induction fuel with
  | zero =>
    intro listed a w hs hun hC h
    exfalso
    obtain ⟨j, hj⟩ := ord_ready ho (by simpa using hs) l.length l.length rfl (by simp) hun
    rw [← tail_ready, h.1] at hj
    exact absurd hj List.not_mem_nil
  | succ fuel ih =>
    intro listed a w hs hun hC h
    refine ⟨fun h0 => ?_, fun i hi => ?_⟩
    · exfalso
      obtain ⟨j, hj⟩ := ord_ready ho (by simpa using hs) l.length l.length rfl (by simp) hun
      rw [h0] at hj
      exact absurd hj List.not_mem_nil
    · have h2 := h.2 i (by rw [tail_ready]; exact hi)
      obtain ⟨hui, oi, hoi, -⟩ := mem_ready.1 hi
      by_cases e : i = l.length
      · subst e
        have hall := last_all hw hs hi
        have hrn : Region.ready .any (l ++ [o]).toArray (listed.setIfInBounds l.length true) = [] := none_ready fun j hj => by
          by_cases ej : l.length = j
          · subst ej
            have : l.length < listed.size := by omega
            simp [this]
          · rw [getD_set_ne true ej]
            exact hall j (by simp at hj; omega)
        unfold qOpIn at h2
        rw [tail_get, if_neg (Nat.lt_irrefl _), if_pos rfl] at h2
        simp only at h2
        obtain ⟨-, h2⟩ := h2
        have hwd : Region.wanted (dumOp o) (yielded (l ++ [dumOp o]).toArray a.tmps) = true := by simp only [Region.wanted, dumOp, hg]
        rw [if_pos hwd] at h2
        obtain ⟨v, -, h3⟩ := h2
        have hput : a.put (dumOp o).dst v = a := by
          have : (dumOp o).dst = none := hdst
          rw [this]
          rfl
        rw [hput] at h3
        have hq : Q0 a := by
          cases fuel with
          | zero => exact h3.2
          | succ fuel => exact h3.1 (by rw [tail_ready]; exact hrn)
        have h4 := hQ a hq w hC
        have hwo : Region.wanted o (yielded (l ++ [o]).toArray a.tmps) = true := by simp only [Region.wanted, hg]
        unfold wpOpIn
        rw [tail_get, if_neg (Nat.lt_irrefl _), if_pos rfl]
        simp only [hwo, if_true]
        simp only [wpListIn, hwo, if_true] at h4
        refine Oper.wpIn_mono (fun a' w' hh => ?_) h4
        cases fuel with
        | zero => exact ⟨hrn, hh⟩
        | succ fuel => exact ⟨fun _ => hh, fun j hj => by rw [hrn] at hj; exact absurd hj List.not_mem_nil⟩
      · have hlt : i < l.length := by
          have := (Array.getElem?_eq_some_iff.1 hoi).1
          simp at this
          omega
        have h5 : qOpIn F n P (l ++ [o]).toArray C i (wpAnyQIn F n P .any (l ++ [dumOp o]).toArray C Q0 fuel (listed.setIfInBounds i true)) a := by
          unfold qOpIn at h2 ⊢
          rw [tail_get, if_pos hlt] at h2 ⊢
          rw [tail_yielded] at h2
          exact h2
        refine op_round (noDefer_spec hnd) hC (fun a' w' hC' hh => ih _ a' w' (by simpa using hs) ?_ hC' hh) h5
        rw [getD_set_ne true e]
        exact hun
/-- the region -/
theorem region_tail_round {id : Nat} {a : Act} {w : World} (hm : P.follows .mixedOrders = true) (hB : Region.lexB .any (l ++ [dumOp o]).toArray = true) (hnd : noDefer (l ++ [o]) = true) (ho : ordB (l ++ [o]) = true) (hw : lastB l o = true) (hdst : o.dst = none) (hg : o.guard = none)
    (h : wpQuietIn F n P (l ++ [dumOp o]).toArray (fun w' => ∃ p : Regrown, w' = grow (redrawn w p.d) p.os) (fun a' => ∀ w', (∃ p : Regrown, w' = grow (redrawn w p.d) p.os) → wpListIn F n P (l ++ [o]).toArray Q [o] a' w') (l ++ [dumOp o]) a) : (Code.region id (l ++ [o]).toArray true).wpIn F n P Q a w := by
  simp only [Region.lexB, Bool.and_eq_true] at hB
  have hsz : (l ++ [o]).toArray.size = l.length + 1 := by simp
  refine wpIn_region_any hm (tail_any (C := fun w' => ∃ p : Regrown, w' = grow (redrawn w p.d) p.os) (Q0 := fun a' => ∀ w', (∃ p : Regrown, w' = grow (redrawn w p.d) p.os) → wpListIn F n P (l ++ [o]).toArray Q [o] a' w') hnd ho hw hdst hg (fun a h w hc => h w hc) _ _ _ _ (by simp) (by simp) ⟨⟨w.drawn + 1, #[]⟩, by rw [grow_empty]; rfl⟩ ?_)
  have := wpAnyQIn_lex (F := F) (n := n) (C := fun w' => ∃ p : Regrown, w' = grow (redrawn w p.d) p.os) (md := .any) hB.1 (l ++ [dumOp o]) 0 (Array.replicate (l ++ [dumOp o]).toArray.size false) a (by simp) (by simpa using hB.2) h
  simpa using this
end
/-- a written list of operations, its last one as if it did nothing; its last one; the others -/
def dumLast : List Oper → List Oper
  | [] => []
  | [o] => [dumOp o]
  | o :: o2 :: r => o :: dumLast (o2 :: r)
def lastOp : Oper → List Oper → Oper
  | o, [] => o
  | _, o2 :: r => lastOp o2 r
def initOps : Oper → List Oper → List Oper
  | _, [] => []
  | o, o2 :: r => o :: initOps o2 r
theorem split_last : ∀ (o : Oper) (r : List Oper), o :: r = initOps o r ++ [lastOp o r]
  | o, [] => rfl
  | o, o2 :: r => by rw [initOps, lastOp, List.cons_append, ← split_last o2 r]
theorem dum_last : ∀ (o : Oper) (r : List Oper), dumLast (o :: r) = initOps o r ++ [dumOp (lastOp o r)]
  | o, [] => rfl
  | o, o2 :: r => by rw [dumLast, initOps, lastOp, List.cons_append, ← dum_last o2 r]
theorem region_tail_lit {F : Fence} {n : Nat} {P : Program} {o1 : Oper} {r : List Oper} {Q : Exit → Act → World → Prop} {id : Nat} {a : Act} {w : World} (hm : P.follows .mixedOrders = true) (hB : Region.lexB .any (dumLast (o1 :: r)).toArray = true) (hnd : noDefer (o1 :: r) = true) (ho : ordB (o1 :: r) = true)
    (hw : lastB (initOps o1 r) (lastOp o1 r) = true) (hdst : (lastOp o1 r).dst = none) (hg : (lastOp o1 r).guard = none)
    (h : wpQuietIn F n P (dumLast (o1 :: r)).toArray (fun w' => ∃ p : Regrown, w' = grow (redrawn w p.d) p.os) (fun a' => ∀ w', (∃ p : Regrown, w' = grow (redrawn w p.d) p.os) → wpListIn F n P (o1 :: r).toArray Q [lastOp o1 r] a' w') (dumLast (o1 :: r)) a) : (Code.region id (o1 :: r).toArray true).wpIn F n P Q a w := by
  have e1 := dum_last o1 r
  have e2 := split_last o1 r
  rw [e1] at hB h
  rw [e2] at hnd ho h ⊢
  refine region_tail_round hm hB hnd ho hw hdst hg ?_
  exact h
end Go.Proofs.YthpfcplhlhnfeaaDoor.F
namespace Go.Proofs.YthpfcplhlhnfeaaDoor.F
open Go.RowKit Go.Proofs.YthpfcplhlhnfeaaDoorW.PrintWords Go.Proofs.YthpfcplhlhnfeaaDoorW.PrintLast Go.Proofs.YthpfcplhlhnfeaaDoorW.PrintMore
attribute [local go_sem] max2_int min2_int max_two min_two max_three min_three max_four min_four
set_option linter.unusedVariables false
set_option linter.unusedSimpArgs false
set_option maxRecDepth 4000
set_option linter.unnecessarySimpa false

/-! ### props_Bytes_1: function 23 -/
def props_Bytes_1.f (k : Nat) (a0 : Int) (a1 : Int) : Option (ByteArray) := (num_Put.f k a0 a1).bind fun bt123 => (some bt123.1)
theorem props_Bytes_1.mono : ∀ a0 a1 k, LeO (props_Bytes_1.f k a0 a1) (props_Bytes_1.f (k + 1) a0 a1) := by
  intro a0 a1 k
  unfold props_Bytes_1.f
  repeat' first
      | (with_reducible exact num_Put.mono _ _ _)
      | (with_reducible exact LeO.refl _)
      | (with_reducible exact LeO.none _)
      | (with_reducible refine LeO.ite ?_ ?_)
      | (with_reducible refine LeO.bind ?_ (fun _ => ?_))
      | exact num_Put.mono _ _ _
      | exact LeO.none _
      | refine LeO.ite ?_ ?_
      | refine LeO.bind ?_ (fun _ => ?_)
set_option maxHeartbeats 8000000 in
set_option maxRecDepth 100000 in
theorem props_Bytes_1.calls (k : Nat) (a0 : Int) (a1 : Int) (r : ByteArray) (w : World) (hg : Laid w) (h : props_Bytes_1.f k a0 a1 = some r) :
    Calls Tryd.prog 23 #[.int .i64 a0, .int .u64 a1] w fun e w' => e = .returned (.string r) ∧ Below w.heap.size w w' := by
  have HG := Aside0.mk hg
  clear hg
  have HB := Aside0.mk (Below.refl w.heap.size w)
  have H : ((num_Put.f k a0 a1).bind fun bt123 => (some bt123.1)) = some r := h
  clear h
  replace H := Option.bind_eq_some_iff.mp H
  obtain ⟨⟨t123, t124⟩, A30, H⟩ := H
  replace H : (some t123) = some r := H
  have A3 := Aside0.mk A30
  clear A30
  obtain rfl := Option.some.inj H
  go_enter Tryd.func23, Tryd.ntmps23
  go_wp2_with (first | ((with_reducible refine gate_callee (f := 24) rfl ?_); refine goesL_ (some 10) rfl rfl Tryd.func24 (by kernel_rfl) rfl #[.int .i64 a0, .int .u64 a1] rfl (by (try simp only [List.map_toArray, List.map_cons, List.map_nil]); first | done | rfl | (simp only [List.length_drop, List.length_take]; rfl)) ?_; (with_reducible refine (num_Put.calls k a0 a1 t123 t124 _ ?lg A3.out).mono ?_); (case lg => exact (HG.out.below (by repeat (first | (with_reducible first | exact HB.out | apply below_alloc | apply pw_below_drewN | apply below_drew1) | exact HB.out)))); rintro e w4 ⟨rfl, hb⟩; refine ⟨_, rfl, ?_⟩; have n0_ := Aside0.mk (below_step (by repeat (first | (with_reducible first | exact HB.out | apply below_alloc | apply pw_below_drewN | apply below_drew1) | exact HB.out)) hb); clear HB; have HB := n0_; clear n0_; (try clear hb); (try clear hb2); (try clear hk); (try clear hi)))
  go_ret
  exact ⟨by first | rfl | (simp [errW_none, errW_some] <;> rfl) | (simp [*, errW_none, errW_some] <;> rfl), by repeat (first | (with_reducible first | exact HB.out | apply below_alloc | apply pw_below_drewN | apply below_drew1) | exact HB.out)⟩


end Go.Proofs.YthpfcplhlhnfeaaDoor.F
namespace Go.Proofs.YthpfcplhlhnfeaaDoor.F
open Go.RowKit Go.Proofs.YthpfcplhlhnfeaaDoorW.PrintWords Go.Proofs.YthpfcplhlhnfeaaDoorW.PrintLast Go.Proofs.YthpfcplhlhnfeaaDoorW.PrintMore
set_option linter.unusedVariables false
set_option linter.unusedSimpArgs false
set_option maxRecDepth 4000
open Go.Sort
attribute [local go_sem] Oper.semAt_some
theorem boxed_new_drew (W : World) (t : TypeId) (v : Value) : Boxed (W.alloc (.cells #[v] t)).drew W.heap.size t v := Boxed.new W t v
/-- a number's bytes -/
def pnum (n v : Int) : ByteArray := (putR n v).1
theorem put1_k {k : Nat} (hk : 12 ≤ k) (n v : Int) (h0 : 0 ≤ v) (h1 : v < 18446744073709551616) : props_Bytes_1.f k n v = some (pnum n v) := by
  unfold props_Bytes_1.f
  rw [put_k hk n v h0 h1]
  rfl
theorem pnum_size (n v : Int) : (pnum n v).size ≤ 8 := put_size n v
/-- the bytes ahead of the properties -/
def headB (b fl : Int) : ByteArray := ((pnum 2 60 ++ pnum 2 0) ++ pnum 8 b) ++ pnum 2 fl
/-- a property's bytes -/
def propB (i : Nat) (v : S42) : ByteArray := if letN i = 111 then pnum 1 v.f0 else if letN i = 113 then pnum 8 v.f0 else if letN i = 83 then (layR 1 v.f1).1 else v.f1
def propsB (l : List S42) : List Nat → Nat → ByteArray
  | [], _ => ⟨#[]⟩
  | i :: is, n => propB i (l.getD n z42) ++ propsB l is (n + 1)
theorem propsB_app (l : List S42) : ∀ (pre rest : List Nat) (n : Nat), propsB l (pre ++ rest) n = propsB l pre n ++ propsB l rest (n + pre.length)
  | [], rest, n => (eq_of_list (by rw [propsB, append_data]; simp)).symm
  | i :: pre, rest, n => by
    rw [List.cons_append, propsB, propsB, propsB_app l pre rest (n + 1), app_assoc, List.length_cons, show n + 1 + pre.length = n + (pre.length + 1) by omega]
theorem propsB_snoc (l : List S42) (pre : List Nat) (i : Nat) : propsB l (pre ++ [i]) 0 = propsB l pre 0 ++ propB i (l.getD pre.length z42) := by
  rw [propsB_app, propsB, propsB, app_empty, Nat.zero_add]
theorem propB_size (i : Nat) (v : S42) (h : okV v) : (propB i v).size ≤ 4503599627370504 := by
  unfold propB
  have h1 := pnum_size 1 v.f0
  have h2 := pnum_size 8 v.f0
  have h3 := lay_size 1 v.f1
  have h4 := h.2.2
  split
  · omega
  · split
    · omega
    · split
      · omega
      · omega
theorem propsB_size (b fl : Int) (l : List S42) (h : okH b fl l) : ∀ (is : List Nat) (n : Nat), n + is.length ≤ l.length → (propsB l is n).size ≤ 4503599627370504 * is.length
  | [], n, _ => Nat.zero_le _
  | i :: is, n, hn => by
    rw [List.length_cons] at hn ⊢
    have h1 := propB_size i _ (h.at (n := n) (by omega))
    have h2 := propsB_size b fl l h is (n + 1) (by omega)
    rw [propsB, size_append]
    omega
def bytesR (a b fl : Int) (l : List S42) : ByteArray × Int := if RightR a b fl l = 0 then (headB b fl ++ propsB l (whichF fl 0) 0, 0) else (⟨#[]⟩, RightR a b fl l)
def props_Bytes.f (a b fl : Int) (l : List S42) : Option (ByteArray × Int) := if okH b fl l then some (bytesR a b fl l) else none
/-- What the blocks of a call of Bytes hold between two rounds. -/
def BHeld (w0 : World) (e g p : Nat) (cs : Array Value) (hd : ByteArray) (l : List S42) (pre : List Nat) (W : World) : Prop :=
  W.heap[e]? = some (.cells cs 61 (0, 0)) ∧ W.heap[w0.heap.size]? = some (.cells cs 25 (0, 0)) ∧ Boxed W g 57 (.func (.func 23) #[] #[]) ∧ Boxed W p 9 (.string (hd ++ propsB l pre 0)) ∧ Below w0.heap.size w0 W
theorem BHeld.below {w0 : World} {e g p : Nat} {cs : Array Value} {hd : ByteArray} {l : List S42} {pre : List Nat} {W W' : World} (hb : Below W.heap.size W W') (h : BHeld w0 e g p cs hd l pre W) : BHeld w0 e g p cs hd l pre W' := by
  obtain ⟨h1, h0, h2, h3, h8⟩ := h
  exact ⟨blk_below h1 hb, blk_below h0 hb, boxed_below h2 hb, boxed_below h3 hb, h8.trans (hb.mono (Nat.le_of_lt (blk_lt h0)))⟩
theorem BHeld.own {w0 : World} {B e g p : Nat} {cs : Array Value} {hd : ByteArray} {l : List S42} (hB : w0.heap.size ≤ B) : OwnFrom B (BHeld w0 e g p cs hd l) := by
  rintro x W W' row ⟨h1, h0, h2, h3, h8⟩ hg hr
  have hr' : ∀ r, row = some r → ∃ o : Obj, W.heap[r]? = some o ∧ o.isCells = false := fun r e => (hr r e).2
  exact ⟨blk_other h1 hg hr', blk_other h0 hg hr', boxed_other h2 hg hr', boxed_other h3 hg hr', ownFrom_below (β := List Nat) (Nat.le_refl _) hB x W W' row h8 hg hr⟩
theorem BHeld.step {w0 : World} {e g p : Nat} {cs : Array Value} {hd : ByteArray} {l : List S42} {pre : List Nat} {W W2 : World} (h : BHeld w0 e g p cs hd l pre W) (hb : Below W.heap.size W W2) (hp : w0.heap.size < p) (hpe : e ≠ p) (hpg : g ≠ p) (x : ByteArray) (i : Nat) (hx : x = hd ++ propsB l (pre ++ [i]) 0) :
    BHeld w0 e g p cs hd l (pre ++ [i]) (W2.setCell ⟨p, 0, none⟩ (.string x)) ∧ ∀ D, KeepsFrom D W (W2.setCell ⟨p, 0, none⟩ (.string x)) := by
  obtain ⟨h1, h0, h2, h3, h8⟩ := h.below hb
  subst hx
  exact ⟨⟨blk_far h1 hpe _, blk_far h0 (by show w0.heap.size ≠ p; omega) _, blk_far h2 hpg _, h3.set _, h8.setCell (p := ⟨p, 0, none⟩) (Nat.le_of_lt hp) _⟩, fun D => (keepsFrom_below hb).trans ((KeepsOthers.setCell _ _ _).from _)⟩
set_option maxHeartbeats 4000000 in
set_option maxRecDepth 100000 in
theorem props_Bytes.calls (a b fl : Int) (A : Option Addr) (c : Nat) (l : List S42) (r1 : ByteArray) (r2 : Int) (w : World) (hg : Laid w) (hr : Kd.C k42 w A l.length l) (hc : l.length ≤ c) (h : props_Bytes.f a b fl l = some (r1, r2)) :
    Calls Tryd.prog 11 #[.agg #[.int .i64 a, .int .u64 b, .int .u64 fl, .slice A l.length c]] w fun e w' => e = .returned (.tuple #[.string r1, .int .i64 r2]) ∧ Below w.heap.size w w' := by
  have hok : okH b fl l := by
    unfold props_Bytes.f at h
    split at h
    · assumption
    · cases h
  unfold props_Bytes.f at h
  rw [if_pos hok] at h
  replace h := Option.some.inj h
  unfold bytesR at h
  have hRt := Aside0.mk (Right_k (k := 4) (by decide) a b fl l hok)
  have HR := Aside0.mk hr
  have HG := Aside0.mk hg
  have HOK := Aside0.mk hok
  have hrf := right_form (a := a) (b := b) (fl := fl) (l := l)
  generalize RightR a b fl l = q at h hRt hrf
  clear hr hg hok
  have hu61 := Tryd.underlying61
  have hu25 := Tryd.underlying25
  have hu42 := Tryd.underlying42
  obtain ⟨w4, hw4⟩ : ∃ w4, w.alloc (.cells #[.int .i64 a, .int .u64 b, .int .u64 fl, .slice A l.length c] 25) = w4 := ⟨_, rfl⟩
  have hB4 : Below w.heap.size w w4 := by
    rw [← hw4]
    exact (Below.refl _ w).alloc (Nat.le_refl _) _
  have X0 : w4.heap[w.heap.size]? = some (.cells #[.int .i64 a, .int .u64 b, .int .u64 fl, .slice A l.length c] 25 (0, 0)) := by
    rw [← hw4]
    exact blk_new w _
  have hs4 : w4.heap.size = w.heap.size + 1 := by rw [← hw4]; simp
  have d0 := (blk_cell X0 0).trans rfl
  have d1 := (blk_cell X0 1).trans rfl
  have d2 := (blk_cell X0 2).trans rfl
  have d3 := (blk_cell X0 3).trans rfl
  by_cases e : q = 0
  · subst e
    rw [if_pos rfl] at h
    obtain ⟨hform, hsize, -⟩ := hrf rfl
    have hlen := hform.2.2.2
    obtain rfl : a = 60 := hform.1
    have hfl := hform.2.1
    obtain ⟨rfl, rfl⟩ := Prod.mk.inj h
    clear h hrf hform
    obtain ⟨cs, hcs⟩ : ∃ cs : Array Value, cs = #[.int .i64 60, .int .u64 b, .int .u64 fl, .slice A l.length c] := ⟨_, rfl⟩
    have hw60 : IntKind.u64.wrap 60 = 60 := rfl
    have hsf : ∀ (ad : Addr) f x y (W : World), (store ad (.func f x y)).run Tryd.prog W = stored Tryd.prog W ad (.func f x y) .plain := fun ad f x y W => run_store Tryd.prog W ad _ _ rfl
    refine (callsIn_wide (n := 4)).1 ?_
    refine callsIn_of_wp_marks Tryd.func11 rfl trivial ?_ rfl
    simp only [Tryd.ntmps11, List.size_toArray, List.length_cons, List.length_nil, Nat.reduceAdd, Nat.reduceSub, Array.replicate_succ, Array.replicate_zero, List.push_toArray, List.append_toArray, List.nil_append, List.cons_append]
    gi_wp2_with (first | ((with_reducible refine And.intro ?_ ?_); (exact trivial); gi_at_call 14; refine (callsIn_wide.2 (props_Right.calls 4 60 b fl A c l 0 _ (HG.out.below hB4) (Kd.C_below HR.out hB4) hc hRt.out)).mono ?_; rintro e w1 ⟨rfl, hb1⟩; have x0 := blk_below X0 hb1; have c0 := (blk_cell x0 0).trans rfl; have c1 := (blk_cell x0 1).trans rfl; have c2 := (blk_cell x0 2).trans rfl; have c3 := (blk_cell x0 3).trans rfl))
    obtain ⟨w5, hw5⟩ : ∃ w5, w1.alloc (.cells #[.func (.func 23) #[] #[]] 57) = w5 := ⟨_, rfl⟩
    have hB5 : Below w1.heap.size w1 w5 := by rw [← hw5]; exact (Below.refl _ _).alloc (Nat.le_refl _) _
    have X5 : Boxed w5 w1.heap.size 57 (.func (.func 23) #[] #[]) := by rw [← hw5]; exact Boxed.new w1 _ _
    have x05 := blk_below x0 hB5
    rw [hw5]
    have hL5 : Laid w5 := HG.out.below ((hB4.trans (hb1.mono (by omega))).trans (hB5.mono (by have := hb1.size; omega)))
    clear c0 c1 c2 c3 d0 d1 d2 d3
    refine wpIn_mono (Q := fun e a' w' => e = .normal ∧ ∃ p : Nat, a' = { tmps := #[.agg #[.int .i64 60, .int .u64 b, .int .u64 fl, .slice A l.length c], .pointer (some ⟨w.heap.size, 0, none⟩), .string ⟨#[]⟩, .int .i64 0, .int .i64 0, .pointer (some ⟨w1.heap.size, 0, none⟩), .pointer (some ⟨p, 0, none⟩), undef, undef, undef, undef, undef, .agg #[.int .i64 60, .int .u64 b, .int .u64 fl, .slice A l.length c], .int .i64 0, .int .i64 0, .bool false, undef, .func (.func 23) #[] #[], .pointer (some ⟨w.heap.size, 0, none⟩), .int .i64 60, .int .u64 60, .string (pnum 2 60), .func (.func 23) #[] #[], .string (pnum 2 0), .string (pnum 2 60 ++ pnum 2 0), .func (.func 23) #[] #[], .pointer (some ⟨w.heap.size, 1, none⟩), .int .u64 b, .string (pnum 8 b), .string ((pnum 2 60 ++ pnum 2 0) ++ pnum 8 b), .func (.func 23) #[] #[], .pointer (some ⟨w.heap.size, 2, none⟩), .int .u64 fl, .string (pnum 2 fl), .string (headB b fl), undef, undef, undef, undef, undef, undef, undef, undef, undef, undef, undef, undef, undef, undef, undef, undef, undef, undef, undef, undef, undef, undef, undef, undef, undef, undef, undef, undef, undef, undef, undef, undef, undef, undef, undef, undef, undef, undef, undef, undef, undef, undef, undef, undef, undef], defers := [] } ∧ w5.heap.size ≤ p ∧ Boxed w' p 9 (.string (headB b fl)) ∧ Below w5.heap.size w5 w') ?_ ?_
    · refine wpIn_wide.2 ?_
      have hSS : ∀ W', Below w5.heap.size w5 W' → Below w5.heap.size w5 W' ∧ W'.cell? ⟨w.heap.size, 0, none⟩ = some (.int .i64 60) ∧ W'.cell? ⟨w.heap.size, 1, none⟩ = some (.int .u64 b) ∧ W'.cell? ⟨w.heap.size, 2, none⟩ = some (.int .u64 fl) ∧ W'.cell? ⟨w1.heap.size, 0, none⟩ = some (.func (.func 23) #[] #[]) := by
        intro W' hb
        have y0 := blk_below x05 hb
        exact ⟨hb, (blk_cell y0 0).trans rfl, (blk_cell y0 1).trans rfl, (blk_cell y0 2).trans rfl, (boxed_below X5 hb).cell⟩
      have hAl : ∀ W' o, Below w5.heap.size w5 W' → Below w5.heap.size w5 (W'.alloc o) := fun W' o hb => hb.alloc hb.size o
      have hSt : ∀ W' p v, Below w5.heap.size w5 W' → w5.heap.size ≤ p → Below w5.heap.size w5 (W'.setCell ⟨p, 0, none⟩ v) := fun W' p v hb hp => hb.setCell (p := ⟨p, 0, none⟩) hp v
      have hdr : Below w5.heap.size w5 w5.drew := below_drew (Below.refl _ _)
      have hput : ∀ (n v : Int), 0 ≤ v → v < 18446744073709551616 → ∀ W', Below w5.heap.size w5 W' → Calls Tryd.prog 23 #[.int .i64 n, .int .u64 v] W' fun e w'' => e = .returned (.string (pnum n v)) ∧ Below w5.heap.size w5 w'' ∧ Below W'.heap.size W' w'' := by
        intro n v h0 h1 W' hb
        exact (props_Bytes_1.calls 12 n v _ W' (hL5.below hb) (put1_k (by decide) n v h0 h1)).mono fun e w'' ⟨he, hh⟩ => ⟨he, hb.trans (hh.mono hb.size), hh⟩
      obtain ⟨⟨hb0, hb9⟩, ⟨hf0, hf9⟩, -⟩ := HOK.out
      have z1 := pnum_size 2 60
      have z2 := pnum_size 2 0
      have z3 := pnum_size 8 b
      have z4 := pnum_size 2 fl
      have n1 : ¬ 9223372036854775807 < (pnum 2 60).size + (pnum 2 0).size := by omega
      have n2 : ¬ 9223372036854775807 < (pnum 2 60).size + (pnum 2 0).size + (pnum 8 b).size := by omega
      have n3 : ¬ 9223372036854775807 < (pnum 2 60).size + (pnum 2 0).size + (pnum 8 b).size + (pnum 2 fl).size := by omega
      clear z1 z2 z3 z4
      go_region_held3 (fun w' => Below w5.heap.size w5 w' ∧ w'.cell? ⟨w.heap.size, 0, none⟩ = some (.int .i64 60) ∧ w'.cell? ⟨w.heap.size, 1, none⟩ = some (.int .u64 b) ∧ w'.cell? ⟨w.heap.size, 2, none⟩ = some (.int .u64 fl) ∧ w'.cell? ⟨w1.heap.size, 0, none⟩ = some (.func (.func 23) #[] #[])) (first | exact hSS _ (by assumption) | exact hSS _ hdr | exact hSS _ (hAl _ _ (by assumption)) | exact hSS _ (below_drew (hAl _ _ (Below.refl _ _))) | exact hSS _ (hSt _ _ _ (by assumption) (Below.size (by assumption))) | exact hSS _ (hSt _ _ _ (hAl _ _ (by assumption)) (Below.size (by assumption))) | exact hSS _ (hSt _ _ _ (by assumption) (Nat.le_refl _))) (first | (go_at_call 23; refine (hput _ _ (by first | assumption | decide) (by first | assumption | decide) _ (by first | assumption | exact hAl _ _ (by assumption) | exact below_drew (hAl _ _ (Below.refl _ _)))).mono ?_; rintro e w' ⟨rfl, hbb, hbc⟩; (try (have hp1 := boxed_below (Boxed.new _ 9 _) hbc; have cp1 := hp1.cell; have fp1 := hp1.frozen)); (try (have hp1 := boxed_below (boxed_new_drew _ 9 _) hbc; have cp1 := hp1.cell; have fp1 := hp1.frozen)); (try (have hp2 := boxed_below (t := 9) (by assumption) hbc; have cp2 := hp2.cell; have fp2 := hp2.frozen)); clear hbc))
      all_goals
        first
          | exact ⟨rfl, _, rfl, Below.size (by assumption), Boxed.new _ _ _, hAl _ _ (by assumption)⟩
          | (refine ⟨rfl, _, rfl, ?_, Boxed.set (v := .string ⟨#[]⟩) _ ?_, ?_⟩
             · first | exact Nat.le_refl _ | exact Below.size (by assumption)
             · assumption
             · first | exact hSt _ _ _ (by assumption) (Below.size (by assumption)) | exact hSt _ _ _ (by assumption) (Nat.le_refl _))
    · rintro e a' w6 ⟨rfl, p, rfl, hp, hbp, hb6⟩
      dsimp only
      have x06 := blk_below x05 hb6
      have x56 := boxed_below X5 hb6
      have c0 := (blk_cell x06 0).trans rfl
      have c1 := (blk_cell x06 1).trans rfl
      have c2 := (blk_cell x06 2).trans rfl
      have c3 := (blk_cell x06 3).trans rfl
      have hs51 : w1.heap.size + 1 = w5.heap.size := by rw [← hw5]; simp
      have hs14 := hb1.size
      have hs65 := hb6.size
      have hB6 : Below w.heap.size w w6 := (((hB4.trans (hb1.mono (by omega))).trans (hB5.mono (by omega))).trans (hb6.mono (by omega)))
      gi_wp2_with (first | ((with_reducible refine And.intro ?_ ?_); (exact trivial); gi_at_call 25; refine (callsIn_wide.2 (each_calls _ _ _ _ _)).mono ?_; rintro e w' ⟨rfl, rfl⟩))
      have hs4' : w.heap.size + 1 ≤ w1.heap.size := by omega
      have hA : Below w6.heap.size w6 (w6.alloc (.cells #[.int .i64 60, .int .u64 b, .int .u64 fl, .slice A l.length c] 61)) := (Below.refl _ _).alloc (Nat.le_refl _) _
      have hempty : headB b fl ++ propsB l [] 0 = headB b fl := by rw [propsB, app_empty]
      have hF0 : BHeld w w6.heap.size w1.heap.size p cs (headB b fl) l [] (w6.alloc (.cells #[.int .i64 60, .int .u64 b, .int .u64 fl, .slice A l.length c] 61)) := by
        rw [hcs]
        exact ⟨blk_new w6 _, blk_below x06 hA, boxed_below x56 hA, by rw [hempty]; exact boxed_below hbp hA, hB6.trans (hA.mono (by omega))⟩
      have hsz : (w6.alloc (.cells #[.int .i64 60, .int .u64 b, .int .u64 fl, .slice A l.length c] 61)).heap.size = w6.heap.size + 1 := by simp
      have hown : OwnFrom (w6.alloc (.cells #[.int .i64 60, .int .u64 b, .int .u64 fl, .slice A l.length c] 61)).heap.size (BHeld w w6.heap.size w1.heap.size p cs (headB b fl) l) := BHeld.own (by rw [hsz]; omega)
      clear c0 c1 c2 c3
      refine wpIn_rangeFunc_shared rfl (by decide) (gf := 44) (lb := #[.pointer (some ⟨w6.heap.size, 0, none⟩)]) rfl trivial (enters_of Tryd.func44 (by kernel_rfl) rfl)
        eencs (fun _ => rfl) (EJ (BHeld w w6.heap.size w1.heap.size p cs (headB b fl) l) fl (whichF fl 0))
        (EJ1 (BHeld w w6.heap.size w1.heap.size p cs (headB b fl) l) fl (whichF fl 0) fun x y => [.agg #[.int .i64 60, .int .u64 b, .int .u64 fl, .slice A l.length c], .pointer (some ⟨w.heap.size, 0, none⟩), .string ⟨#[]⟩, .int .i64 0, .int .i64 0, .pointer (some ⟨w1.heap.size, 0, none⟩), .pointer (some ⟨p, 0, none⟩), x, y, undef, undef, undef, .agg #[.int .i64 60, .int .u64 b, .int .u64 fl, .slice A l.length c], .int .i64 0, .int .i64 0, .bool false, undef, .func (.func 23) #[] #[], .pointer (some ⟨w.heap.size, 0, none⟩), .int .i64 60, .int .u64 60, .string (pnum 2 60), .func (.func 23) #[] #[], .string (pnum 2 0), .string (pnum 2 60 ++ pnum 2 0), .func (.func 23) #[] #[], .pointer (some ⟨w.heap.size, 1, none⟩), .int .u64 b, .string (pnum 8 b), .string ((pnum 2 60 ++ pnum 2 0) ++ pnum 8 b), .func (.func 23) #[] #[], .pointer (some ⟨w.heap.size, 2, none⟩), .int .u64 fl, .string (pnum 2 fl), .string (headB b fl), .agg #[.int .i64 60, .int .u64 b, .int .u64 fl, .slice A l.length c], .agg #[.int .i64 60, .int .u64 b, .int .u64 fl, .slice A l.length c], .func (.func 44) #[] #[.pointer (some ⟨w6.heap.size, 0, none⟩)], x, y, undef, undef, undef, undef, undef, undef, undef, undef, undef, undef, undef, undef, undef, undef, undef, undef, undef, undef, undef, undef, undef, undef, undef, undef, undef, undef, undef, undef, undef, undef, undef, undef, undef, undef, undef, undef, undef, undef, undef, undef].toArray)
        (EJ2 (BHeld w w6.heap.size w1.heap.size p cs (headB b fl) l) fl (whichF fl 0)) (fun _ _ _ => False) (fun _ W => BHeld w w6.heap.size w1.heap.size p cs (headB b fl) l (whichF fl 0) W)
        (EJ1.own hown) (EJ2.own hown) (fun _ _ _ _ _ hs _ _ => hs) (fun _ => hown _) ?seq ?assign ?body ?done ?stop
      case stop =>
        rintro D c' s W _ h _
        exact h.elim
      case seq =>
        rintro lp B X o1 o2 W1 hW1 _ hB h1 hY
        have hF1 : BHeld w w6.heap.size w1.heap.size p cs (headB b fl) l [] W1 := by
          rw [← hW1]
          exact hF0.below (((Below.refl _ _).alloc (Nat.le_refl _) _).alloc (by simp) _)
        exact each_iter 2 60 b fl HOK.out.2.1.1 HOK.out.2.1.2 A c l hc w6.heap.size (BHeld w w6.heap.size w1.heap.size p cs (headB b fl) l) (fun _ _ _ hb h => h.below hb) (fun _ _ h => hcs ▸ h.1) (fun _ _ h => Kd.C_below HR.out h.2.2.2.2) (whichF fl 0) lp _ B X W1 hB h1 hY hF1 rfl
      case assign =>
        rintro lp s W K hlt hJ hK
        unfold eencs
        gi_wp2
        apply hK
        · exact (KeepsOthers.refl _).from _
        · exact ⟨by simp, hJ⟩
      case done =>
        rintro D W hD ⟨e1, e0, e2, e3, e5⟩ hK
        rw [hsz] at hD
        have c3 := e3.cell
        gi_wp2
        refine ⟨by simp, .inl ⟨_, _, rfl, run_takeDeferred hK, ?_⟩⟩
        have hBd := e5.trans (belowK_b (w := w) (Nat.le_refl _) W D _ (.deferred none) (by omega) hK rfl rfl)
        exact ⟨_, results_tmp2 rfl _ _ _, rfl, hBd⟩
      case body =>
        rintro lp s a' W hlt ⟨ha', hJ⟩
        obtain ⟨hHeld, hx, hh, ht, hle⟩ := hJ
        obtain ⟨h1, h0, h2, h3, h8⟩ := hHeld
        dsimp only at ha' hx hle ht
        subst ha'
        have hws := whichF_step fl s.2 hx
        rw [hh, if_pos rfl] at hws
        have hnl : s.1.length < l.length := by
          have := congrArg List.length ht
          rw [hws, List.length_append, List.length_cons] at this
          omega
        have hT := Aside0.mk ht
        clear ht
        obtain ⟨hv0, hv1, hv2⟩ := HOK.out.at hnl
        obtain ⟨ad, hA', hx0, hx1⟩ := at_T42 (Kd.C_below HR.out h8) (s.1.length : Int) (by omega) (by omega)
        have hrd : rd_T42 l (s.1.length : Int) = l.getD s.1.length z42 := by unfold rd_T42; rw [Int.toNat_natCast]
        rw [hrd] at hx0 hx1
        rw [Int.toNat_natCast] at hx0 hx1
        have hsn := propsB_snoc l s.1 s.2
        have hbs := propsB_size b fl l HOK.out s.1 0 (by omega)
        have hbp2 := propB_size s.2 _ (HOK.out.at hnl)
        have hz1 := pnum_size 2 60
        have hz2 := pnum_size 2 0
        have hz3 := pnum_size 8 b
        have hz4 := pnum_size 2 fl
        have hhd : (headB b fl).size ≤ 32 := by unfold headB; rw [size_append, size_append, size_append]; omega
        generalize l.getD s.1.length z42 = v at hv0 hv1 hv2 hx0 hx1 hsn hbp2
        obtain rfl := hA'
        have hbig : (headB b fl ++ propsB l s.1 0).size + (propB s.2 v).size ≤ 9223372036854775807 := by
          rw [size_append]
          have : s.1.length ≤ 13 := by omega
          have : 4503599627370504 * s.1.length ≤ 4503599627370504 * 13 := Nat.mul_le_mul_left _ this
          omega
        clear hbs hbp2 hz1 hz2 hz3 hz4 hhd hrd
        rw [hcs] at h0
        have c3 := (blk_cell h0 3).trans rfl
        have p1 : (0 : Int) ≤ (s.1.length : Int) := by omega
        have q1 : (s.1.length : Int) < (l.length : Int) := by omega
        have q2 : s.1.length < l.length := hnl
        have hwide : ∀ f, Fence.wide.fn f := fun _ => trivial
        have hdep : Fence.wide.depth = none := rfl
        obtain ⟨W1, hW1⟩ : ∃ W1, W.alloc (.cells #[.int .u64 v.f0, .string v.f1] 42) = W1 := ⟨_, rfl⟩
        have hA1 : Below W.heap.size W W1 := by rw [← hW1]; exact (Below.refl _ _).alloc (Nat.le_refl _) _
        have xv : W1.heap[W.heap.size]? = some (.cells #[.int .u64 v.f0, .string v.f1] 42 (0, 0)) := by rw [← hW1]; exact blk_new W _
        have h1' := blk_below h1 hA1
        have h0' := blk_below h0 hA1
        have h2' := boxed_below h2 hA1
        have h3' := boxed_below h3 hA1
        have h8' := h8.trans (hA1.mono h8.size)
        have hKA : ∀ D, KeepsFrom D W W1 := fun D => keepsFrom_below hA1
        have cv0 := (blk_cell xv 0).trans rfl
        have cv1 := (blk_cell xv 1).trans rfl
        have cg := h2'.cell
        have cp := h3'.cell
        have fp := h3'.frozen
        have q3 : s.2 < lettersB.size := hx
        have hxx := hx
        have hH1 : BHeld w w6.heap.size w1.heap.size p #[.int .i64 60, .int .u64 b, .int .u64 fl, .slice (some ad) l.length c] (headB b fl) l s.1 W1 := ⟨hcs ▸ h1', h0', h2', h3', h8'⟩
        subst hcs
        have hstep := fun (W2 : World) (hb : Below W1.heap.size W1 W2) (x : ByteArray) (hx : x = headB b fl ++ propsB l (s.1 ++ [s.2]) 0) => BHeld.step hH1 hb (by omega) (by have := hbp.lt; omega) (by omega) x s.2 hx
        clear h0 h1 h2 h3 hx h0' h1'
        have hbt0 : ∀ h, ((lettersB[s.2]'h).toNat : Int) = letN s.2 := fun h => by unfold letN; rw [bt_get lettersB s.2 h]; rfl
        have hHH := Aside0.mk hh
        have hSTEP := Aside0.mk hstep
        have hH1A := Aside0.mk hH1
        clear hh hstep hH1 hws
        rcases letN_isL s.2 hxx with hL | hL | hL | hL
        · -- a short text
          have hbt : ∀ h, ((lettersB[s.2]'h).toNat : Int) = 83 := fun h => by rw [hbt0 h, hL]
          have hpb : propB s.2 v = (layR 1 v.f1).1 := by unfold propB; rw [hL]; rfl
          have hsh := Aside0.mk (short_k (k := 12) (by decide) v.f1 (by omega))
          rw [hpb] at hsn hbig
          clear hpb hL hbt0
          generalize layR 1 v.f1 = lk at hsn hbig hsh
          obtain ⟨k1, k2⟩ := lk
          simp only at hsn hbig
          have hnb : ¬ 9223372036854775807 < (headB b fl ++ propsB l s.1 0).size + k1.size := by omega
          have hnb2 : ¬ 9223372036854775807 < (headB b fl).size + (propsB l s.1 0).size + k1.size := by rw [size_append] at hbig; omega
          have hval := Aside0.mk (show headB b fl ++ propsB l s.1 0 ++ k1 = headB b fl ++ propsB l (s.1 ++ [s.2]) 0 by rw [hsn, app_assoc])
          clear hbig hsn
          gi_wp2_with (first | (gi_at_call 22; refine (CallsIn.inRound lp (callsIn_wide.2 (props_Letters.calls lettersB _ rfl))).mono ?_; rintro e w' ⟨rfl, ⟨nd, rfl⟩⟩) | (gi_at_call 26; refine (CallsIn.inRound lp (callsIn_wide.2 (text_Short.calls 12 v.f1 k1 k2 _ (HG.out.below (pw_below_drewN h8' _)) hsh.out))).mono ?_; rintro e w2 ⟨rfl, hb⟩; have hb2 : Below W1.heap.size W1 w2 := (pw_below_drewN (Below.refl _ W1) nd).trans hb; have y3 := boxed_below h3' hb2; have cp' := y3.cell; have fp' := y3.frozen))
          obtain ⟨g1, g2⟩ := hSTEP.out w2 hb2 _ hval.out
          exact ⟨(hKA _).trans (g2 _), g1, hxx, hHH.out, hT.out, hle⟩
        · -- a table
          have hbt : ∀ h, ((lettersB[s.2]'h).toNat : Int) = 84 := fun h => by rw [hbt0 h, hL]
          have hpb : propB s.2 v = v.f1 := by unfold propB; rw [hL]; rfl
          rw [hpb] at hsn hbig
          clear hpb hL hbt0
          have hnb : ¬ 9223372036854775807 < (headB b fl ++ propsB l s.1 0).size + v.f1.size := by omega
          have hval := Aside0.mk (show headB b fl ++ propsB l s.1 0 ++ v.f1 = headB b fl ++ propsB l (s.1 ++ [s.2]) 0 by rw [hsn, app_assoc])
          clear hbig hsn
          gi_wp2_with (first | (gi_at_call 22; refine (CallsIn.inRound lp (callsIn_wide.2 (props_Letters.calls lettersB _ rfl))).mono ?_; rintro e w' ⟨rfl, ⟨nd, rfl⟩⟩))
          obtain ⟨g1, g2⟩ := hSTEP.out (W1.drewN nd) (pw_below_drewN (Below.refl _ W1) nd) _ hval.out
          exact ⟨(hKA _).trans (g2 _), g1, hxx, hHH.out, hT.out, hle⟩
        · -- a number of 1 bytes
          have hbt : ∀ h, ((lettersB[s.2]'h).toNat : Int) = 111 := fun h => by rw [hbt0 h, hL]
          have hpb : propB s.2 v = pnum 1 v.f0 := by unfold propB; rw [hL]; rfl
          rw [hpb] at hsn hbig
          clear hpb hL hbt0
          have hput := put1_k (k := 12) (by decide) 1 v.f0 hv0 hv1
          generalize pnum 1 v.f0 = k1 at hsn hbig hput
          have hnb : ¬ 9223372036854775807 < (headB b fl ++ propsB l s.1 0).size + k1.size := by omega
          have hnb2 : ¬ 9223372036854775807 < (headB b fl).size + (propsB l s.1 0).size + k1.size := by rw [size_append] at hbig; omega
          have hval := Aside0.mk (show headB b fl ++ propsB l s.1 0 ++ k1 = headB b fl ++ propsB l (s.1 ++ [s.2]) 0 by rw [hsn, app_assoc])
          clear hbig hsn
          have hmx : Tryd.prog.follows .mixedOrders = true := by kernel_rfl
          have hPUT := Aside0.mk hput
          clear hput
          gi_wp2_with (first | (gi_at_call 22; refine (CallsIn.inRound lp (callsIn_wide.2 (props_Letters.calls lettersB _ rfl))).mono ?_; rintro e w' ⟨rfl, ⟨nd, rfl⟩⟩))
          have hb2 : Below W1.heap.size W1 (W1.drewN nd) := pw_below_drewN (Below.refl _ W1) nd
          generalize W1.drewN nd = W2 at hb2 ⊢
          have xv' := blk_below xv hb2
          have e2' := boxed_below h2' hb2
          have e3' := boxed_below h3' hb2
          clear cv0 cv1 cg cp fp h2' h3' xv
          have k1_ := cell_regrown e3'.cell
          have k2_ := cell_regrown e2'.cell
          have k3_ := cell_regrown ((blk_cell xv' 0).trans rfl)
          have hb8 := h8'.trans (hb2.mono h8'.size)
          have cP : ∀ d os, CallsIn (Fence.wide.inRound lp) 1 Tryd.prog 23 #[.int .i64 1, .int .u64 v.f0] (grow (redrawn W2 d) os) fun e w'' => e = .returned (.string k1) ∧ ∃ p : Regrown, w'' = grow (redrawn W2 p.d) p.os :=
            fun d os => CallsIn.inRound lp (CallsIn.regrown_of (callsIn_wide.2 (props_Bytes_1.calls 12 1 v.f0 k1 _ (HG.out.below (hb8.trans ((below_regrown W2 d os).mono hb8.size))) hPUT.out)))
          refine region_tail_lit (by assumption) (by kernel_rfl) rfl (by kernel_rfl) (by kernel_rfl) rfl rfl ?_
          simp only [dumLast, dumOp, lastOp]
          repeat (quiet_step_in ((gi_at_call 23; exact cP _ _)))
          refine wpQuietIn_nil ?_
          intro _ hw'
          obtain ⟨⟨dq, osq⟩, hw''⟩ := hw'
          subst hw''
          have hBq := hb2.trans ((below_regrown W2 dq osq).mono hb2.size)
          have y3 := boxed_below e3' (below_regrown W2 dq osq)
          clear k1_ k2_ k3_ cP
          generalize grow (redrawn W2 dq) osq = W3 at hBq y3 ⊢
          have cp' := y3.cell
          have fp' := y3.frozen
          gi_wp2
          obtain ⟨g1, g2⟩ := hSTEP.out W3 hBq _ hval.out
          exact ⟨(hKA _).trans (g2 _), g1, hxx, hHH.out, hT.out, hle⟩
        · -- a number of 8 bytes
          have hbt : ∀ h, ((lettersB[s.2]'h).toNat : Int) = 113 := fun h => by rw [hbt0 h, hL]
          have hpb : propB s.2 v = pnum 8 v.f0 := by unfold propB; rw [hL]; rfl
          rw [hpb] at hsn hbig
          clear hpb hL hbt0
          have hput := put1_k (k := 12) (by decide) 8 v.f0 hv0 hv1
          generalize pnum 8 v.f0 = k1 at hsn hbig hput
          have hnb : ¬ 9223372036854775807 < (headB b fl ++ propsB l s.1 0).size + k1.size := by omega
          have hnb2 : ¬ 9223372036854775807 < (headB b fl).size + (propsB l s.1 0).size + k1.size := by rw [size_append] at hbig; omega
          have hval := Aside0.mk (show headB b fl ++ propsB l s.1 0 ++ k1 = headB b fl ++ propsB l (s.1 ++ [s.2]) 0 by rw [hsn, app_assoc])
          clear hbig hsn
          have hmx : Tryd.prog.follows .mixedOrders = true := by kernel_rfl
          have hPUT := Aside0.mk hput
          clear hput
          gi_wp2_with (first | (gi_at_call 22; refine (CallsIn.inRound lp (callsIn_wide.2 (props_Letters.calls lettersB _ rfl))).mono ?_; rintro e w' ⟨rfl, ⟨nd, rfl⟩⟩))
          have hb2 : Below W1.heap.size W1 (W1.drewN nd) := pw_below_drewN (Below.refl _ W1) nd
          generalize W1.drewN nd = W2 at hb2 ⊢
          have xv' := blk_below xv hb2
          have e2' := boxed_below h2' hb2
          have e3' := boxed_below h3' hb2
          clear cv0 cv1 cg cp fp h2' h3' xv
          have k1_ := cell_regrown e3'.cell
          have k2_ := cell_regrown e2'.cell
          have k3_ := cell_regrown ((blk_cell xv' 0).trans rfl)
          have hb8 := h8'.trans (hb2.mono h8'.size)
          have cP : ∀ d os, CallsIn (Fence.wide.inRound lp) 1 Tryd.prog 23 #[.int .i64 8, .int .u64 v.f0] (grow (redrawn W2 d) os) fun e w'' => e = .returned (.string k1) ∧ ∃ p : Regrown, w'' = grow (redrawn W2 p.d) p.os :=
            fun d os => CallsIn.inRound lp (CallsIn.regrown_of (callsIn_wide.2 (props_Bytes_1.calls 12 8 v.f0 k1 _ (HG.out.below (hb8.trans ((below_regrown W2 d os).mono hb8.size))) hPUT.out)))
          refine region_tail_lit (by assumption) (by kernel_rfl) rfl (by kernel_rfl) (by kernel_rfl) rfl rfl ?_
          simp only [dumLast, dumOp, lastOp]
          repeat (quiet_step_in ((gi_at_call 23; exact cP _ _)))
          refine wpQuietIn_nil ?_
          intro _ hw'
          obtain ⟨⟨dq, osq⟩, hw''⟩ := hw'
          subst hw''
          have hBq := hb2.trans ((below_regrown W2 dq osq).mono hb2.size)
          have y3 := boxed_below e3' (below_regrown W2 dq osq)
          clear k1_ k2_ k3_ cP
          generalize grow (redrawn W2 dq) osq = W3 at hBq y3 ⊢
          have cp' := y3.cell
          have fp' := y3.frozen
          gi_wp2
          obtain ⟨g1, g2⟩ := hSTEP.out W3 hBq _ hval.out
          exact ⟨(hKA _).trans (g2 _), g1, hxx, hHH.out, hT.out, hle⟩
  · rw [if_neg e] at h
    obtain ⟨rfl, rfl⟩ := Prod.mk.inj h
    have e1 : (q != 0) = true := bne_iff_ne.2 e
    clear h hrf e
    refine (callsIn_wide (n := 4)).1 ?_
    refine callsIn_of_wp_marks Tryd.func11 rfl trivial ?_ rfl
    simp only [Tryd.ntmps11, List.size_toArray, List.length_cons, List.length_nil, Nat.reduceAdd, Nat.reduceSub, Array.replicate_succ, Array.replicate_zero, List.push_toArray, List.append_toArray, List.nil_append, List.cons_append]
    gi_wp2_with (first | ((with_reducible refine And.intro ?_ ?_); (exact trivial); gi_at_call 14; refine (callsIn_wide.2 (props_Right.calls 4 a b fl A c l q _ (HG.out.below hB4) (Kd.C_below HR.out hB4) hc hRt.out)).mono ?_; rintro e w1 ⟨rfl, hb1⟩))
    exact ⟨_, results_tmp2 rfl _ _ _, rfl, hB4.trans (hb1.mono (by omega))⟩
end Go.Proofs.YthpfcplhlhnfeaaDoor.F
namespace Go.Proofs.YthpfcplhlhnfeaaDoor.F
open Go.RowKit Go.Proofs.YthpfcplhlhnfeaaDoorW.PrintWords Go.Proofs.YthpfcplhlhnfeaaDoorW.PrintLast Go.Proofs.YthpfcplhlhnfeaaDoorW.PrintMore
set_option linter.unusedVariables false
set_option linter.unusedSimpArgs false
set_option maxRecDepth 4000
theorem head4_store {W : World} {B : Nat} {t : TypeId} {c0 c1 c2 c3 : Value} (h : W.heap[B]? = some (.cells #[c0, c1, c2, c3] t (0, 0))) (v0 v1 v2 v3 : Value) :
    ((((W.setCell ⟨B, 0, none⟩ v0).setCell ⟨B, 1, none⟩ v1).setCell ⟨B, 2, none⟩ v2).setCell ⟨B, 3, none⟩ v3).heap[B]? = some (.cells #[v0, v1, v2, v3] t (0, 0)) := by
  have a1 := blk_put h 0 v0 (cs' := #[v0, c1, c2, c3]) rfl
  have a2 := blk_put a1 1 v1 (cs' := #[v0, v1, c2, c3]) rfl
  have a3 := blk_put a2 2 v2 (cs' := #[v0, v1, v2, c3]) rfl
  exact blk_put a3 3 v3 rfl
theorem head4_cells {W : World} {B : Nat} {t : TypeId} {c0 c1 c2 c3 : Value} (h : W.heap[B]? = some (.cells #[c0, c1, c2, c3] t (0, 0))) :
    (W.cell? ⟨B, 0, none⟩ = some c0 ∧ W.cell? ⟨B, 1, none⟩ = some c1 ∧ W.cell? ⟨B, 2, none⟩ = some c2 ∧ W.cell? ⟨B, 3, none⟩ = some c3) ∧ W.frozen? ⟨B, 0, none⟩ = false ∧ W.frozen? ⟨B, 1, none⟩ = false ∧ W.frozen? ⟨B, 2, none⟩ = false ∧ W.frozen? ⟨B, 3, none⟩ = false :=
  ⟨⟨(blk_cell h 0).trans rfl, (blk_cell h 1).trans rfl, (blk_cell h 2).trans rfl, (blk_cell h 3).trans rfl⟩, blk_frozen h 0, blk_frozen h 1, blk_frozen h 2, blk_frozen h 3⟩
theorem head4_below {n : Nat} {w W : World} {B : Nat} (h : Below n w W) (hB : n ≤ B) (v0 v1 v2 v3 : Value) : Below n w ((((W.setCell ⟨B, 0, none⟩ v0).setCell ⟨B, 1, none⟩ v1).setCell ⟨B, 2, none⟩ v2).setCell ⟨B, 3, none⟩ v3) :=
  (((h.setCell (p := ⟨B, 0, none⟩) hB _).setCell (p := ⟨B, 1, none⟩) hB _).setCell (p := ⟨B, 2, none⟩) hB _).setCell (p := ⟨B, 3, none⟩) hB _
theorem grownBy_setAt (W : World) (b i : Nat) (v : Value) : W.grownBy (W.setCell ⟨b, i, none⟩ v) (some b) :=
  ⟨rfl, rfl, rfl, (KeepsWalks.setCell W _ v).size, fun k _ hk => Below.heap_setCell _ _ _ k (fun e => hk (by rw [e]))⟩
theorem blk_appended {W w1 : World} {n₀ base B : Nat} {t e : TypeId} {size k m : Nat} {c0 c1 c2 v v' : Value} {xs ys : List Value} {tmp : Obj}
    (hv : W.heap[B]? = some (.cells #[c0, c1, c2, v] t (0, 0))) (hrow : W.ownsRow base e size v k xs) (hb : base ≤ W.heap.size) (hB : B < base) (hn : n₀ ≤ B)
    (hown' : w1.ownsRow base e size v' m ys) (hgrow : (W.alloc tmp).grownBy w1 v.ownBlock) :
    w1.heap[B]? = some (.cells #[c0, c1, c2, v] t (0, 0)) ∧ (w1.setCell ⟨B, 3, none⟩ v').heap[B]? = some (.cells #[c0, c1, c2, v'] t (0, 0)) ∧ (w1.setCell ⟨B, 3, none⟩ v').ownsRow base e size v' m ys ∧ KeepsOthers W (w1.setCell ⟨B, 3, none⟩ v') ∧ Below n₀ W (w1.setCell ⟨B, 3, none⟩ v') := by
  have hne : some B ≠ v.ownBlock := row_ne hrow hB
  have hv1 : w1.heap[B]? = some (.cells #[c0, c1, c2, v] t (0, 0)) := (hgrow.block B (Array.getElem?_eq_some_iff.1 (blk_alloc hv tmp)).1 hne).trans (blk_alloc hv tmp)
  refine ⟨hv1, blk_put hv1 3 v' rfl, own_setCell hown' (p := ⟨B, 3, none⟩) (row_ne hown' hB) _, ?_, ?_⟩
  · refine ((KeepsOthers.alloc W tmp).trans (KeepsOthers.of_grownBy hgrow fun j o ej hj => ?_)).trans (KeepsOthers.setCell _ _ _)
    rcases (hrow.alloc tmp).2 with ⟨rfl, _⟩ | ⟨g, cap, cur, rfl, _, hgb, _⟩
    · simp [Value.ownBlock] at ej
    · obtain rfl : g = j := by simpa [Value.ownBlock] using ej
      rw [hgb] at hj; cases hj; rfl
  · refine (((Below.refl n₀ W).alloc (by omega) tmp).grown hgrow (by simp; omega) fun j ej => ?_).setCell (p := ⟨B, 3, none⟩) hn v'
    rcases hrow.2 with ⟨rfl, _⟩ | ⟨g, cap, cur, rfl, hb, _, _⟩
    · simp [Value.ownBlock] at ej
    · obtain rfl : g = j := by simpa [Value.ownBlock] using ej
      omega
/-- another block, over the same step -/
theorem blk_kept {W w1 : World} {base B B2 i : Nat} {t e : TypeId} {size k : Nat} {v : Value} {cs : Array Value} {xs : List Value} {tmp : Obj} {u : Value}
    (hv : W.heap[B2]? = some (.cells cs t (0, 0))) (hrow : W.ownsRow base e size v k xs) (hB : B2 < base) (hne : B2 ≠ B) (hgrow : (W.alloc tmp).grownBy w1 v.ownBlock) :
    (w1.setCell ⟨B, i, none⟩ u).heap[B2]? = some (.cells cs t (0, 0)) :=
  blk_far ((hgrow.block B2 (Array.getElem?_eq_some_iff.1 (blk_alloc hv tmp)).1 (row_ne hrow hB)).trans (blk_alloc hv tmp)) hne _
/-- a row of values -/
theorem R_far4 {W : World} {base B : Nat} {v : Value} {l : List S42} (h : Kd.R k42 42 W base (fun _ => True) v l) (hB : B < base) (v0 v1 v2 v3 : Value) :
    Kd.R k42 42 ((((W.setCell ⟨B, 0, none⟩ v0).setCell ⟨B, 1, none⟩ v1).setCell ⟨B, 2, none⟩ v2).setCell ⟨B, 3, none⟩ v3) base (fun _ => True) v l :=
  Kd.R_mono (Kd.R_far (Kd.R_far (Kd.R_far (Kd.R_far (Kd.R_bound h) (p := ⟨B, 0, none⟩) (fun k hk => by have := hk.2.1; show k ≠ B; omega) v0) (p := ⟨B, 1, none⟩) (fun k hk => by have := hk.2.1; show k ≠ B; omega) v1) (p := ⟨B, 2, none⟩) (fun k hk => by have := hk.2.1; show k ≠ B; omega) v2) (p := ⟨B, 3, none⟩) (fun k hk => by have := hk.2.1; show k ≠ B; omega) v3) (fun _ _ => trivial)
theorem vals_row {W : World} {base : Nat} {v : Value} {l : List S42} (h : Kd.R k42 42 W base (fun _ => True) v l) : ∃ inner : List Value, W.ownsRow base 42 2 v l.length inner ∧
    ∀ (W' : World) (v' : Value) (x : S42), W'.ownsRow base 42 2 v' (l.length + 1) (inner ++ [.int .u64 x.f0, .string x.f1]) → Kd.R k42 42 W' base (fun _ => True) v' (l ++ [x]) := by
  obtain ⟨_, inner, hrow0, hreps⟩ := h
  exact ⟨inner, hrow0, fun W' v' x hr2 => ⟨fun _ _ => trivial, _, by rw [List.length_append]; exact hr2, (hreps.imp_ (fun _ c hq => by rw [k42_openM hq]; exact k42_mkM _ _ _ _)).snoc (k42_mkM _ _ _ x) rfl⟩⟩
end Go.Proofs.YthpfcplhlhnfeaaDoor.F
namespace Go.Proofs.YthpfcplhlhnfeaaDoor.F
open Go.RowKit Go.Proofs.YthpfcplhlhnfeaaDoorW.PrintWords Go.Proofs.YthpfcplhlhnfeaaDoorW.PrintLast Go.Proofs.YthpfcplhlhnfeaaDoorW.PrintMore
attribute [local go_sem] max2_int min2_int max_two min_two max_three min_three max_four min_four
set_option linter.unusedVariables false
set_option linter.unusedSimpArgs false
set_option maxRecDepth 4000
set_option linter.unnecessarySimpa false

/-! ### props_value: function 29 -/
def props_value.f (k : Nat) (a0 : Int) (a1 : ByteArray) : Option (Int × ByteArray × ByteArray × Int) := if a0 = 111 then ((num_Take.f k a1 1).bind fun bt131 => (some (bt131.1, (⟨#[]⟩ : ByteArray), bt131.2.1, bt131.2.2))) else (if a0 = 113 then ((num_Take.f k a1 8).bind fun bt134 => (some (bt134.1, (⟨#[]⟩ : ByteArray), bt134.2.1, bt134.2.2))) else (if a0 = 83 then ((text_TakeShort.f k a1).bind fun bt137 => (some (0, bt137.1, bt137.2.1, bt137.2.2))) else ((table_Take.f a1).bind fun bt140 => (some (0, bt140.1, bt140.2.1, bt140.2.2)))))
theorem props_value.mono : ∀ a0 a1 k, LeO (props_value.f k a0 a1) (props_value.f (k + 1) a0 a1) := by
  intro a0 a1 k
  unfold props_value.f
  repeat' first
      | (with_reducible exact num_Take.mono _ _ _)
      | (with_reducible exact text_TakeShort.mono _ _)
      | (with_reducible exact LeO.refl _)
      | (with_reducible exact LeO.none _)
      | (with_reducible refine LeO.ite ?_ ?_)
      | (with_reducible refine LeO.bind ?_ (fun _ => ?_))
      | exact num_Take.mono _ _ _
      | exact text_TakeShort.mono _ _
      | exact LeO.none _
      | refine LeO.ite ?_ ?_
      | refine LeO.bind ?_ (fun _ => ?_)
set_option maxHeartbeats 8000000 in
set_option maxRecDepth 100000 in
theorem props_value.calls (k : Nat) (a0 : Int) (a1 : ByteArray) (r1 : Int) (r2 : ByteArray) (r3 : ByteArray) (r4 : Int) (w : World) (hg : Laid w) (h : props_value.f k a0 a1 = some (r1, r2, r3, r4)) :
    Calls Tryd.prog 29 #[.int .u8 a0, .string a1] w fun e w' => e = .returned (.tuple #[.agg #[.int .u64 r1, .string r2], .string r3, .int .i64 r4]) ∧ Below w.heap.size w w' := by
  have HG := Aside0.mk hg
  clear hg
  have hu42 := Tryd.underlying42
  have HB := Aside0.mk (Below.refl w.heap.size w)
  have H : (if a0 = 111 then ((num_Take.f k a1 1).bind fun bt131 => (some (bt131.1, (⟨#[]⟩ : ByteArray), bt131.2.1, bt131.2.2))) else (if a0 = 113 then ((num_Take.f k a1 8).bind fun bt134 => (some (bt134.1, (⟨#[]⟩ : ByteArray), bt134.2.1, bt134.2.2))) else (if a0 = 83 then ((text_TakeShort.f k a1).bind fun bt137 => (some (0, bt137.1, bt137.2.1, bt137.2.2))) else ((table_Take.f a1).bind fun bt140 => (some (0, bt140.1, bt140.2.1, bt140.2.2)))))) = some (r1, r2, r3, r4) := h
  clear h
  by_cases c3 : a0 = 111
  · rw [if_pos c3] at H
    have c3b0 : (a0 == 111) = true := beq_iff_eq.mpr c3
    have c3b1 : (a0 != 111) = false := bne_eq_false_iff_eq.mpr c3
    clear c3
    replace H := Option.bind_eq_some_iff.mp H
    obtain ⟨⟨t131, t132, t133⟩, A40, H⟩ := H
    replace H : (some (t131, (⟨#[]⟩ : ByteArray), t132, t133)) = some (r1, r2, r3, r4) := H
    have A4 := Aside0.mk A40
    clear A40
    simp only [Option.some.injEq, Prod.mk.injEq] at H
    obtain ⟨rfl, rfl, rfl, rfl⟩ := H
    go_enter Tryd.func29, Tryd.ntmps29
    go_wp2_with (first | ((with_reducible refine gate_dst (N := 4) rfl ?_); refine box_event ?hg (N := 4) ?hd (cs := #[.int .u64 0, .string (⟨#[]⟩ : ByteArray)]) (t := 42) ?hr ?_; (case hd => rfl); (case hg => rfl); (case hr => first | (go_simp; done) | (go_simp; rfl)); intro gb130 hg w5 hbox hb; have n0_ := Aside0.mk (below_step (by repeat (first | (with_reducible first | exact HB.out | apply below_alloc | apply pw_below_drewN | apply below_drew1) | exact HB.out)) hb); have n1_ := Aside0.mk (hbox); have n2_ := Aside0.mk ((by rw [hg]; exact (below_size (by repeat (first | (with_reducible first | exact HB.out | apply below_alloc | apply pw_below_drewN | apply below_drew1) | exact HB.out))) : w.heap.size ≤ gb130)); have n3_ := Aside0.mk ((by rw [hg]; exact (below_size (by repeat (first | (with_reducible first | exact HB.out | apply below_alloc | apply pw_below_drewN | apply below_drew1) | exact HB.out))) : w.heap.size ≤ gb130)); clear HB; have HB := n0_; have BK130 := n1_; have GW130 := n2_; have GE130 := n3_; clear n0_ n1_ n2_ n3_; clear hb hbox hg) | ((with_reducible refine gate_callee (f := 27) rfl ?_); refine goesL_ (some 19) rfl rfl Tryd.func27 (by kernel_rfl) rfl #[.string a1, .int .i64 1] rfl (by (try simp only [List.map_toArray, List.map_cons, List.map_nil]); first | done | rfl | (simp only [List.length_drop, List.length_take]; rfl)) ?_; (with_reducible refine (num_Take.calls k a1 1 t131 t132 t133 _ ?lg A4.out).mono ?_); (case lg => exact (HG.out.below (by repeat (first | (with_reducible first | exact HB.out | apply below_alloc | apply pw_below_drewN | apply below_drew1 | refine below_set ?_ GE130.out) | exact HB.out)))); rintro e w' ⟨rfl, ⟨nd, rfl⟩⟩; refine ⟨_, rfl, ?_⟩; (try (rw [drewN_self w5]; generalize hq_ : World.drewN w5 _ = w5; have n0_ : Aside0 (w5.heap[gb130]? = some (.cells #[.int .u64 0, .string (⟨#[]⟩ : ByteArray)] 42 (0, 0))) := ⟨by rw [← hq_]; exact (by (with_reducible repeat (first | refine blk_drewN ?_ _ | refine blk_drew ?_ | refine blk_alloc ?_ _)); exact BK130.out)⟩; have n1_ : Aside0 (Below w.heap.size w w5) := ⟨by rw [← hq_]; exact (by repeat (first | (with_reducible first | exact HB.out | apply below_alloc | apply pw_below_drewN | apply below_drew1 | refine below_set ?_ GE130.out) | exact HB.out))⟩; clear BK130 HB hq_; have BK130 := n0_; have HB := n1_; clear n0_ n1_)); have hcz6_0 : w5.cell? ⟨gb130, 0, none⟩ = some (.int .u64 0) := (blk_cell BK130.out 0).trans rfl; have hcz6_1 : w5.cell? ⟨gb130, 1, none⟩ = some (.string (⟨#[]⟩ : ByteArray)) := (blk_cell BK130.out 1).trans rfl; have hfz6_0 := blk_frozen BK130.out 0; have hfz6_1 := blk_frozen BK130.out 1))
    refine bodyPost_ret (results_ctt rfl _ _ gb130 42 #[.int .u64 t131, .string (⟨#[]⟩ : ByteArray)] (0, 0) _ rfl (by (with_reducible repeat (first | refine blk_drewN ?_ _ | refine blk_drew ?_ | refine blk_alloc ?_ _)); refine blk_put (cs := #[.int .u64 t131, .string (⟨#[]⟩ : ByteArray)]) ?_ 1 _ rfl; (with_reducible repeat (first | refine blk_drewN ?_ _ | refine blk_drew ?_ | refine blk_alloc ?_ _)); refine blk_put (cs := #[.int .u64 t131, .string (⟨#[]⟩ : ByteArray)]) ?_ 0 _ rfl; (with_reducible repeat (first | refine blk_drewN ?_ _ | refine blk_drew ?_ | refine blk_alloc ?_ _)); refine blk_put (cs := #[.int .u64 0, .string (⟨#[]⟩ : ByteArray)]) ?_ 0 _ rfl; (with_reducible repeat (first | refine blk_drewN ?_ _ | refine blk_drew ?_ | refine blk_alloc ?_ _)); exact BK130.out) Tryd.underlying42 rfl (by kernel_rfl)) rfl ?_
    exact ⟨by first | rfl | (simp [errW_none, errW_some] <;> rfl) | (simp [*, errW_none, errW_some] <;> rfl), by repeat (first | (with_reducible first | exact HB.out | apply below_alloc | apply pw_below_drewN | apply below_drew1 | refine below_set ?_ GE130.out) | exact HB.out)⟩
  · rw [if_neg c3] at H
    have c3b0 : (a0 == 111) = false := beq_eq_false_iff_ne.mpr c3
    have c3b1 : (a0 != 111) = true := bne_iff_ne.mpr c3
    by_cases c7 : a0 = 113
    · rw [if_pos c7] at H
      have c7b0 : (a0 == 113) = true := beq_iff_eq.mpr c7
      have c7b1 : (a0 != 113) = false := bne_eq_false_iff_eq.mpr c7
      clear c7
      replace H := Option.bind_eq_some_iff.mp H
      obtain ⟨⟨t134, t135, t136⟩, A80, H⟩ := H
      replace H : (some (t134, (⟨#[]⟩ : ByteArray), t135, t136)) = some (r1, r2, r3, r4) := H
      have A8 := Aside0.mk A80
      clear A80
      simp only [Option.some.injEq, Prod.mk.injEq] at H
      obtain ⟨rfl, rfl, rfl, rfl⟩ := H
      go_enter Tryd.func29, Tryd.ntmps29
      go_wp2_with (first | ((with_reducible refine gate_dst (N := 4) rfl ?_); refine box_event ?hg (N := 4) ?hd (cs := #[.int .u64 0, .string (⟨#[]⟩ : ByteArray)]) (t := 42) ?hr ?_; (case hd => rfl); (case hg => rfl); (case hr => first | (go_simp; done) | (go_simp; rfl)); intro gb130 hg w9 hbox hb; have n0_ := Aside0.mk (below_step (by repeat (first | (with_reducible first | exact HB.out | apply below_alloc | apply pw_below_drewN | apply below_drew1) | exact HB.out)) hb); have n1_ := Aside0.mk (hbox); have n2_ := Aside0.mk ((by rw [hg]; exact (below_size (by repeat (first | (with_reducible first | exact HB.out | apply below_alloc | apply pw_below_drewN | apply below_drew1) | exact HB.out))) : w.heap.size ≤ gb130)); have n3_ := Aside0.mk ((by rw [hg]; exact (below_size (by repeat (first | (with_reducible first | exact HB.out | apply below_alloc | apply pw_below_drewN | apply below_drew1) | exact HB.out))) : w.heap.size ≤ gb130)); clear HB; have HB := n0_; have BK130 := n1_; have GW130 := n2_; have GE130 := n3_; clear n0_ n1_ n2_ n3_; clear hb hbox hg) | ((with_reducible refine gate_callee (f := 27) rfl ?_); refine goesL_ (some 28) rfl rfl Tryd.func27 (by kernel_rfl) rfl #[.string a1, .int .i64 8] rfl (by (try simp only [List.map_toArray, List.map_cons, List.map_nil]); first | done | rfl | (simp only [List.length_drop, List.length_take]; rfl)) ?_; (with_reducible refine (num_Take.calls k a1 8 t134 t135 t136 _ ?lg A8.out).mono ?_); (case lg => exact (HG.out.below (by repeat (first | (with_reducible first | exact HB.out | apply below_alloc | apply pw_below_drewN | apply below_drew1 | refine below_set ?_ GE130.out) | exact HB.out)))); rintro e w' ⟨rfl, ⟨nd, rfl⟩⟩; refine ⟨_, rfl, ?_⟩; (try (rw [drewN_self w9]; generalize hq_ : World.drewN w9 _ = w9; have n0_ : Aside0 (w9.heap[gb130]? = some (.cells #[.int .u64 0, .string (⟨#[]⟩ : ByteArray)] 42 (0, 0))) := ⟨by rw [← hq_]; exact (by (with_reducible repeat (first | refine blk_drewN ?_ _ | refine blk_drew ?_ | refine blk_alloc ?_ _)); exact BK130.out)⟩; have n1_ : Aside0 (Below w.heap.size w w9) := ⟨by rw [← hq_]; exact (by repeat (first | (with_reducible first | exact HB.out | apply below_alloc | apply pw_below_drewN | apply below_drew1 | refine below_set ?_ GE130.out) | exact HB.out))⟩; clear BK130 HB hq_; have BK130 := n0_; have HB := n1_; clear n0_ n1_)); have hcz10_0 : w9.cell? ⟨gb130, 0, none⟩ = some (.int .u64 0) := (blk_cell BK130.out 0).trans rfl; have hcz10_1 : w9.cell? ⟨gb130, 1, none⟩ = some (.string (⟨#[]⟩ : ByteArray)) := (blk_cell BK130.out 1).trans rfl; have hfz10_0 := blk_frozen BK130.out 0; have hfz10_1 := blk_frozen BK130.out 1))
      refine bodyPost_ret (results_ctt rfl _ _ gb130 42 #[.int .u64 t134, .string (⟨#[]⟩ : ByteArray)] (0, 0) _ rfl (by (with_reducible repeat (first | refine blk_drewN ?_ _ | refine blk_drew ?_ | refine blk_alloc ?_ _)); refine blk_put (cs := #[.int .u64 t134, .string (⟨#[]⟩ : ByteArray)]) ?_ 1 _ rfl; (with_reducible repeat (first | refine blk_drewN ?_ _ | refine blk_drew ?_ | refine blk_alloc ?_ _)); refine blk_put (cs := #[.int .u64 t134, .string (⟨#[]⟩ : ByteArray)]) ?_ 0 _ rfl; (with_reducible repeat (first | refine blk_drewN ?_ _ | refine blk_drew ?_ | refine blk_alloc ?_ _)); refine blk_put (cs := #[.int .u64 0, .string (⟨#[]⟩ : ByteArray)]) ?_ 0 _ rfl; (with_reducible repeat (first | refine blk_drewN ?_ _ | refine blk_drew ?_ | refine blk_alloc ?_ _)); exact BK130.out) Tryd.underlying42 rfl (by kernel_rfl)) rfl ?_
      exact ⟨by first | rfl | (simp [errW_none, errW_some] <;> rfl) | (simp [*, errW_none, errW_some] <;> rfl), by repeat (first | (with_reducible first | exact HB.out | apply below_alloc | apply pw_below_drewN | apply below_drew1 | refine below_set ?_ GE130.out) | exact HB.out)⟩
    · rw [if_neg c7] at H
      have c7b0 : (a0 == 113) = false := beq_eq_false_iff_ne.mpr c7
      have c7b1 : (a0 != 113) = true := bne_iff_ne.mpr c7
      by_cases c11 : a0 = 83
      · rw [if_pos c11] at H
        have c11b0 : (a0 == 83) = true := beq_iff_eq.mpr c11
        have c11b1 : (a0 != 83) = false := bne_eq_false_iff_eq.mpr c11
        clear c11
        replace H := Option.bind_eq_some_iff.mp H
        obtain ⟨⟨t137, t138, t139⟩, A120, H⟩ := H
        replace H : (some (0, t137, t138, t139)) = some (r1, r2, r3, r4) := H
        have A12 := Aside0.mk A120
        clear A120
        simp only [Option.some.injEq, Prod.mk.injEq] at H
        obtain ⟨rfl, rfl, rfl, rfl⟩ := H
        go_enter Tryd.func29, Tryd.ntmps29
        go_wp2_with (first | ((with_reducible refine gate_dst (N := 4) rfl ?_); refine box_event ?hg (N := 4) ?hd (cs := #[.int .u64 0, .string (⟨#[]⟩ : ByteArray)]) (t := 42) ?hr ?_; (case hd => rfl); (case hg => rfl); (case hr => first | (go_simp; done) | (go_simp; rfl)); intro gb130 hg w13 hbox hb; have n0_ := Aside0.mk (below_step (by repeat (first | (with_reducible first | exact HB.out | apply below_alloc | apply pw_below_drewN | apply below_drew1) | exact HB.out)) hb); have n1_ := Aside0.mk (hbox); have n2_ := Aside0.mk ((by rw [hg]; exact (below_size (by repeat (first | (with_reducible first | exact HB.out | apply below_alloc | apply pw_below_drewN | apply below_drew1) | exact HB.out))) : w.heap.size ≤ gb130)); have n3_ := Aside0.mk ((by rw [hg]; exact (below_size (by repeat (first | (with_reducible first | exact HB.out | apply below_alloc | apply pw_below_drewN | apply below_drew1) | exact HB.out))) : w.heap.size ≤ gb130)); clear HB; have HB := n0_; have BK130 := n1_; have GW130 := n2_; have GE130 := n3_; clear n0_ n1_ n2_ n3_; clear hb hbox hg) | ((with_reducible refine gate_callee (f := 46) rfl ?_); refine goesL_ (some 37) rfl rfl Tryd.func46 (by kernel_rfl) rfl #[.string a1] rfl (by (try simp only [List.map_toArray, List.map_cons, List.map_nil]); first | done | rfl | (simp only [List.length_drop, List.length_take]; rfl)) ?_; (with_reducible refine (text_TakeShort.calls k a1 t137 t138 t139 _ ?lg A12.out).mono ?_); (case lg => exact (HG.out.below (by repeat (first | (with_reducible first | exact HB.out | apply below_alloc | apply pw_below_drewN | apply below_drew1 | refine below_set ?_ GE130.out) | exact HB.out)))); rintro e w' ⟨rfl, ⟨nd, rfl⟩⟩; refine ⟨_, rfl, ?_⟩; (try (rw [drewN_self w13]; generalize hq_ : World.drewN w13 _ = w13; have n0_ : Aside0 (w13.heap[gb130]? = some (.cells #[.int .u64 0, .string (⟨#[]⟩ : ByteArray)] 42 (0, 0))) := ⟨by rw [← hq_]; exact (by (with_reducible repeat (first | refine blk_drewN ?_ _ | refine blk_drew ?_ | refine blk_alloc ?_ _)); exact BK130.out)⟩; have n1_ : Aside0 (Below w.heap.size w w13) := ⟨by rw [← hq_]; exact (by repeat (first | (with_reducible first | exact HB.out | apply below_alloc | apply pw_below_drewN | apply below_drew1 | refine below_set ?_ GE130.out) | exact HB.out))⟩; clear BK130 HB hq_; have BK130 := n0_; have HB := n1_; clear n0_ n1_)); have hcz14_0 : w13.cell? ⟨gb130, 0, none⟩ = some (.int .u64 0) := (blk_cell BK130.out 0).trans rfl; have hcz14_1 : w13.cell? ⟨gb130, 1, none⟩ = some (.string (⟨#[]⟩ : ByteArray)) := (blk_cell BK130.out 1).trans rfl; have hfz14_0 := blk_frozen BK130.out 0; have hfz14_1 := blk_frozen BK130.out 1))
        refine bodyPost_ret (results_ctt rfl _ _ gb130 42 #[.int .u64 0, .string t137] (0, 0) _ rfl (by (with_reducible repeat (first | refine blk_drewN ?_ _ | refine blk_drew ?_ | refine blk_alloc ?_ _)); refine blk_put (cs := #[.int .u64 0, .string t137]) ?_ 1 _ rfl; (with_reducible repeat (first | refine blk_drewN ?_ _ | refine blk_drew ?_ | refine blk_alloc ?_ _)); refine blk_put (cs := #[.int .u64 0, .string t137]) ?_ 0 _ rfl; (with_reducible repeat (first | refine blk_drewN ?_ _ | refine blk_drew ?_ | refine blk_alloc ?_ _)); refine blk_put (cs := #[.int .u64 0, .string (⟨#[]⟩ : ByteArray)]) ?_ 1 _ rfl; (with_reducible repeat (first | refine blk_drewN ?_ _ | refine blk_drew ?_ | refine blk_alloc ?_ _)); exact BK130.out) Tryd.underlying42 rfl (by kernel_rfl)) rfl ?_
        exact ⟨by first | rfl | (simp [errW_none, errW_some] <;> rfl) | (simp [*, errW_none, errW_some] <;> rfl), by repeat (first | (with_reducible first | exact HB.out | apply below_alloc | apply pw_below_drewN | apply below_drew1 | refine below_set ?_ GE130.out) | exact HB.out)⟩
      · rw [if_neg c11] at H
        have c11b0 : (a0 == 83) = false := beq_eq_false_iff_ne.mpr c11
        have c11b1 : (a0 != 83) = true := bne_iff_ne.mpr c11
        replace H := Option.bind_eq_some_iff.mp H
        obtain ⟨⟨t140, t141, t142⟩, A150, H⟩ := H
        replace H : (some (0, t140, t141, t142)) = some (r1, r2, r3, r4) := H
        have A15 := Aside0.mk A150
        clear A150
        simp only [Option.some.injEq, Prod.mk.injEq] at H
        obtain ⟨rfl, rfl, rfl, rfl⟩ := H
        go_enter Tryd.func29, Tryd.ntmps29
        go_wp2_with (first | ((with_reducible refine gate_dst (N := 4) rfl ?_); refine box_event ?hg (N := 4) ?hd (cs := #[.int .u64 0, .string (⟨#[]⟩ : ByteArray)]) (t := 42) ?hr ?_; (case hd => rfl); (case hg => rfl); (case hr => first | (go_simp; done) | (go_simp; rfl)); intro gb130 hg w16 hbox hb; have n0_ := Aside0.mk (below_step (by repeat (first | (with_reducible first | exact HB.out | apply below_alloc | apply pw_below_drewN | apply below_drew1) | exact HB.out)) hb); have n1_ := Aside0.mk (hbox); have n2_ := Aside0.mk ((by rw [hg]; exact (below_size (by repeat (first | (with_reducible first | exact HB.out | apply below_alloc | apply pw_below_drewN | apply below_drew1) | exact HB.out))) : w.heap.size ≤ gb130)); have n3_ := Aside0.mk ((by rw [hg]; exact (below_size (by repeat (first | (with_reducible first | exact HB.out | apply below_alloc | apply pw_below_drewN | apply below_drew1) | exact HB.out))) : w.heap.size ≤ gb130)); clear HB; have HB := n0_; have BK130 := n1_; have GW130 := n2_; have GE130 := n3_; clear n0_ n1_ n2_ n3_; clear hb hbox hg) | ((with_reducible refine gate_callee (f := 47) rfl ?_); refine goesL_ (some 10) rfl rfl Tryd.func47 (by kernel_rfl) rfl #[.string a1] rfl (by (try simp only [List.map_toArray, List.map_cons, List.map_nil]); first | done | rfl | (simp only [List.length_drop, List.length_take]; rfl)) ?_; (with_reducible refine (table_Take.calls a1 t140 t141 t142 _ ?lg A15.out).mono ?_); (case lg => exact (HG.out.below (by repeat (first | (with_reducible first | exact HB.out | apply below_alloc | apply pw_below_drewN | apply below_drew1 | refine below_set ?_ GE130.out) | exact HB.out)))); rintro e w17 ⟨rfl, hb⟩; refine ⟨_, rfl, ?_⟩; have n0_ := Aside0.mk (blk_below (g := gb130) (o := .cells #[.int .u64 0, .string (⟨#[]⟩ : ByteArray)] 42 (0, 0)) (by (with_reducible repeat (first | refine blk_drewN ?_ _ | refine blk_drew ?_ | refine blk_alloc ?_ _)); exact BK130.out) hb); have n1_ := Aside0.mk (below_step (by repeat (first | (with_reducible first | exact HB.out | apply below_alloc | apply pw_below_drewN | apply below_drew1 | refine below_set ?_ GE130.out) | exact HB.out)) hb); clear BK130; clear HB; have BK130 := n0_; have HB := n1_; clear n0_ n1_; (try clear hb); (try clear hb2); (try clear hk); (try clear hi); have hcz18_0 : w17.cell? ⟨gb130, 0, none⟩ = some (.int .u64 0) := (blk_cell BK130.out 0).trans rfl; have hcz18_1 : w17.cell? ⟨gb130, 1, none⟩ = some (.string (⟨#[]⟩ : ByteArray)) := (blk_cell BK130.out 1).trans rfl; have hfz18_0 := blk_frozen BK130.out 0; have hfz18_1 := blk_frozen BK130.out 1))
        refine bodyPost_ret (results_ctt rfl _ _ gb130 42 #[.int .u64 0, .string t140] (0, 0) _ rfl (by (with_reducible repeat (first | refine blk_drewN ?_ _ | refine blk_drew ?_ | refine blk_alloc ?_ _)); refine blk_put (cs := #[.int .u64 0, .string t140]) ?_ 1 _ rfl; (with_reducible repeat (first | refine blk_drewN ?_ _ | refine blk_drew ?_ | refine blk_alloc ?_ _)); refine blk_put (cs := #[.int .u64 0, .string t140]) ?_ 0 _ rfl; (with_reducible repeat (first | refine blk_drewN ?_ _ | refine blk_drew ?_ | refine blk_alloc ?_ _)); refine blk_put (cs := #[.int .u64 0, .string (⟨#[]⟩ : ByteArray)]) ?_ 1 _ rfl; (with_reducible repeat (first | refine blk_drewN ?_ _ | refine blk_drew ?_ | refine blk_alloc ?_ _)); exact BK130.out) Tryd.underlying42 rfl (by kernel_rfl)) rfl ?_
        exact ⟨by first | rfl | (simp [errW_none, errW_some] <;> rfl) | (simp [*, errW_none, errW_some] <;> rfl), by repeat (first | (with_reducible first | exact HB.out | apply below_alloc | apply pw_below_drewN | apply below_drew1 | refine below_set ?_ GE130.out) | exact HB.out)⟩


end Go.Proofs.YthpfcplhlhnfeaaDoor.F
namespace Go.Proofs.YthpfcplhlhnfeaaDoor.F
open Go.RowKit Go.Proofs.YthpfcplhlhnfeaaDoorW.PrintWords Go.Proofs.YthpfcplhlhnfeaaDoorW.PrintLast Go.Proofs.YthpfcplhlhnfeaaDoorW.PrintMore
set_option linter.unusedVariables false
set_option linter.unusedSimpArgs false
set_option maxRecDepth 4000
/-- what stands ahead of the rest, by its letter -/
def valueR (c : Int) (s : ByteArray) : Int × ByteArray × ByteArray × Int :=
  if c = 111 then ((takeR s 1).1, ⟨#[]⟩, (takeR s 1).2.1, (takeR s 1).2.2)
  else if c = 113 then ((takeR s 8).1, ⟨#[]⟩, (takeR s 8).2.1, (takeR s 8).2.2)
  else if c = 83 then (0, (ltakeR 1 s).1, (ltakeR 1 s).2.1, (ltakeR 1 s).2.2)
  else (0, (takenR s (tabR s)).1, (takenR s (tabR s)).2.1, (takenR s (tabR s)).2.2)
theorem value_k {k : Nat} (hk : 12 ≤ k) (c : Int) (s : ByteArray) (hz : s.size ≤ 4611686018427387904) : props_value.f k c s = some (valueR c s) := by
  unfold props_value.f valueR
  by_cases e1 : c = 111
  · rw [if_pos e1, if_pos e1, take_k hk, Option.bind_some]
  · rw [if_neg e1, if_neg e1]
    by_cases e2 : c = 113
    · rw [if_pos e2, if_pos e2, take_k hk, Option.bind_some]
    · rw [if_neg e2, if_neg e2]
      by_cases e3 : c = 83
      · rw [if_pos e3, if_pos e3, tshort_k hk s hz, Option.bind_some]
      · rw [if_neg e3, if_neg e3]
        have : table_Take.f s = some (takenR s (tabR s)) := by unfold table_Take.f; rw [if_pos hz]
        rw [this, Option.bind_some]
theorem taken_size (s : ByteArray) : (takenR s (tabR s)).1.size ≤ s.size ∧ (takenR s (tabR s)).2.1.size ≤ s.size := by
  have h := tabR_less s
  unfold takenR
  by_cases e : (tabR s).2.1 = 0
  · rw [if_pos e]
    have h := h e
    rw [extract_size s _ (by omega)]
    exact ⟨by omega, by dsimp only; omega⟩
  · rw [if_neg e]
    exact ⟨Nat.zero_le _, Nat.zero_le _⟩
theorem value_size (c : Int) (s : ByteArray) : (valueR c s).2.1.size ≤ s.size ∧ (valueR c s).2.2.1.size ≤ s.size ∧ 0 ≤ (valueR c s).1 ∧ (valueR c s).1 < 18446744073709551616 := by
  unfold valueR
  split
  · exact ⟨Nat.zero_le _, take_rest s 1, (take_bound s 1).1, (take_bound s 1).2⟩
  · split
    · exact ⟨Nat.zero_le _, take_rest s 8, (take_bound s 8).1, (take_bound s 8).2⟩
    · split
      · exact ⟨(ltake_size 1 s).1, (ltake_size 1 s).2, Int.le_refl _, (by decide : (0 : Int) < 18446744073709551616)⟩
      · exact ⟨(taken_size s).1, (taken_size s).2, Int.le_refl _, (by decide : (0 : Int) < 18446744073709551616)⟩
/-- the values of the properties in a list -/
def ptGo : List Nat → ByteArray → List S42 → List S42 × ByteArray × Int
  | [], s, acc => (acc, s, 0)
  | i :: is, s, acc => if (valueR (letN i) s).2.2.2 = 0 then ptGo is (valueR (letN i) s).2.2.1 (acc ++ [⟨(valueR (letN i) s).1, (valueR (letN i) s).2.1⟩]) else (acc, s, 7)
/-- the head that was taken, where it is right -/
def ptEnd (a b fl wt : Int) (l : List S42) (rest : ByteArray) : Int × Int × Int × List S42 × Int :=
  if rest.size ≠ 0 ∨ wt ≠ 0 ∨ ¬ FormR a fl l ∨ ¬ valuesR fl l = 0 then (0, 0, 0, [], 7) else if 65536 < b then (0, 0, 0, [], 4) else (a, b, fl, l, 0)
def ptMid (a b fl wt : Int) (s : ByteArray) : Int × Int × Int × List S42 × Int :=
  if (ptGo (whichF fl 0) s []).2.2 = 0 then ptEnd a b fl wt (ptGo (whichF fl 0) s []).1 (ptGo (whichF fl 0) s []).2.1 else (0, 0, 0, [], 7)
def pt2 (s : ByteArray) : ByteArray := (takeR s 2).2.1
def pt4 (s : ByteArray) : ByteArray := (takeR (pt2 s) 2).2.1
def pt12 (s : ByteArray) : ByteArray := (takeR (pt4 s) 8).2.1
def pt14 (s : ByteArray) : ByteArray := (takeR (pt12 s) 2).2.1
def ptakeR (s : ByteArray) : Int × Int × Int × List S42 × Int :=
  if s.size < 14 then (0, 0, 0, [], 7) else ptMid (takeR s 2).1 (takeR (pt4 s) 8).1 (takeR (pt12 s) 2).1 (takeR (pt2 s) 2).1 (pt14 s)
def props_Take.f (s : ByteArray) : Option (Int × Int × Int × List S42 × Int) := if s.size ≤ 4503599627370496 then some (ptakeR s) else none
theorem take2_lt {s : ByteArray} : (takeR s 2).1 < 65536 := by
  unfold takeR
  rw [if_pos (.inr (.inl rfl))]
  split
  · show (0 : Int) < 65536
    decide
  · dsimp only
    have h := beNum_lt (s.data.toList.take (2 : Int).toNat)
    have h2 : (s.data.toList.take (2 : Int).toNat).length ≤ 2 := by rw [List.length_take]; exact Nat.min_le_left _ _
    have h3 : 256 ^ (s.data.toList.take (2 : Int).toNat).length ≤ 256 ^ 2 := Nat.pow_le_pow_right (by decide) h2
    omega
end Go.Proofs.YthpfcplhlhnfeaaDoor.F
namespace Go.Proofs.YthpfcplhlhnfeaaDoor.F
open Go.RowKit Go.Proofs.YthpfcplhlhnfeaaDoorW.PrintWords Go.Proofs.YthpfcplhlhnfeaaDoorW.PrintLast Go.Proofs.YthpfcplhlhnfeaaDoorW.PrintMore
set_option linter.unusedVariables false
set_option linter.unusedSimpArgs false
set_option maxRecDepth 4000
attribute [local go_sem] Oper.semAt_some
/-- What the blocks of a call of Take hold between two rounds: the result, the head. -/
def PTH (w0 : World) (a b fl : Int) (pre : List S42) (W : World) : Prop :=
  W.heap[w0.heap.size]? = some (.cells #[.int .i64 0, .int .u64 0, .int .u64 0, .slice none 0 0] 25 (0, 0)) ∧ (∃ v, W.heap[w0.heap.size + 1]? = some (.cells #[.int .i64 a, .int .u64 b, .int .u64 fl, v] 61 (0, 0)) ∧ Kd.R k42 42 W (w0.heap.size + 2) (fun _ => True) v pre) ∧ Below w0.heap.size w0 W
theorem PTH.below {w0 : World} {a b fl : Int} {pre : List S42} {W W' : World} (h : PTH w0 a b fl pre W) (hb : Below W.heap.size W W') : PTH w0 a b fl pre W' := by
  obtain ⟨h1, ⟨v, h2, h3⟩, h4⟩ := h
  exact ⟨blk_below h1 hb, ⟨v, blk_below h2 hb, Kd.R_below h3 hb⟩, h4.trans (hb.mono h4.size)⟩
theorem pth_start (w : World) (n1 n3 n4 n5 : Nat) (a b fl : Int) : PTH w a b fl [] (((((((w.alloc (.cells #[.int .i64 0, .int .u64 0, .int .u64 0, .slice none 0 0] 25)).drewN n1).alloc (.cells #[.int .i64 a, .int .u64 0, .int .u64 0, .slice none 0 0] 61)).drewN n3).setCell ⟨w.heap.size + 1, 1, none⟩ (.int .u64 b)).drewN n4).setCell ⟨w.heap.size + 1, 2, none⟩ (.int .u64 fl) |>.drewN n5) := by
  have e1 := blk_drewN (blk_new w (.cells #[.int .i64 0, .int .u64 0, .int .u64 0, .slice none 0 0] 25)) n1
  have hs : ((w.alloc (.cells #[.int .i64 0, .int .u64 0, .int .u64 0, .slice none 0 0] 25)).drewN n1).heap.size = w.heap.size + 1 := by simp
  have e2 := blk_new ((w.alloc (.cells #[.int .i64 0, .int .u64 0, .int .u64 0, .slice none 0 0] 25)).drewN n1) (.cells #[.int .i64 a, .int .u64 0, .int .u64 0, .slice none 0 0] 61)
  rw [hs] at e2
  have f1 := blk_drewN (blk_alloc e1 (.cells #[.int .i64 a, .int .u64 0, .int .u64 0, .slice none 0 0] 61)) n3
  have g1 := blk_drewN (blk_far f1 (p := ⟨w.heap.size + 1, 1, none⟩) (by simp) (.int .u64 b)) n4
  have g2 := blk_drewN (blk_put (blk_drewN e2 n3) 1 (.int .u64 b) rfl) n4
  have k1 := blk_drewN (blk_far g1 (p := ⟨w.heap.size + 1, 2, none⟩) (by simp) (.int .u64 fl)) n5
  have k2 := blk_drewN (blk_put g2 2 (.int .u64 fl) rfl) n5
  refine ⟨k1, ⟨_, k2, Kd.R_nil _ _ _ _ _⟩, ?_⟩
  exact pw_below_drewN (Below.setCell (pw_below_drewN (Below.setCell (pw_below_drewN (Below.alloc (pw_below_drewN ((Below.refl _ w).alloc (Nat.le_refl _) _) n1) (by rw [hs]; omega) _) n3) (p := ⟨w.heap.size + 1, 1, none⟩) (by simp) _) n4) (p := ⟨w.heap.size + 1, 2, none⟩) (by simp) _) n5
theorem cell_two_new (w : World) (x y : Value) (t : TypeId) : ∀ j u, [x, y][j]? = some u → (w.alloc (.cells #[x, y] t)).cell? ((⟨w.heap.size, 0, none⟩ : Addr).add j) = some u := by
  intro j u hj
  match j, hj with
  | 0, hj => simp at hj; subst hj; simp [Addr.add]
  | 1, hj => simp at hj; subst hj; simp [Addr.add]
theorem cell_two_new' (w : World) (o : Obj) (x y : Value) (t : TypeId) : ∀ j u, [x, y][j]? = some u → ((w.alloc o).alloc (.cells #[x, y] t)).cell? ((⟨w.heap.size + 1, 0, none⟩ : Addr).add j) = some u := by
  have := cell_two_new (w.alloc o) x y t
  rw [show (w.alloc o).heap.size = w.heap.size + 1 by simp] at this
  exact this
set_option maxHeartbeats 4000000 in
set_option maxRecDepth 100000 in
theorem props_Take.calls (s : ByteArray) (r1 r2 r3 : Int) (r4 : List S42) (r5 : Int) (w : World) (hg : Laid w) (h : props_Take.f s = some (r1, r2, r3, r4, r5)) :
    Calls Tryd.prog 12 #[.string s] w fun e w' => ∃ v, e = .returned (.tuple #[.agg #[.int .i64 r1, .int .u64 r2, .int .u64 r3, v], .int .i64 r5]) ∧ Kd.R k42 42 w' w.heap.size (fun _ => True) v r4 ∧ Below w.heap.size w w' := by
  have hz : s.size ≤ 4503599627370496 := by
    unfold props_Take.f at h
    split at h
    · assumption
    · cases h
  unfold props_Take.f at h
  rw [if_pos hz] at h
  replace h := Option.some.inj h
  unfold ptakeR at h
  have HG := Aside0.mk hg
  have hu61 := Tryd.underlying61
  have hu25 := Tryd.underlying25
  have hu42 := Tryd.underlying42
  have hinf : (Tryd.prog.info? 25).map (·.size) = some 4 := by kernel_rfl
  have hmf : ∀ (fn : Fn) (first cap : Array Value) (w : World), (Instr.makeFunc fn first cap).run Tryd.prog w = .ok (.func fn first cap) w := fun _ _ _ _ => rfl
  clear hg
  by_cases e0 : s.size < 14
  · rw [if_pos e0] at h
    simp only [Prod.mk.injEq] at h
    obtain ⟨rfl, rfl, rfl, rfl, rfl⟩ := h
    have g0 : decide ((s.size : Int) < 14) = true := decide_eq_true (by omega)
    go_enter Tryd.func12, Tryd.ntmps12
    go_wp2
    refine bodyPost_ret (results_ct rfl _ _ _ _ _ _ _ rfl (blk_new w _) hu25 rfl hinf) rfl ?_
    exact ⟨_, rfl, Kd.R_nil _ _ _ _ _, (Below.refl _ w).alloc (Nat.le_refl _) _⟩
  · rw [if_neg e0] at h
    have g0 : decide ((s.size : Int) < 14) = false := decide_eq_false (by omega)
    have t1 := Aside0.mk (take_k (k := 12) (by decide) s 2)
    have t2 := Aside0.mk (take_k (k := 12) (by decide) (pt2 s) 2)
    have t3 := Aside0.mk (take_k (k := 12) (by decide) (pt4 s) 8)
    have t4 := Aside0.mk (take_k (k := 12) (by decide) (pt12 s) 2)
    have z1 : (pt14 s).size ≤ s.size := Nat.le_trans (Nat.le_trans (Nat.le_trans (take_rest _ _) (take_rest _ _)) (take_rest _ _)) (take_rest _ _)
    have b1 := take_bound s 2
    have b2 := take_bound (pt2 s) 2
    have b3 := take_bound (pt4 s) 8
    have b4 := take_bound (pt12 s) 2
    have c1 := take2_lt (s := s)
    have c4 := take2_lt (s := pt12 s)
    unfold pt14 at *
    unfold pt12 at *
    unfold pt4 at *
    unfold pt2 at *
    generalize takeR s 2 = T1 at *
    obtain ⟨cls, s1, x1⟩ := T1
    (try dsimp only at *)
    generalize takeR s1 2 = T2 at *
    obtain ⟨wt, s2, x2⟩ := T2
    (try dsimp only at *)
    generalize takeR s2 8 = T3 at *
    obtain ⟨b, s3, x3⟩ := T3
    (try dsimp only at *)
    generalize takeR s3 2 = T4 at *
    obtain ⟨fl, s4, x4⟩ := T4
    (try dsimp only at *)
    go_enter Tryd.func12, Tryd.ntmps12
    go_wp2_with (first | (go_at_call 27; first | ((with_reducible refine (num_Take.calls 12 s 2 cls s1 x1 _ ?lg t1.out).mono ?_); (case lg => exact HG.out.below (by repeat (first | exact Below.refl _ _ | with_reducible apply below_alloc | with_reducible apply pw_below_drewN | (with_reducible refine Below.setCell ?_ (by simp) _)))); rintro e w' ⟨rfl, ⟨n1, rfl⟩⟩) | ((with_reducible refine (num_Take.calls 12 s1 2 wt s2 x2 _ ?lg t2.out).mono ?_); (case lg => exact HG.out.below (by repeat (first | exact Below.refl _ _ | with_reducible apply below_alloc | with_reducible apply pw_below_drewN | (with_reducible refine Below.setCell ?_ (by simp) _)))); rintro e w' ⟨rfl, ⟨n2, rfl⟩⟩) | ((with_reducible refine (num_Take.calls 12 s2 8 b s3 x3 _ ?lg t3.out).mono ?_); (case lg => exact HG.out.below (by repeat (first | exact Below.refl _ _ | with_reducible apply below_alloc | with_reducible apply pw_below_drewN | (with_reducible refine Below.setCell ?_ (by simp) _)))); rintro e w' ⟨rfl, ⟨n3, rfl⟩⟩) | ((with_reducible refine (num_Take.calls 12 s3 2 fl s4 x4 _ ?lg t4.out).mono ?_); (case lg => exact HG.out.below (by repeat (first | exact Below.refl _ _ | with_reducible apply below_alloc | with_reducible apply pw_below_drewN | (with_reducible refine Below.setCell ?_ (by simp) _)))); rintro e w' ⟨rfl, ⟨n4, rfl⟩⟩)) | (go_at_call 22; (with_reducible refine (props_Letters.calls lettersB _ rfl).mono ?_); rintro e w' ⟨rfl, ⟨n5, rfl⟩⟩))
    have hP0 := pth_start w (n1 + n2) n3 n4 n5 cls b fl
    generalize ((((((((w.alloc (.cells #[.int .i64 0, .int .u64 0, .int .u64 0, .slice none 0 0] 25)).drewN (n1 + n2)).alloc (.cells #[.int .i64 cls, .int .u64 0, .int .u64 0, .slice none 0 0] 61)).drewN n3).setCell ⟨w.heap.size + 1, 1, none⟩ (.int .u64 b)).drewN n4).setCell ⟨w.heap.size + 1, 2, none⟩ (.int .u64 fl)).drewN n5) = W0 at hP0 ⊢
    have HH := Aside0.mk h
    have C1 := Aside0.mk c1
    have C4 := Aside0.mk c4
    have B1 := Aside0.mk b1
    have B2 := Aside0.mk b2
    have B3 := Aside0.mk b3
    have B4 := Aside0.mk b4
    clear h t1 t2 t3 t4 b1 b2 b3 b4 c1 c4 g0
    go_loopw [5, 56] (fun v5 v56 wr => ∃ (pre : List S42) (q : ByteArray) (i : Nat), v5 = .string q ∧ v56 = .int .i64 (i : Int) ∧ PTH w cls b fl pre wr ∧ Aside0 (i ≤ 14) ∧ Aside0 (ptGo (whichF fl i) q pre = ptGo (whichF fl 0) s4 []) ∧ Aside0 (pre.length ≤ i) ∧ Aside0 (q.size ≤ 4503599627370496) ∧ Aside0 (∀ v ∈ pre, okV v)) (fun _ v56 _ => 14 - (intOf v56).toNat)
    case atStart => exact ⟨[], s4, 0, rfl, rfl, hP0, ⟨by decide⟩, ⟨rfl⟩, ⟨Nat.le_refl _⟩, ⟨by omega⟩, ⟨fun v hv => by cases hv⟩⟩
    case round =>
      obtain ⟨pre, q, i, rfl, rfl, hP, hi, hgo, hlen, hqs, hok⟩ := hrel
      by_cases h14 : i < 14
      · have hlt : decide ((i : Int) < (lettersB.size : Int)) = true := decide_eq_true (by show (i : Int) < 14; omega)
        have hhas := Aside0.mk (has_f cls b fl [] B4.out.1 B4.out.2 i h14)
        have hws := whichF_step fl i h14
        have hw1 : wrap64 ((i : Int) + 1) = ((i + 1 : Nat) : Int) := by rw [wrap64_of (by omega) (by omega)]; omega
        have hms : 14 - (i + 1) < 14 - i := by omega
        have hbt : ∀ h, ((lettersB[i]'h).toNat : Int) = letN i := fun h => by unfold letN; rw [bt_get lettersB i h]; rfl
        have q2 : i < lettersB.size := h14
        have q3 : (0 : Int) ≤ (i : Int) := by omega
        have q4 : (i : Int) < (lettersB.size : Int) := by show (i : Int) < 14; omega
        by_cases hh : hasB fl i = true
        · rw [if_pos hh] at hws
          rw [hws, ptGo] at hgo
          have hvl := Aside0.mk (value_k (k := 12) (by decide) (letN i) q (by have := hqs.out; omega))
          have hvs := value_size (letN i) q
          generalize valueR (letN i) q = V at hvl hvs hgo
          obtain ⟨v0, v1, q', e⟩ := V
          (try dsimp only at hvs hgo)
          by_cases he : e = 0
          · subst he
            rw [if_pos rfl] at hgo
            obtain ⟨i0, hi0, hz0, hz1, hz2⟩ := info_parts info42
            go_wp2_with (first
              | (go_at_call 28; (refine (props_held_has.calls cls b fl none 0 [] (i : Int) (hasB fl i) _ (Kd.C_nil _ _) (Nat.le_refl _) hhas.out).mono ?_); rintro e w1 ⟨rfl, hb1⟩; have hP1 := hP.below hb1; rw [hh])
              | (go_at_call 22; (with_reducible refine (props_Letters.calls lettersB _ rfl).mono ?_); rintro e w' ⟨rfl, ⟨nd, rfl⟩⟩; have hPd := hP1.below (pw_below_drewN (Below.refl _ w1) nd))
              | (go_at_call 29; (refine (props_value.calls 12 (letN i) q v0 v1 q' 0 _ ?lg hvl.out).mono ?_); (case lg => exact HG.out.below hPd.2.2); rintro e w2 ⟨rfl, hb2⟩; obtain ⟨k1, ⟨u, k2, k3⟩, k4⟩ := hPd.below hb2; obtain ⟨inner, hrow, hmk⟩ := vals_row k3; have k4s := k4.size; have k2l := blk_lt k2; have hc3 : ∀ o, (w2.alloc o).cell? ⟨w.heap.size + 1, 3, none⟩ = some u := fun o => (blk_cell (blk_alloc k2 o) 3).trans rfl)
              | (at_builtin; refine wpList_append_own _ rfl _ _ 23 rfl (w.heap.size + 2) 42 i0 _ 2 24 Tryd.underlying23 hi0 hz0 hz1 hz2 rfl (by decide) u _ inner rfl ((hrow.alloc _).alloc _) ⟨w2.heap.size + 1, 0, none⟩ 1 1 [.int .u64 v0, .string v1] rfl rfl (cell_two_new' w2 _ _ _ _) (by simp [Value.oneCell']) (by show _ ≤ 9223372036854775807; have := hlen.out; omega) (by have := hlen.out; omega) (by simp; omega) ?_; intro v' w3 hown' hgrow _; obtain ⟨g', cap', rfl⟩ := ownsRow_succ hown'; obtain ⟨hv1, hv2, hr2, hk2, hb3⟩ := blk_appended (n₀ := w.heap.size) (blk_alloc k2 _) (hrow.alloc _) (by simp; omega) (by omega) (by omega) hown' hgrow; have hc1 : w3.cell? ⟨w.heap.size + 1, 3, none⟩ = some u := (blk_cell hv1 3).trans rfl; have hf1 : w3.frozen? ⟨w.heap.size + 1, 3, none⟩ = false := blk_frozen hv1 3; have k1' := blk_kept (B := w.heap.size + 1) (i := 3) (u := .slice (some ⟨g', 0, none⟩) (pre.length + 1) cap') (blk_alloc k1 _) (hrow.alloc _) (by omega) (by omega) hgrow))
            go_roundw
            case measure => exact hms
            case rel =>
              refine ⟨pre ++ [⟨v0, v1⟩], q', i + 1, rfl, by go_num, ⟨k1', ⟨_, hv2, hmk _ _ _ hr2⟩, (k4.alloc k4s _).trans hb3⟩, ⟨h14⟩, hgo, ⟨by rw [List.length_append, List.length_singleton]; have := hlen.out; omega⟩, ⟨by have := hqs.out; omega⟩, ⟨fun v hv => ?_⟩⟩
              rcases List.mem_append.1 hv with hv | hv
              · exact hok.out v hv
              · obtain rfl := List.mem_singleton.1 hv
                exact ⟨hvs.2.2.1, hvs.2.2.2, by show v1.size ≤ 4503599627370496; have := hqs.out; omega⟩
          · have he' : (e != 0) = true := bne_iff_ne.2 he
            rw [if_neg he] at hgo
            have hfin := HH.out
            unfold ptMid at hfin
            rw [← hgo.out] at hfin
            rw [if_neg (by show ¬ (7 : Int) = 0; decide)] at hfin
            simp only [Prod.mk.injEq] at hfin
            obtain ⟨rfl, rfl, rfl, rfl, rfl⟩ := hfin
            go_wp2_with (first
              | (go_at_call 28; (refine (props_held_has.calls cls b fl none 0 [] (i : Int) (hasB fl i) _ (Kd.C_nil _ _) (Nat.le_refl _) hhas.out).mono ?_); rintro e w1 ⟨rfl, hb1⟩; have hP1 := hP.below hb1; rw [hh])
              | (go_at_call 22; (with_reducible refine (props_Letters.calls lettersB _ rfl).mono ?_); rintro e w' ⟨rfl, ⟨nd, rfl⟩⟩; have hPd := hP1.below (pw_below_drewN (Below.refl _ w1) nd))
              | (go_at_call 29; (refine (props_value.calls 12 (letN i) q v0 v1 q' e _ ?lg hvl.out).mono ?_); (case lg => exact HG.out.below hPd.2.2); rintro e w2 ⟨rfl, hb2⟩; obtain ⟨k1, ⟨u, k2, k3⟩, k4⟩ := hPd.below hb2; have k4s := k4.size; have k1l := blk_lt k1; have j0 := (blk_cell k1 0).trans rfl; have j1 := (blk_cell k1 1).trans rfl; have j2 := (blk_cell k1 2).trans rfl; have j3 := (blk_cell k1 3).trans rfl; have f0 := blk_frozen k1 0; have f1 := blk_frozen k1 1; have f2 := blk_frozen k1 2; have f3 := blk_frozen k1 3))
            refine bodyPost_ret (results_ct rfl _ _ _ _ _ _ _ rfl (blk_alloc (head4_store k1 _ _ _ _) _) hu25 rfl hinf) rfl ?_
            exact ⟨_, rfl, Kd.R_nil _ _ _ _ _, (head4_below k4 (Nat.le_refl _) _ _ _ _).alloc (by simp; omega) _⟩
        · rw [if_neg hh] at hws
          rw [hws] at hgo
          have hh' : hasB fl i = false := Bool.eq_false_iff.2 hh
          go_wp2_with (first
            | (go_at_call 28; (refine (props_held_has.calls cls b fl none 0 [] (i : Int) (hasB fl i) _ (Kd.C_nil _ _) (Nat.le_refl _) hhas.out).mono ?_); rintro e w1 ⟨rfl, hb1⟩; have hP1 := hP.below hb1; rw [hh']))
          go_roundw
          case measure => exact hms
          case rel => exact ⟨pre, q, i + 1, rfl, by go_num, hP1, ⟨h14⟩, hgo, ⟨by have := hlen.out; omega⟩, hqs, hok⟩
      · have hlt : decide ((i : Int) < (lettersB.size : Int)) = false := decide_eq_false (by show ¬ (i : Int) < 14; omega)
        rw [whichF_end fl i (by omega)] at hgo
        have hfin := HH.out
        unfold ptMid at hfin
        rw [← hgo.out] at hfin
        rw [ptGo, if_pos rfl] at hfin
        dsimp only at hfin
        unfold ptEnd at hfin
        obtain ⟨k1, ⟨u, k2, k3⟩, k4⟩ := hP
        obtain ⟨A, c, rfl, hc, hC⟩ := Kd.R_reads k3
        obtain ⟨⟨k10, k11, k12, k13⟩, k14, k15, k16, k17⟩ := head4_cells k1
        obtain ⟨⟨k20, k21, k22, k23⟩, -⟩ := head4_cells k2
        have okh : okH b fl pre := ⟨B3.out, B4.out, by have := hlen.out; have := hi.out; omega, hok.out⟩
        have hfm := form_f cls b fl pre okh
        have HF := Aside0.mk hfin
        clear hfin
        by_cases e1 : q.size = 0
        · obtain rfl := ba_empty e1
          by_cases e2 : wt = 0
          · have e2' : (wt != 0) = false := bne_eq_false_iff_eq.2 e2
            by_cases e3 : FormR cls fl pre
            · rw [if_pos e3] at hfm
              have hform := Aside0.mk hfm
              have hvl : props_held_values.f cls b fl pre = some (valuesR fl pre) := by unfold props_held_values.f; rw [if_pos ⟨okh, by rw [e3.2.2.2]; exact Nat.le_refl _⟩]
              generalize hv : valuesR fl pre = vr at hvl
              have hvals := Aside0.mk hvl
              by_cases e4 : vr = 0
              · subst e4
                by_cases e5 : 65536 < b
                · have e5' : decide (65536 < b) = true := decide_eq_true e5
                  have hfin := HF.out
                  rw [if_neg (fun hh => hh.elim (fun h => h e1) (fun hh => hh.elim (fun h => h e2) (fun hh => hh.elim (fun h => h e3) (fun h => h hv)))), if_pos e5] at hfin
                  simp only [Prod.mk.injEq] at hfin
                  obtain ⟨rfl, rfl, rfl, rfl, rfl⟩ := hfin
                  clear hfm hvl
                  go_wp2_with (first | (go_at_call 30; (refine (props_held_form.calls cls b fl A c pre _ _ hC hc hform.out).mono ?_); rintro e wf ⟨rfl, hbf⟩; have m1 := blk_below k1 hbf; have m2 := blk_below k2 hbf; have m4 := k4.trans (hbf.mono k4.size); have mC := Kd.C_below hC hbf; obtain ⟨⟨m10, m11, m12, m13⟩, m14, m15, m16, m17⟩ := head4_cells m1; obtain ⟨⟨m20, m21, m22, m23⟩, -⟩ := head4_cells m2) | (go_at_call 31; (refine (props_held_values.calls cls b fl A c pre _ _ ?lg mC hc hvals.out).mono ?_); (case lg => exact HG.out.below m4); rintro e wv ⟨rfl, hbv⟩; have n1 := blk_below m1 hbv; have n2 := blk_below m2 hbv; have n4 := m4.trans (hbv.mono m4.size); have nR := Kd.R_below (Kd.R_below k3 hbf) hbv; obtain ⟨⟨n10, n11, n12, n13⟩, n14, n15, n16, n17⟩ := head4_cells n1; obtain ⟨⟨n20, n21, n22, n23⟩, -⟩ := head4_cells n2))

                  refine bodyPost_ret (results_ct rfl _ _ _ _ _ _ _ rfl (head4_store n1 _ _ _ _) hu25 rfl hinf) rfl ?_
                  exact ⟨_, rfl, Kd.R_nil _ _ _ _ _, head4_below n4 (Nat.le_refl _) _ _ _ _⟩
                · have e5' : decide (65536 < b) = false := decide_eq_false e5
                  have hfin := HF.out
                  rw [if_neg (fun hh => hh.elim (fun h => h e1) (fun hh => hh.elim (fun h => h e2) (fun hh => hh.elim (fun h => h e3) (fun h => h hv)))), if_neg e5] at hfin
                  simp only [Prod.mk.injEq] at hfin
                  obtain ⟨rfl, rfl, rfl, rfl, rfl⟩ := hfin
                  clear hfm hvl
                  go_wp2_with (first | (go_at_call 30; (refine (props_held_form.calls cls b fl A c pre _ _ hC hc hform.out).mono ?_); rintro e wf ⟨rfl, hbf⟩; have m1 := blk_below k1 hbf; have m2 := blk_below k2 hbf; have m4 := k4.trans (hbf.mono k4.size); have mC := Kd.C_below hC hbf; obtain ⟨⟨m10, m11, m12, m13⟩, m14, m15, m16, m17⟩ := head4_cells m1; obtain ⟨⟨m20, m21, m22, m23⟩, -⟩ := head4_cells m2) | (go_at_call 31; (refine (props_held_values.calls cls b fl A c pre _ _ ?lg mC hc hvals.out).mono ?_); (case lg => exact HG.out.below m4); rintro e wv ⟨rfl, hbv⟩; have n1 := blk_below m1 hbv; have n2 := blk_below m2 hbv; have n4 := m4.trans (hbv.mono m4.size); have nR := Kd.R_below (Kd.R_below k3 hbf) hbv; obtain ⟨⟨n10, n11, n12, n13⟩, n14, n15, n16, n17⟩ := head4_cells n1; obtain ⟨⟨n20, n21, n22, n23⟩, -⟩ := head4_cells n2))
                  refine bodyPost_ret (results_ct rfl _ _ _ _ _ _ _ rfl (head4_store n1 _ _ _ _) hu25 rfl hinf) rfl ?_
                  exact ⟨_, rfl, Kd.R_lower (R_far4 nR (by omega) _ _ _ _) (by omega), head4_below n4 (Nat.le_refl _) _ _ _ _⟩
              · have e4' : (vr != 0) = true := bne_iff_ne.2 e4
                have hfin := HF.out
                rw [if_pos (.inr (.inr (.inr (by rw [hv]; exact e4))))] at hfin
                simp only [Prod.mk.injEq] at hfin
                obtain ⟨rfl, rfl, rfl, rfl, rfl⟩ := hfin
                clear hfm hvl
                go_wp2_with (first | (go_at_call 30; (refine (props_held_form.calls cls b fl A c pre _ _ hC hc hform.out).mono ?_); rintro e wf ⟨rfl, hbf⟩; have m1 := blk_below k1 hbf; have m2 := blk_below k2 hbf; have m4 := k4.trans (hbf.mono k4.size); have mC := Kd.C_below hC hbf; obtain ⟨⟨m10, m11, m12, m13⟩, m14, m15, m16, m17⟩ := head4_cells m1; obtain ⟨⟨m20, m21, m22, m23⟩, -⟩ := head4_cells m2) | (go_at_call 31; (refine (props_held_values.calls cls b fl A c pre _ _ ?lg mC hc hvals.out).mono ?_); (case lg => exact HG.out.below m4); rintro e wv ⟨rfl, hbv⟩; have n1 := blk_below m1 hbv; have n2 := blk_below m2 hbv; have n4 := m4.trans (hbv.mono m4.size); have nR := Kd.R_below (Kd.R_below k3 hbf) hbv; obtain ⟨⟨n10, n11, n12, n13⟩, n14, n15, n16, n17⟩ := head4_cells n1; obtain ⟨⟨n20, n21, n22, n23⟩, -⟩ := head4_cells n2))
                refine bodyPost_ret (results_ct rfl _ _ _ _ _ _ _ rfl (head4_store n1 _ _ _ _) hu25 rfl hinf) rfl ?_
                exact ⟨_, rfl, Kd.R_nil _ _ _ _ _, head4_below n4 (Nat.le_refl _) _ _ _ _⟩
            · rw [if_neg e3] at hfm
              have hform := Aside0.mk hfm
              have hfin := HF.out
              rw [if_pos (.inr (.inr (.inl e3)))] at hfin
              simp only [Prod.mk.injEq] at hfin
              obtain ⟨rfl, rfl, rfl, rfl, rfl⟩ := hfin
              clear hfm
              go_wp2_with (first | (go_at_call 30; (refine (props_held_form.calls cls b fl A c pre _ _ hC hc hform.out).mono ?_); rintro e wf ⟨rfl, hbf⟩; have m1 := blk_below k1 hbf; have m2 := blk_below k2 hbf; have m4 := k4.trans (hbf.mono k4.size); have mC := Kd.C_below hC hbf; obtain ⟨⟨m10, m11, m12, m13⟩, m14, m15, m16, m17⟩ := head4_cells m1; obtain ⟨⟨m20, m21, m22, m23⟩, -⟩ := head4_cells m2))
              refine bodyPost_ret (results_ct rfl _ _ _ _ _ _ _ rfl (head4_store m1 _ _ _ _) hu25 rfl hinf) rfl ?_
              exact ⟨_, rfl, Kd.R_nil _ _ _ _ _, head4_below m4 (Nat.le_refl _) _ _ _ _⟩
          · have e2' : (wt != 0) = true := bne_iff_ne.2 e2
            have hfin := HF.out
            rw [if_pos (.inr (.inl e2))] at hfin
            simp only [Prod.mk.injEq] at hfin
            obtain ⟨rfl, rfl, rfl, rfl, rfl⟩ := hfin
            clear hfm
            go_wp2
            refine bodyPost_ret (results_ct rfl _ _ _ _ _ _ _ rfl (head4_store k1 _ _ _ _) hu25 rfl hinf) rfl ?_
            exact ⟨_, rfl, Kd.R_nil _ _ _ _ _, head4_below k4 (Nat.le_refl _) _ _ _ _⟩
        · have hne := not_empty e1
          have hfin := HF.out
          rw [if_pos (.inl e1)] at hfin
          simp only [Prod.mk.injEq] at hfin
          obtain ⟨rfl, rfl, rfl, rfl, rfl⟩ := hfin
          clear hfm
          go_wp2
          refine bodyPost_ret (results_ct rfl _ _ _ _ _ _ _ rfl (head4_store k1 _ _ _ _) hu25 rfl hinf) rfl ?_
          exact ⟨_, rfl, Kd.R_nil _ _ _ _ _, head4_below k4 (Nat.le_refl _) _ _ _ _⟩
end Go.Proofs.YthpfcplhlhnfeaaDoor.F
namespace Go.Proofs.YthpfcplhlhnfeaaDoor.F
open Go.RowKit Go.Proofs.YthpfcplhlhnfeaaDoorW.PrintWords Go.Proofs.YthpfcplhlhnfeaaDoorW.PrintLast Go.Proofs.YthpfcplhlhnfeaaDoorW.PrintMore
attribute [local go_sem] max2_int min2_int max_two min_two max_three min_three max_four min_four
set_option linter.unusedVariables false
set_option linter.unusedSimpArgs false
set_option maxRecDepth 4000
set_option linter.unnecessarySimpa false

/-! ### interchangelaw07_shown: function 10 -/
def interchangelaw07_shown.f  : Option (Bool) := (props_Bytes.f 60 5 0 ([] : List (S42))).bind fun bt127 => (if bt127.2 = 0 then (if bt127.1.toList = ([0, 60, 0, 0, 0, 0, 0, 0, 0, 0, 0, 5, 0, 0] : List UInt8) then ((props_Letters.f).bind fun t129 => (some (t129.toList == ([83, 83, 84, 111, 111, 83, 83, 83, 83, 113, 83, 83, 83, 83] : List UInt8)))) else (some false)) else (some false))
set_option maxHeartbeats 8000000 in
set_option maxRecDepth 100000 in
theorem interchangelaw07_shown.calls  (r : Bool) (w : World) (hg : Laid w) (h : interchangelaw07_shown.f  = some r) :
    Calls Tryd.prog 10 #[] w fun e w' => e = .returned (.bool r) ∧ Below w.heap.size w w' := by
  have HG := Aside0.mk hg
  clear hg
  have hu25 := Tryd.underlying25
  have HB := Aside0.mk (Below.refl w.heap.size w)
  have H : ((props_Bytes.f 60 5 0 ([] : List (S42))).bind fun bt127 => (if bt127.2 = 0 then (if bt127.1.toList = ([0, 60, 0, 0, 0, 0, 0, 0, 0, 0, 0, 5, 0, 0] : List UInt8) then ((props_Letters.f).bind fun t129 => (some (t129.toList == ([83, 83, 84, 111, 111, 83, 83, 83, 83, 113, 83, 83, 83, 83] : List UInt8)))) else (some false)) else (some false))) = some r := h
  clear h
  replace H := Option.bind_eq_some_iff.mp H
  obtain ⟨⟨t127, t128⟩, A10, H⟩ := H
  replace H : (if t128 = 0 then (if t127.toList = ([0, 60, 0, 0, 0, 0, 0, 0, 0, 0, 0, 5, 0, 0] : List UInt8) then ((props_Letters.f).bind fun t129 => (some (t129.toList == ([83, 83, 84, 111, 111, 83, 83, 83, 83, 113, 83, 83, 83, 83] : List UInt8)))) else (some false)) else (some false)) = some r := H
  have A1 := Aside0.mk A10
  clear A10
  by_cases c2 : t128 = 0
  · rw [if_pos c2] at H
    have c2b0 : (t128 == 0) = true := beq_iff_eq.mpr c2
    have c2b1 : (t128 != 0) = false := bne_eq_false_iff_eq.mpr c2
    clear c2
    by_cases c3 : t127.toList = ([0, 60, 0, 0, 0, 0, 0, 0, 0, 0, 0, 5, 0, 0] : List UInt8)
    · rw [if_pos c3] at H
      have c3b0 : (t127.toList == ([0, 60, 0, 0, 0, 0, 0, 0, 0, 0, 0, 5, 0, 0] : List UInt8)) = true := beq_iff_eq.mpr c3
      have c3b1 : (t127.toList != ([0, 60, 0, 0, 0, 0, 0, 0, 0, 0, 0, 5, 0, 0] : List UInt8)) = false := bne_eq_false_iff_eq.mpr c3
      clear c3
      replace H := Option.bind_eq_some_iff.mp H
      obtain ⟨t129, A40, H⟩ := H
      replace H : (some (t129.toList == ([83, 83, 84, 111, 111, 83, 83, 83, 83, 113, 83, 83, 83, 83] : List UInt8))) = some r := H
      have A4 := Aside0.mk A40
      clear A40
      obtain rfl := Option.some.inj H
      go_enter Tryd.func10, Tryd.ntmps10
      go_wp2_with (first | (go_at_call 11; (refine (props_Bytes.calls 60 5 0 _ _ ([] : List (S42)) t127 t128 _ ?lg ?side1 ?side2 A1.out).mono ?_); (case lg => exact HG.out.below HB.out); (case side1 => exact Kd.C_nil _ _); (case side2 => exact Nat.le_refl _); rintro e w5 ⟨rfl, hb⟩; have n0_ := Aside0.mk (below_step (by repeat (first | (with_reducible first | exact HB.out | apply below_alloc | apply pw_below_drewN | apply below_drew1) | exact HB.out)) hb); clear HB; have HB := n0_; clear n0_; (try clear hb); (try clear hb2); (try clear hk); (try clear hi)) | (go_at_call 22; (with_reducible refine (props_Letters.calls  t129 _ A4.out).mono ?_); rintro e w' ⟨rfl, ⟨nd, rfl⟩⟩))
      go_ret
      exact ⟨by first | rfl | (simp [errW_none, errW_some] <;> rfl) | (simp [*, errW_none, errW_some] <;> rfl), by repeat (first | (with_reducible first | exact HB.out | apply below_alloc | apply pw_below_drewN | apply below_drew1) | exact HB.out)⟩
    · rw [if_neg c3] at H
      have c3b0 : (t127.toList == ([0, 60, 0, 0, 0, 0, 0, 0, 0, 0, 0, 5, 0, 0] : List UInt8)) = false := beq_eq_false_iff_ne.mpr c3
      have c3b1 : (t127.toList != ([0, 60, 0, 0, 0, 0, 0, 0, 0, 0, 0, 5, 0, 0] : List UInt8)) = true := bne_iff_ne.mpr c3
      obtain rfl := Option.some.inj H
      go_enter Tryd.func10, Tryd.ntmps10
      go_wp2_with (first | (go_at_call 11; (refine (props_Bytes.calls 60 5 0 _ _ ([] : List (S42)) t127 t128 _ ?lg ?side1 ?side2 A1.out).mono ?_); (case lg => exact HG.out.below HB.out); (case side1 => exact Kd.C_nil _ _); (case side2 => exact Nat.le_refl _); rintro e w6 ⟨rfl, hb⟩; have n0_ := Aside0.mk (below_step (by repeat (first | (with_reducible first | exact HB.out | apply below_alloc | apply pw_below_drewN | apply below_drew1) | exact HB.out)) hb); clear HB; have HB := n0_; clear n0_; (try clear hb); (try clear hb2); (try clear hk); (try clear hi)))
      go_ret
      exact ⟨by first | rfl | (simp [errW_none, errW_some] <;> rfl) | (simp [*, errW_none, errW_some] <;> rfl), by repeat (first | (with_reducible first | exact HB.out | apply below_alloc | apply pw_below_drewN | apply below_drew1) | exact HB.out)⟩
  · rw [if_neg c2] at H
    have c2b0 : (t128 == 0) = false := beq_eq_false_iff_ne.mpr c2
    have c2b1 : (t128 != 0) = true := bne_iff_ne.mpr c2
    obtain rfl := Option.some.inj H
    go_enter Tryd.func10, Tryd.ntmps10
    go_wp2_with (first | (go_at_call 11; (refine (props_Bytes.calls 60 5 0 _ _ ([] : List (S42)) t127 t128 _ ?lg ?side1 ?side2 A1.out).mono ?_); (case lg => exact HG.out.below HB.out); (case side1 => exact Kd.C_nil _ _); (case side2 => exact Nat.le_refl _); rintro e w7 ⟨rfl, hb⟩; have n0_ := Aside0.mk (below_step (by repeat (first | (with_reducible first | exact HB.out | apply below_alloc | apply pw_below_drewN | apply below_drew1) | exact HB.out)) hb); clear HB; have HB := n0_; clear n0_; (try clear hb); (try clear hb2); (try clear hk); (try clear hi)))
    go_ret
    exact ⟨by first | rfl | (simp [errW_none, errW_some] <;> rfl) | (simp [*, errW_none, errW_some] <;> rfl), by repeat (first | (with_reducible first | exact HB.out | apply below_alloc | apply pw_below_drewN | apply below_drew1) | exact HB.out)⟩


end Go.Proofs.YthpfcplhlhnfeaaDoor.F
