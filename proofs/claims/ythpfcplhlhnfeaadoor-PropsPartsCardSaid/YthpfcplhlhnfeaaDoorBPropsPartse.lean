/- Texts of this session for the law PropsParts, one behind the other: Hset0, Hset, eq42, interchangeref07Same, Psame07, Pset, propsvalue. -/
import Derived.Test.YthpfcplhlhnfeaaDoorBPropsPartsa
import Derived.Test.YthpfcplhlhnfeaaDoorBPropsPartsb
import Derived.Test.YthpfcplhlhnfeaaDoorBPropsPartsc
import Derived.Test.YthpfcplhlhnfeaaDoorBPropsPartsd
namespace Go.Proofs.YthpfcplhlhnfeaaDoor.F
open Go.RowKit Go.Proofs.YthpfcplhlhnfeaaDoorW.PrintWords Go.Proofs.YthpfcplhlhnfeaaDoorW.PrintLast Go.Proofs.YthpfcplhlhnfeaaDoorW.PrintMore
set_option linter.unusedVariables false
set_option linter.unusedSimpArgs false
set_option maxRecDepth 4000
open Go.Sort
attribute [local go_sem] Oper.semAt_some
/-- the properties that a head with another one has -/
def setFl (fl i : Int) : Int := Go.bits .or .u64 fl (IntKind.u64.wrap (2 ^ (15 - i.toNat)))
/-- a value of the new head -/
def setV (a b fl : Int) (l : List S42) (i : Int) (v : S42) (k : Nat) : S42 :=
  if (k : Int) = i ∨ ¬ (getR a b fl l (k : Int)).2.2 = true then v else ⟨(getR a b fl l (k : Int)).1, (getR a b fl l (k : Int)).2.1⟩
def setR (a b fl : Int) (l : List S42) (i : Int) (v : S42) : Int × Int × Int × List S42 × Int :=
  if i < 0 ∨ 14 ≤ i ∨ ¬ RightR a b fl l = 0 then (a, b, fl, l, 1)
  else if rightR (letN i.toNat) v.f0 v.f1 = 0 then (a, b, setFl fl i, (whichF (setFl fl i) 0).map (setV a b fl l i v), 0)
  else (a, b, fl, l, rightR (letN i.toNat) v.f0 v.f1)
def props_Set.f (a b fl : Int) (l : List S42) (i : Int) (v0 : Int) (v1 : ByteArray) : Option (Int × Int × Int × List S42 × Int) :=
  if okH b fl l ∧ okV ⟨v0, v1⟩ then some (setR a b fl l i ⟨v0, v1⟩) else none
/-- a slice that may be read -/
def RC (W : World) (v : Value) (l : List S42) : Prop := ∃ A c, v = .slice A l.length c ∧ l.length ≤ c ∧ Kd.C k42 W A l.length l
theorem RC.below {W W' : World} {v : Value} {l : List S42} (h : RC W v l) (hb : Below W.heap.size W W') : RC W' v l := by
  obtain ⟨A, c, rfl, h2, h3⟩ := h
  exact ⟨A, c, rfl, h2, Kd.C_below h3 hb⟩
theorem RC.of_R {W : World} {base : Nat} {ok : Nat → Prop} {v : Value} {l : List S42} (h : Kd.R k42 42 W base ok v l) : RC W v l := Kd.R_reads h
/-- what Set gives: a new row, or the one that came in -/
def RS (w W : World) (A : Option Addr) (c : Nat) (l : List S42) (v : Value) (q : Int) (r : List S42) : Prop := (q = 0 ∧ Kd.R k42 42 W w.heap.size (fun _ => True) v r) ∨ (¬ q = 0 ∧ v = .slice A l.length c ∧ r = l)
theorem RS.reads {w W : World} {A : Option Addr} {c : Nat} {l : List S42} {v : Value} {q : Int} {r : List S42} (h : RS w W A c l v q r) (hr : Kd.C k42 w A l.length l) (hc : l.length ≤ c) (hb : Below w.heap.size w W) : RC W v r := by
  rcases h with ⟨_, h⟩ | ⟨_, rfl, rfl⟩
  · exact RC.of_R h
  · exact ⟨A, c, rfl, hc, Kd.C_below hr hb⟩
theorem set_two_new (w : World) (o : Obj) (x y : Value) (t : TypeId) : ∀ j u, [x, y][j]? = some u → ((w.alloc o).alloc (.cells #[x, y] t)).cell? ((⟨w.heap.size + 1, 0, none⟩ : Addr).add j) = some u := by
  intro j u hj
  match j, hj with
  | 0, hj => simp at hj; subst hj; simp [Addr.add]
  | 1, hj => simp at hj; subst hj; simp [Addr.add]
theorem setFl_nat {fl : Int} (h : 0 ≤ fl ∧ fl < 18446744073709551616) {i : Nat} (hi : i < 14) : setFl fl (i : Int) = ((fl.toNat ||| 2 ^ (15 - i) : Nat) : Int) ∧ fl.toNat ||| 2 ^ (15 - i) < 2 ^ 64 := by
  obtain ⟨x, rfl⟩ := Int.eq_ofNat_of_zero_le h.1
  have hp : 2 ^ (15 - i) < 2 ^ 64 := Nat.pow_lt_pow_right (by decide) (by omega)
  have hw : IntKind.u64.wrap (2 ^ (15 - i)) = ((2 ^ (15 - i) : Nat) : Int) := by
    rw [show (2 : Int) ^ (15 - i) = ((2 ^ (15 - i) : Nat) : Int) by simp]
    exact wrapU (Int.natCast_nonneg _) (by have : (2 : Nat) ^ 64 = 18446744073709551616 := by decide
                                           omega)
  have hx : x < 2 ^ 64 := by have := h.2; omega
  constructor
  · unfold setFl
    rw [Int.toNat_natCast, hw, Int.toNat_natCast]
    exact (bits_nat .u64 64 (by decide) (fun n h0 h1 => IntWalk.u64_in _ (by omega)) x _ hx hp).2
  · rw [Int.toNat_natCast]
    exact Nat.or_lt_two_pow hx hp
theorem setFl_range {fl : Int} (h : 0 ≤ fl ∧ fl < 18446744073709551616) {i : Nat} (hi : i < 14) : 0 ≤ setFl fl (i : Int) ∧ setFl fl (i : Int) < 18446744073709551616 := by
  obtain ⟨h1, h2⟩ := setFl_nat h hi
  rw [h1]
  have : (2 : Nat) ^ 64 = 18446744073709551616 := by decide
  exact ⟨Int.natCast_nonneg _, by omega⟩
/-- What the blocks of a call of Set hold between two rounds. -/
def SHeld (w0 : World) (e p : Nat) (cs hc : Array Value) (a b fl2 : Int) (i : Nat) (v0 : Int) (v1 : ByteArray) (f : Nat → S42) (pre : List Nat) (W : World) : Prop :=
  W.heap[e]? = some (.cells cs 61 (0, 0)) ∧ W.heap[w0.heap.size]? = some (.cells hc 25 (0, 0)) ∧ Boxed W (w0.heap.size + 1) 3 (.int .i64 (i : Int)) ∧ W.heap[w0.heap.size + 1 + 1]? = some (.cells #[.int .u64 v0, .string v1] 42 (0, 0)) ∧
    W.heap[w0.heap.size + 1 + 1 + 1]? = some (.cells #[.int .i64 0, .int .u64 0, .int .u64 0, .slice none 0 0] 25 (0, 0)) ∧ (∃ u, W.heap[p]? = some (.cells #[.int .i64 a, .int .u64 b, .int .u64 fl2, u] 61 (0, 0)) ∧ Kd.R k42 42 W (e + 1) (fun _ => True) u (pre.map f)) ∧ Below w0.heap.size w0 W
theorem SHeld.below {w0 : World} {e p : Nat} {cs hc : Array Value} {a b fl2 : Int} {i : Nat} {v0 : Int} {v1 : ByteArray} {f : Nat → S42} {pre : List Nat} {W W' : World} (hb : Below W.heap.size W W') (h : SHeld w0 e p cs hc a b fl2 i v0 v1 f pre W) : SHeld w0 e p cs hc a b fl2 i v0 v1 f pre W' := by
  obtain ⟨h1, h2, h3, h4, h5, ⟨u, h6, h7⟩, h8⟩ := h
  exact ⟨blk_below h1 hb, blk_below h2 hb, boxed_below h3 hb, blk_below h4 hb, blk_below h5 hb, ⟨u, blk_below h6 hb, Kd.R_below h7 hb⟩, h8.trans (hb.mono h8.size)⟩
theorem SHeld.own {w0 : World} {B e p : Nat} {cs hc : Array Value} {a b fl2 : Int} {i : Nat} {v0 : Int} {v1 : ByteArray} {f : Nat → S42} (hB : w0.heap.size ≤ B) : OwnFrom B (SHeld w0 e p cs hc a b fl2 i v0 v1 f) := by
  rintro x W W' row ⟨h1, h2, h3, h4, h5, ⟨u, h6, h7⟩, h8⟩ hg hr
  have hr' : ∀ r, row = some r → ∃ o : Obj, W.heap[r]? = some o ∧ o.isCells = false := fun r e => (hr r e).2
  exact ⟨blk_other h1 hg hr', blk_other h2 hg hr', boxed_other h3 hg hr', blk_other h4 hg hr', blk_other h5 hg hr', ⟨u, blk_other h6 hg hr', R_other h7 hg hr'⟩, ownFrom_below (β := List Nat) (Nat.le_refl _) hB x W W' row h8 hg hr⟩
set_option maxHeartbeats 4000000 in
set_option maxRecDepth 100000 in
theorem set_calls (a b fl : Int) (A : Option Addr) (c : Nat) (l : List S42) (i : Nat) (hi : i < 14) (v0 : Int) (v1 : ByteArray) (w : World) (hg : Laid w) (hr : Kd.C k42 w A l.length l) (hc : l.length ≤ c) (hok : okH b fl l) (hokv : okV ⟨v0, v1⟩) (hR : RightR a b fl l = 0) :
    Calls Tryd.prog 20 #[.agg #[.int .i64 a, .int .u64 b, .int .u64 fl, .slice A l.length c], .int .i64 (i : Int), .agg #[.int .u64 v0, .string v1]] w fun e w' => ∃ v3_ : Value,
      e = .returned (.tuple #[.agg #[.int .i64 a, .int .u64 b, .int .u64 (if rightR (letN i) v0 v1 = 0 then setFl fl (i : Int) else fl), v3_], .int .i64 (rightR (letN i) v0 v1)]) ∧
        RS w w' A c l v3_ (rightR (letN i) v0 v1) (if rightR (letN i) v0 v1 = 0 then (whichF (setFl fl (i : Int)) 0).map (setV a b fl l (i : Int) ⟨v0, v1⟩) else l) ∧ Below w.heap.size w w' := by
  have hRt := Aside0.mk (Right_k (k := 4) (by decide) a b fl l hok)
  rw [hR] at hRt
  have hRC : RC w (.slice A l.length c) l := ⟨A, c, rfl, hc, hr⟩
  have HR := Aside0.mk hr
  have HG := Aside0.mk hg
  have HOK := Aside0.mk hok
  have HRR := Aside0.mk hR
  clear hr hg hok hR
  have hu61 := Tryd.underlying61
  have hu25 := Tryd.underlying25
  have hu42 := Tryd.underlying42
  have hinf : (Tryd.prog.info? 25).map (·.size) = some 4 := by kernel_rfl
  have hmx : Tryd.prog.follows .mixedOrders = true := by kernel_rfl
  have hwide : ∀ f, Fence.wide.fn f := fun _ => trivial
  have hdep : Fence.wide.depth = none := rfl
  obtain ⟨w4, hw4⟩ : ∃ w4, (((w.alloc (.cells #[.int .i64 a, .int .u64 b, .int .u64 fl, .slice A l.length c] 25)).alloc (.cells #[.int .i64 (i : Int)] 3)).alloc (.cells #[.int .u64 v0, .string v1] 42)).alloc (.cells #[.int .i64 0, .int .u64 0, .int .u64 0, .slice none 0 0] 25) = w4 := ⟨_, rfl⟩
  have hB4 : Below w.heap.size w w4 := by
    rw [← hw4]
    exact ((((Below.refl _ w).alloc (Nat.le_refl _) _).alloc (by simp) _).alloc (by simp; omega) _).alloc (by simp; omega) _
  have X0 : w4.heap[w.heap.size]? = some (.cells #[.int .i64 a, .int .u64 b, .int .u64 fl, .slice A l.length c] 25 (0, 0)) := by
    rw [← hw4]
    exact blk_alloc (blk_alloc (blk_alloc (blk_new w _) _) _) _
  have X1 : Boxed w4 (w.heap.size + 1) 3 (.int .i64 (i : Int)) := by
    rw [← hw4]
    exact ((boxed_at _ _ _ _ (by simp)).alloc _).alloc _
  have X2 : w4.heap[w.heap.size + 1 + 1]? = some (.cells #[.int .u64 v0, .string v1] 42 (0, 0)) := by
    rw [← hw4]
    have := blk_new ((w.alloc (.cells #[.int .i64 a, .int .u64 b, .int .u64 fl, .slice A l.length c] 25)).alloc (.cells #[.int .i64 (i : Int)] 3)) (.cells #[.int .u64 v0, .string v1] 42)
    refine blk_alloc ?_ _
    simpa using this
  have X3 : w4.heap[w.heap.size + 1 + 1 + 1]? = some (.cells #[.int .i64 0, .int .u64 0, .int .u64 0, .slice none 0 0] 25 (0, 0)) := by
    rw [← hw4]
    have := blk_new (((w.alloc (.cells #[.int .i64 a, .int .u64 b, .int .u64 fl, .slice A l.length c] 25)).alloc (.cells #[.int .i64 (i : Int)] 3)).alloc (.cells #[.int .u64 v0, .string v1] 42)) (.cells #[.int .i64 0, .int .u64 0, .int .u64 0, .slice none 0 0] 25)
    simpa using this
  have hs4 : w4.heap.size = w.heap.size + 4 := by rw [← hw4]; simp
  have d0 := cell_regrown ((blk_cell X0 0).trans rfl)
  have d1 := cell_regrown ((blk_cell X0 1).trans rfl)
  have d2 := cell_regrown ((blk_cell X0 2).trans rfl)
  have d3 := cell_regrown ((blk_cell X0 3).trans rfl)
  have d10 := cell_regrown X1.cell
  have cL : ∀ d os, CallsIn Fence.wide 3 Tryd.prog 22 #[] (grow (redrawn w4 d) os) fun e w'' => e = .returned (.string lettersB) ∧ ∃ p : Regrown, w'' = grow (redrawn w4 p.d) p.os :=
    fun d os => CallsIn.regrown_of (callsIn_wide.2 ((props_Letters.calls lettersB _ rfl).mono fun _ _ ⟨h, hd⟩ => ⟨h, hd.below⟩))
  have cR : ∀ d os, CallsIn Fence.wide 3 Tryd.prog 14 #[.agg #[.int .i64 a, .int .u64 b, .int .u64 fl, .slice A l.length c]] (grow (redrawn w4 d) os) fun e w'' => e = .returned (.int .i64 0) ∧ ∃ p : Regrown, w'' = grow (redrawn w4 p.d) p.os :=
    fun d os => CallsIn.regrown_of (callsIn_wide.2 (props_Right.calls 4 a b fl A c l _ _ (HG.out.below (hB4.trans ((below_regrown w4 d os).mono (by omega)))) (Kd.C_below HR.out (hB4.trans ((below_regrown w4 d os).mono (by omega)))) hc hRt.out))
  have g1 : decide ((i : Int) < 0) = false := decide_eq_false (by omega)
  have g2 : decide (14 ≤ (i : Int)) = false := decide_eq_false (by omega)
  have g2' : decide ((lettersB.size : Int) ≤ (i : Int)) = false := decide_eq_false (by show ¬ (14 : Int) ≤ (i : Int); omega)
  have g3 : lettersB.size = 14 := rfl
  generalize hq : rightR (letN i) v0 v1 = q
  by_cases e : q = 0
  · subst e
    rw [if_pos rfl, if_pos rfl]
    refine (callsIn_wide (n := 4)).1 ?_
    refine callsIn_of_wp_marks Tryd.func20 rfl trivial ?_ rfl
    simp only [Tryd.ntmps20, List.size_toArray, List.length_cons, List.length_nil, Nat.reduceAdd, Nat.reduceSub, Array.replicate_succ, Array.replicate_zero, List.push_toArray, List.append_toArray, List.nil_append, List.cons_append]
    gi_wp2
    refine region_quiet_round hmx (by kernel_rfl) rfl ?_
    repeat (quiet_step_in (first | (gi_at_call 22; exact cL _ _) | (gi_at_call 14; exact cR _ _)))
    refine wpQuietIn_nil ?_
    intro _ hw'
    obtain ⟨⟨dq, osq⟩, hw''⟩ := hw'
    subst hw''
    have hBq := below_regrown w4 dq osq
    have x0 := blk_below X0 hBq
    have x1 := boxed_below X1 hBq
    have x2 := blk_below X2 hBq
    have x3 := blk_below X3 hBq
    have hB5 := hB4.trans (hBq.mono (by omega))
    have hz5 := hBq.size
    clear cL cR d0 d1 d2 d3 d10 g1 g2 g2' g3
    generalize grow (redrawn w4 dq) osq = w5 at hBq x0 x1 x2 x3 hB5 hz5 ⊢
    have c0 := cell_regrown x1.cell
    have c1 := cell_regrown ((blk_cell x2 0).trans rfl)
    have c2 := cell_regrown ((blk_cell x2 1).trans rfl)
    have hbt : ∀ h, ((lettersB[i]'h).toNat : Int) = letN i := fun h => by unfold letN; rw [bt_get lettersB i h]; rfl
    have p0 : (0 : Int) ≤ (i : Int) := by omega
    have q0 : (i : Int) < 14 := by omega
    have q2 : i < lettersB.size := hi
    have cL : ∀ d os, CallsIn Fence.wide 3 Tryd.prog 22 #[] (grow (redrawn w5 d) os) fun e w'' => e = .returned (.string lettersB) ∧ ∃ p : Regrown, w'' = grow (redrawn w5 p.d) p.os :=
      fun d os => CallsIn.regrown_of (callsIn_wide.2 ((props_Letters.calls lettersB _ rfl).mono fun _ _ ⟨h, hd⟩ => ⟨h, hd.below⟩))
    have cR : ∀ d os, CallsIn Fence.wide 3 Tryd.prog 41 #[.int .u8 (letN i), .agg #[.int .u64 v0, .string v1]] (grow (redrawn w5 d) os) fun e w'' => e = .returned (.int .i64 0) ∧ ∃ p : Regrown, w'' = grow (redrawn w5 p.d) p.os :=
      fun d os => CallsIn.regrown_of (callsIn_wide.2 (hq ▸ right_calls (letN i) (letN_isL i hi) v0 hokv.1 hokv.2.1 v1 (by have h2 : v1.size ≤ 4503599627370496 := hokv.2.2; omega) _ (HG.out.below (hB5.trans ((below_regrown w5 d os).mono hB5.size)))))
    gi_wp2
    refine region_quiet_round hmx (by kernel_rfl) rfl ?_
    repeat (quiet_step_in (first | (gi_at_call 22; exact cL _ _) | (gi_at_call 41; exact cR _ _)))
    refine wpQuietIn_nil ?_
    intro _ hw'
    obtain ⟨⟨dr, osr⟩, hw''⟩ := hw'
    subst hw''
    have hBr := below_regrown w5 dr osr
    have y0 := blk_below x0 hBr
    have y1 := boxed_below x1 hBr
    have y2 := blk_below x2 hBr
    have y3 := blk_below x3 hBr
    have hB6 := hB5.trans (hBr.mono hB5.size)
    have hz6 := hBr.size
    clear cL cR c0 c1 c2
    generalize grow (redrawn w5 dr) osr = w6 at hBr y0 y1 y2 y3 hB6 hz6 ⊢
    have k0 := (blk_cell y0 0).trans rfl
    have k1 := (blk_cell y0 1).trans rfl
    have k2 := (blk_cell y0 2).trans rfl
    have k4 := y1.cell
    gi_wp2
    obtain ⟨m, hm⟩ : ∃ m : Nat, m = 15 - i := ⟨_, rfl⟩
    have hs1 : wrap64 (15 - (i : Int)) = (m : Int) := by rw [wrap64_of (by omega) (by omega)]; omega
    have hs2 : IntKind.i64.wrap (15 - (i : Int)) = (m : Int) := (show IntKind.i64.wrap (15 - (i : Int)) = wrap64 (15 - (i : Int)) by rw [IntKind.wrap_i64]; unfold wrap64; rfl).trans hs1
    have hs3 : ¬ ((m : Int) < 0) := by omega
    clear k0 k1 k2 k4
    refine wpIn_mono (Q := fun e a' w' => e = .normal ∧ ∃ (p : Nat) (u36 u37 u38 u39 u40 u41 u42 u43 u44 u45 u46 u47 : Value), a' = { tmps := #[.agg #[.int .i64 a, .int .u64 b, .int .u64 fl, .slice A l.length c], .int .i64 (i : Int), .agg #[.int .u64 v0, .string v1], .pointer (some ⟨w.heap.size, 0, none⟩), .pointer (some ⟨w.heap.size + 1, 0, none⟩), .pointer (some ⟨w.heap.size + 1 + 1, 0, none⟩), .pointer (some ⟨w.heap.size + 1 + 1 + 1, 0, none⟩), .int .i64 0, .int .i64 0, .pointer (some ⟨p, 0, none⟩), undef, undef, undef, .int .i64 (i : Int), .bool false, .bool false, .int .i64 (i : Int), .string lettersB, .int .i64 14, .bool false, .bool false, .bool false, .agg #[.int .i64 a, .int .u64 b, .int .u64 fl, .slice A l.length c], .int .i64 0, .bool false, .bool false, undef, .string lettersB, .int .i64 (i : Int), .int .u8 (letN i), .agg #[.int .u64 v0, .string v1], .int .i64 0, .int .i64 0, .bool false, undef, undef, u36, u37, u38, u39, u40, u41, u42, u43, u44, u45, u46, u47, undef, undef, undef, undef, undef, undef, undef, undef, undef, undef, undef, undef, undef, undef, undef, undef, undef, undef, undef, undef, undef, undef, undef, undef, undef, undef, undef, undef], defers := [] } ∧ w6.heap.size ≤ p ∧ w'.heap[p]? = some (.cells #[.int .i64 a, .int .u64 b, .int .u64 (setFl fl (i : Int)), .slice none 0 0] 61 (0, 0)) ∧ Below w6.heap.size w6 w') ?_ ?_
    · refine wpIn_wide.2 ?_
      have hSS : ∀ W', Below w6.heap.size w6 W' → Below w6.heap.size w6 W' ∧ W'.cell? ⟨w.heap.size, 0, none⟩ = some (.int .i64 a) ∧ W'.cell? ⟨w.heap.size, 1, none⟩ = some (.int .u64 b) ∧ W'.cell? ⟨w.heap.size, 2, none⟩ = some (.int .u64 fl) ∧ W'.cell? ⟨w.heap.size + 1, 0, none⟩ = some (.int .i64 (i : Int)) := by
        intro W' hb
        have x0 := blk_below y0 hb
        exact ⟨hb, (blk_cell x0 0).trans rfl, (blk_cell x0 1).trans rfl, (blk_cell x0 2).trans rfl, (boxed_below y1 hb).cell⟩
      have hAl : ∀ W' o, Below w6.heap.size w6 W' → Below w6.heap.size w6 (W'.alloc o) := fun W' o hb => hb.alloc hb.size o
      have hdr : Below w6.heap.size w6 w6.drew := below_drew (Below.refl _ _)
      go_region_held3 (fun w' => Below w6.heap.size w6 w' ∧ w'.cell? ⟨w.heap.size, 0, none⟩ = some (.int .i64 a) ∧ w'.cell? ⟨w.heap.size, 1, none⟩ = some (.int .u64 b) ∧ w'.cell? ⟨w.heap.size, 2, none⟩ = some (.int .u64 fl) ∧ w'.cell? ⟨w.heap.size + 1, 0, none⟩ = some (.int .i64 (i : Int))) (first | exact hSS _ (by assumption) | exact hSS _ hdr | exact hSS _ (hAl _ _ (by assumption)) | exact hSS _ (below_drew (hAl _ _ (Below.refl _ _))) | exact hSS _ (hAl _ _ hdr)) (fail)
      exact ⟨rfl, w6.heap.size, _, _, _, _, _, _, _, _, _, _, _, _, rfl, Nat.le_refl _, blk_new w6 _, below_drew (hAl w6 _ (Below.refl _ _))⟩
    · rintro e a' w7 ⟨rfl, p, u36, u37, u38, u39, u40, u41, u42, u43, u44, u45, u46, u47, rfl, hp, hbp, hb7⟩
      dsimp only
      have x70 := blk_below y0 hb7
      have hB7 : Below w.heap.size w w7 := hB6.trans (hb7.mono hB6.size)
      obtain ⟨⟨c0, c1, c2, c3⟩, -⟩ := head4_cells hbp
      gi_wp2_with (first | (gi_at_call 25; refine (callsIn_wide.2 (each_calls _ _ _ _ _)).mono ?_; rintro e w' ⟨rfl, rfl⟩))
      obtain ⟨cs, hcs0⟩ : ∃ cs : Array Value, cs = #[.int .i64 a, .int .u64 b, .int .u64 (setFl fl (i : Int)), .slice none 0 0] := ⟨_, rfl⟩
      obtain ⟨hcs, hcs1⟩ : ∃ hcs : Array Value, hcs = #[.int .i64 a, .int .u64 b, .int .u64 fl, .slice A l.length c] := ⟨_, rfl⟩
      have hA : Below w7.heap.size w7 (w7.alloc (.cells #[.int .i64 a, .int .u64 b, .int .u64 (setFl fl (i : Int)), .slice none 0 0] 61)) := (Below.refl _ _).alloc (Nat.le_refl _) _
      have hpl := blk_lt hbp
      have hz7 := hb7.size
      have hF0 : SHeld w w7.heap.size p cs hcs a b (setFl fl (i : Int)) i v0 v1 (setV a b fl l (i : Int) ⟨v0, v1⟩) [] (w7.alloc (.cells #[.int .i64 a, .int .u64 b, .int .u64 (setFl fl (i : Int)), .slice none 0 0] 61)) := by
        rw [hcs0, hcs1]
        exact ⟨blk_new w7 _, blk_below x70 hA, boxed_below (boxed_below y1 hb7) hA, blk_below (blk_below y2 hb7) hA, blk_below (blk_below y3 hb7) hA, ⟨_, blk_below hbp hA, Kd.R_nil _ _ _ _ _⟩, hB7.trans (hA.mono hB7.size)⟩
      have hsz : (w7.alloc (.cells #[.int .i64 a, .int .u64 b, .int .u64 (setFl fl (i : Int)), .slice none 0 0] 61)).heap.size = w7.heap.size + 1 := by simp
      have hB7s := hB7.size
      have hown : OwnFrom (w7.alloc (.cells #[.int .i64 a, .int .u64 b, .int .u64 (setFl fl (i : Int)), .slice none 0 0] 61)).heap.size (SHeld w w7.heap.size p cs hcs a b (setFl fl (i : Int)) i v0 v1 (setV a b fl l (i : Int) ⟨v0, v1⟩)) := SHeld.own (by rw [hsz]; omega)
      have hfl2 : 0 ≤ setFl fl (i : Int) ∧ setFl fl (i : Int) < 18446744073709551616 := setFl_range HOK.out.2.1 hi
      clear c0 c1 c2 c3
      refine wpIn_rangeFunc_shared rfl (by decide) (gf := 44) (lb := #[.pointer (some ⟨w7.heap.size, 0, none⟩)]) rfl trivial (enters_of Tryd.func44 (by kernel_rfl) rfl)
        eencs (fun _ => rfl) (EJ (SHeld w w7.heap.size p cs hcs a b (setFl fl (i : Int)) i v0 v1 (setV a b fl l (i : Int) ⟨v0, v1⟩)) (setFl fl (i : Int)) (whichF (setFl fl (i : Int)) 0))
        (EJ1 (SHeld w w7.heap.size p cs hcs a b (setFl fl (i : Int)) i v0 v1 (setV a b fl l (i : Int) ⟨v0, v1⟩)) (setFl fl (i : Int)) (whichF (setFl fl (i : Int)) 0) fun x y => #[.agg #[.int .i64 a, .int .u64 b, .int .u64 fl, .slice A l.length c], .int .i64 (i : Int), .agg #[.int .u64 v0, .string v1], .pointer (some ⟨w.heap.size, 0, none⟩), .pointer (some ⟨w.heap.size + 1, 0, none⟩), .pointer (some ⟨w.heap.size + 1 + 1, 0, none⟩), .pointer (some ⟨w.heap.size + 1 + 1 + 1, 0, none⟩), .int .i64 0, .int .i64 0, .pointer (some ⟨p, 0, none⟩), x, undef, undef, .int .i64 (i : Int), .bool false, .bool false, .int .i64 (i : Int), .string lettersB, .int .i64 14, .bool false, .bool false, .bool false, .agg #[.int .i64 a, .int .u64 b, .int .u64 fl, .slice A l.length c], .int .i64 0, .bool false, .bool false, undef, .string lettersB, .int .i64 (i : Int), .int .u8 (letN i), .agg #[.int .u64 v0, .string v1], .int .i64 0, .int .i64 0, .bool false, undef, undef, u36, u37, u38, u39, u40, u41, u42, u43, u44, u45, u46, u47, .agg #[.int .i64 a, .int .u64 b, .int .u64 (setFl fl (i : Int)), .slice none 0 0], .func (.func 44) #[] #[.pointer (some ⟨w7.heap.size, 0, none⟩)], x, y, undef, undef, undef, undef, undef, undef, undef, undef, undef, undef, undef, undef, undef, undef, undef, undef, undef, undef, undef, undef, undef, undef, undef, undef])
        (EJ2 (SHeld w w7.heap.size p cs hcs a b (setFl fl (i : Int)) i v0 v1 (setV a b fl l (i : Int) ⟨v0, v1⟩)) (setFl fl (i : Int)) (whichF (setFl fl (i : Int)) 0)) (fun _ _ _ => False) (fun _ W => (SHeld w w7.heap.size p cs hcs a b (setFl fl (i : Int)) i v0 v1 (setV a b fl l (i : Int) ⟨v0, v1⟩)) (whichF (setFl fl (i : Int)) 0) W)
        (EJ1.own hown) (EJ2.own hown) (fun _ _ _ _ _ hs _ _ => hs) (fun _ => hown _) ?seq ?assign ?body ?done ?stop
      case stop =>
        rintro D c' s W _ h _
        exact h.elim
      case seq =>
        rintro lp B X o1 o2 W1 hW1 _ hB h1 hY
        have hF1 : (SHeld w w7.heap.size p cs hcs a b (setFl fl (i : Int)) i v0 v1 (setV a b fl l (i : Int) ⟨v0, v1⟩)) [] W1 := by
          rw [← hW1]
          exact hF0.below (((Below.refl _ _).alloc (Nat.le_refl _) _).alloc (by simp) _)
        exact each_iter 2 a b (setFl fl (i : Int)) hfl2.1 hfl2.2 none 0 [] (Nat.le_refl _) w7.heap.size (SHeld w w7.heap.size p cs hcs a b (setFl fl (i : Int)) i v0 v1 (setV a b fl l (i : Int) ⟨v0, v1⟩)) (fun _ _ _ hb h => h.below hb) (fun _ _ h => hcs0 ▸ h.1) (fun _ _ h => Kd.C_nil _ _) (whichF (setFl fl (i : Int)) 0) lp _ B X W1 hB h1 hY hF1 rfl
      case assign =>
        rintro lp s W K hlt hJ hK
        unfold eencs
        gi_wp2
        apply hK
        · exact (KeepsOthers.refl _).from _
        · exact ⟨by simp, hJ⟩
      case done =>
        rintro D W hD ⟨e1, e2, e3, e4, e5, ⟨u, e6, e7⟩, e8⟩ hK
        rw [hsz] at hD
        obtain ⟨A', c', rfl, hc', -⟩ := Kd.R_reads e7
        simp only [List.length_map] at e6 e7
        obtain ⟨⟨k60, k61, k62, k63⟩, -⟩ := head4_cells e6
        obtain ⟨⟨k50, k51, k52, k53⟩, k54, k55, k56, k57⟩ := head4_cells e5
        have hst := head4_store e5 (.int .i64 a) (.int .u64 b) (.int .u64 (setFl fl (i : Int))) (.slice A' (whichF (setFl fl (i : Int)) 0).length c')
        have hRs := R_far4 e7 (B := w.heap.size + 1 + 1 + 1) (by omega) (.int .i64 a) (.int .u64 b) (.int .u64 (setFl fl (i : Int))) (.slice A' (whichF (setFl fl (i : Int)) 0).length c')
        have hBs := head4_below e8 (B := w.heap.size + 1 + 1 + 1) (by omega) (.int .i64 a) (.int .u64 b) (.int .u64 (setFl fl (i : Int))) (.slice A' (whichF (setFl fl (i : Int)) 0).length c')
        have hKs := (KeepsOthers.setCell _ ⟨w.heap.size + 1 + 1 + 1, 3, none⟩ (.slice A' (whichF (setFl fl (i : Int)) 0).length c')).same D _ ((KeepsOthers.setCell _ ⟨w.heap.size + 1 + 1 + 1, 2, none⟩ (.int .u64 (setFl fl (i : Int)))).same D _ ((KeepsOthers.setCell _ ⟨w.heap.size + 1 + 1 + 1, 1, none⟩ (.int .u64 b)).same D _ ((KeepsOthers.setCell _ ⟨w.heap.size + 1 + 1 + 1, 0, none⟩ (.int .i64 a)).same D _ hK rfl) rfl) rfl) rfl
        gi_wp2
        generalize ((((W.setCell ⟨w.heap.size + 1 + 1 + 1, 0, none⟩ (.int .i64 a)).setCell ⟨w.heap.size + 1 + 1 + 1, 1, none⟩ (.int .u64 b)).setCell ⟨w.heap.size + 1 + 1 + 1, 2, none⟩ (.int .u64 (setFl fl (i : Int)))).setCell ⟨w.heap.size + 1 + 1 + 1, 3, none⟩ (.slice A' (whichF (setFl fl (i : Int)) 0).length c')) = Ws at hst hRs hBs hKs ⊢
        refine ⟨by simp, .inl ⟨_, _, rfl, run_takeDeferred hKs, ?_⟩⟩
        have hd := blk_other hst (grownBy_putObj' Ws D (.deferred none)) (fun r e => by cases e; exact ⟨_, hKs, rfl⟩)
        have hR2 := R_other hRs (grownBy_putObj' Ws D (.deferred none)) (fun r e => by cases e; exact ⟨_, hKs, rfl⟩)
        have hBd := hBs.trans (belowK_b (w := w) (Nat.le_refl _) Ws D _ (.deferred none) (by omega) hKs rfl rfl)
        exact ⟨_, results_ct rfl _ _ _ _ _ _ _ rfl hd hu25 rfl hinf, _, rfl, .inl ⟨rfl, Kd.R_lower hR2 (by omega)⟩, hBd⟩
      case body =>
        rintro lp s a' W hlt ⟨ha', hJ⟩
        obtain ⟨hHeld, hx, hh, ht, hle⟩ := hJ
        obtain ⟨h1, h2, h3, h4, h5, ⟨u, h6, h7⟩, h8⟩ := hHeld
        dsimp only at ha' hx hle ht
        subst ha'
        have hT := Aside0.mk ht
        clear ht
        have hlen : s.1.length ≤ 14 := by
          have h0 := whichF_len (setFl fl (i : Int))
          have h1' := congrArg List.length hT.out
          rw [List.length_append] at h1'
          omega
        subst hcs1
        obtain ⟨⟨k20, k21, k22, k23⟩, -⟩ := head4_cells h2
        obtain ⟨i0, hi0, hz0, hz1, hz2⟩ := info_parts info42
        have hgt : props_Get.f a b fl l (s.2 : Int) = some (getR a b fl l (s.2 : Int)) := by unfold props_Get.f; rw [if_pos HOK.out]
        have hsv : setV a b fl l (i : Int) ⟨v0, v1⟩ s.2 = (if (s.2 : Int) = (i : Int) ∨ ¬ (getR a b fl l (s.2 : Int)).2.2 = true then ⟨v0, v1⟩ else ⟨(getR a b fl l (s.2 : Int)).1, (getR a b fl l (s.2 : Int)).2.1⟩) := rfl
        generalize getR a b fl l (s.2 : Int) = G at hgt hsv
        obtain ⟨g1, g2, g3⟩ := G
        have hGet := Aside0.mk hgt
        clear hgt
        dsimp only at hsv
        by_cases e1 : (s.2 : Int) = (i : Int)
        · have d1 : ((s.2 : Int) == (i : Int)) = true := beq_iff_eq.2 e1
          rw [if_pos (.inl e1)] at hsv
          clear e1
          gi_wp2_with (first
                      | (gi_at_call 18; refine (CallsIn.inRound lp (callsIn_wide.2 (props_Get.calls a b fl A c l (s.2 : Int) g1 g2 g3 _ (HG.out.below h8) (Kd.C_below HR.out h8) hc hGet.out))).mono ?_; rintro e w2 ⟨rfl, hb2⟩; have n1 := blk_below h1 hb2; have n2 := blk_below h2 hb2; have n3 := boxed_below h3 hb2; have n4 := blk_below h4 hb2; have n5 := blk_below h5 hb2; have n6 := blk_below h6 hb2; have n7 := Kd.R_below h7 hb2; have n8 := h8.trans (hb2.mono h8.size); have n8s := n8.size; have n1l := blk_lt n1; obtain ⟨inner, hrow, hmk⟩ := vals_row n7; have hc3 : ∀ o, (w2.alloc o).cell? ⟨p, 3, none⟩ = some u := fun o => (blk_cell (blk_alloc n6 o) 3).trans rfl; have hci : ∀ o, (w2.alloc o).cell? ⟨w.heap.size + 1, 0, none⟩ = some (.int .i64 (i : Int)) := fun o => (n3.alloc o).cell; have hcv0 : ∀ o, (w2.alloc o).cell? ⟨w.heap.size + 1 + 1, 0, none⟩ = some (.int .u64 v0) := fun o => (blk_cell (blk_alloc n4 o) 0).trans rfl; have hcv1 : ∀ o, (w2.alloc o).cell? ⟨w.heap.size + 1 + 1, 1, none⟩ = some (.string v1) := fun o => (blk_cell (blk_alloc n4 o) 1).trans rfl)
                      | (gi_at_builtin; refine wpListIn_append_own _ rfl _ _ 23 rfl (w7.heap.size + 1) 42 i0 _ 2 24 Tryd.underlying23 hi0 hz0 hz1 hz2 rfl (by decide) u _ inner rfl ((hrow.alloc _).alloc _) ⟨w2.heap.size + 1, 0, none⟩ 1 1 [.int .u64 v0, .string v1] rfl rfl (set_two_new w2 _ _ _ _) (by simp [Value.oneCell']) (by show _ ≤ 9223372036854775807; rw [List.length_map]; omega) (by rw [List.length_map]; omega) (by simp; omega) ?_; intro v' w3 hown' hgrow _; obtain ⟨g', cap', rfl⟩ := ownsRow_succ hown'; obtain ⟨hv1, hv2, hr2, hk2, hb3⟩ := blk_appended (n₀ := w.heap.size) (blk_alloc n6 _) (hrow.alloc _) (by simp; omega) (by omega) (by omega) hown' hgrow; have hc1 : w3.cell? ⟨p, 3, none⟩ = some u := (blk_cell hv1 3).trans rfl; have hf1 : w3.frozen? ⟨p, 3, none⟩ = false := blk_frozen hv1 3))
          simp only [List.length_map] at hv2 hk2 hb3
          rw [List.length_map] at hr2
          have kp : ∀ {B2 : Nat} {t : TypeId} {cs : Array Value}, w2.heap[B2]? = some (.cells cs t (0, 0)) → B2 < w7.heap.size + 1 → B2 ≠ p → (w3.setCell ⟨p, 3, none⟩ (.slice (some ⟨g', 0, none⟩) (s.1.length + 1) cap')).heap[B2]? = some (.cells cs t (0, 0)) :=
            fun h hlt hne => blk_kept (B := p) (i := 3) (blk_alloc h _) (hrow.alloc _) hlt hne hgrow
          refine ⟨((keepsFrom_below hb2).trans ((KeepsOthers.alloc _ _).from _)).trans (hk2.from _), ⟨kp n1 (by omega) (by omega), kp n2 (by omega) (by omega), kp n3 (by omega) (by omega), kp n4 (by omega) (by omega), kp n5 (by omega) (by omega), ⟨_, hv2, ?_⟩, (n8.alloc n8.size _).trans hb3⟩, hx, hh, hT.out, hle⟩
          rw [List.map_append, List.map_singleton, hsv]
          exact hmk _ _ ⟨v0, v1⟩ (by rw [List.length_map]; exact hr2)
        · have d1 : ((s.2 : Int) == (i : Int)) = false := beq_eq_false_iff_ne.2 e1
          cases g3 with
          | false =>
            rw [if_pos (.inr (by decide))] at hsv
            clear e1
            gi_wp2_with (first
                        | (gi_at_call 18; refine (CallsIn.inRound lp (callsIn_wide.2 (props_Get.calls a b fl A c l (s.2 : Int) g1 g2 false _ (HG.out.below h8) (Kd.C_below HR.out h8) hc hGet.out))).mono ?_; rintro e w2 ⟨rfl, hb2⟩; have n1 := blk_below h1 hb2; have n2 := blk_below h2 hb2; have n3 := boxed_below h3 hb2; have n4 := blk_below h4 hb2; have n5 := blk_below h5 hb2; have n6 := blk_below h6 hb2; have n7 := Kd.R_below h7 hb2; have n8 := h8.trans (hb2.mono h8.size); have n8s := n8.size; have n1l := blk_lt n1; obtain ⟨inner, hrow, hmk⟩ := vals_row n7; have hc3 : ∀ o, (w2.alloc o).cell? ⟨p, 3, none⟩ = some u := fun o => (blk_cell (blk_alloc n6 o) 3).trans rfl; have hci : ∀ o, (w2.alloc o).cell? ⟨w.heap.size + 1, 0, none⟩ = some (.int .i64 (i : Int)) := fun o => (n3.alloc o).cell; have hcv0 : ∀ o, (w2.alloc o).cell? ⟨w.heap.size + 1 + 1, 0, none⟩ = some (.int .u64 v0) := fun o => (blk_cell (blk_alloc n4 o) 0).trans rfl; have hcv1 : ∀ o, (w2.alloc o).cell? ⟨w.heap.size + 1 + 1, 1, none⟩ = some (.string v1) := fun o => (blk_cell (blk_alloc n4 o) 1).trans rfl)
                        | (gi_at_builtin; refine wpListIn_append_own _ rfl _ _ 23 rfl (w7.heap.size + 1) 42 i0 _ 2 24 Tryd.underlying23 hi0 hz0 hz1 hz2 rfl (by decide) u _ inner rfl ((hrow.alloc _).alloc _) ⟨w2.heap.size + 1, 0, none⟩ 1 1 [.int .u64 v0, .string v1] rfl rfl (set_two_new w2 _ _ _ _) (by simp [Value.oneCell']) (by show _ ≤ 9223372036854775807; rw [List.length_map]; omega) (by rw [List.length_map]; omega) (by simp; omega) ?_; intro v' w3 hown' hgrow _; obtain ⟨g', cap', rfl⟩ := ownsRow_succ hown'; obtain ⟨hv1, hv2, hr2, hk2, hb3⟩ := blk_appended (n₀ := w.heap.size) (blk_alloc n6 _) (hrow.alloc _) (by simp; omega) (by omega) (by omega) hown' hgrow; have hc1 : w3.cell? ⟨p, 3, none⟩ = some u := (blk_cell hv1 3).trans rfl; have hf1 : w3.frozen? ⟨p, 3, none⟩ = false := blk_frozen hv1 3))
            simp only [List.length_map] at hv2 hk2 hb3
            rw [List.length_map] at hr2
            have kp : ∀ {B2 : Nat} {t : TypeId} {cs : Array Value}, w2.heap[B2]? = some (.cells cs t (0, 0)) → B2 < w7.heap.size + 1 → B2 ≠ p → (w3.setCell ⟨p, 3, none⟩ (.slice (some ⟨g', 0, none⟩) (s.1.length + 1) cap')).heap[B2]? = some (.cells cs t (0, 0)) :=
              fun h hlt hne => blk_kept (B := p) (i := 3) (blk_alloc h _) (hrow.alloc _) hlt hne hgrow
            refine ⟨((keepsFrom_below hb2).trans ((KeepsOthers.alloc _ _).from _)).trans (hk2.from _), ⟨kp n1 (by omega) (by omega), kp n2 (by omega) (by omega), kp n3 (by omega) (by omega), kp n4 (by omega) (by omega), kp n5 (by omega) (by omega), ⟨_, hv2, ?_⟩, (n8.alloc n8.size _).trans hb3⟩, hx, hh, hT.out, hle⟩
            rw [List.map_append, List.map_singleton, hsv]
            exact hmk _ _ ⟨v0, v1⟩ (by rw [List.length_map]; exact hr2)
          | true =>
            rw [if_neg (fun h => h.elim e1 (fun h => h rfl))] at hsv
            clear e1
            gi_wp2_with (first
                        | (gi_at_call 18; refine (CallsIn.inRound lp (callsIn_wide.2 (props_Get.calls a b fl A c l (s.2 : Int) g1 g2 true _ (HG.out.below h8) (Kd.C_below HR.out h8) hc hGet.out))).mono ?_; rintro e w2 ⟨rfl, hb2⟩; have n1 := blk_below h1 hb2; have n2 := blk_below h2 hb2; have n3 := boxed_below h3 hb2; have n4 := blk_below h4 hb2; have n5 := blk_below h5 hb2; have n6 := blk_below h6 hb2; have n7 := Kd.R_below h7 hb2; have n8 := h8.trans (hb2.mono h8.size); have n8s := n8.size; have n1l := blk_lt n1; obtain ⟨inner, hrow, hmk⟩ := vals_row n7; have hc3 : ∀ o, (w2.alloc o).cell? ⟨p, 3, none⟩ = some u := fun o => (blk_cell (blk_alloc n6 o) 3).trans rfl; have hci : ∀ o, (w2.alloc o).cell? ⟨w.heap.size + 1, 0, none⟩ = some (.int .i64 (i : Int)) := fun o => (n3.alloc o).cell; have hcv0 : ∀ o, (w2.alloc o).cell? ⟨w.heap.size + 1 + 1, 0, none⟩ = some (.int .u64 v0) := fun o => (blk_cell (blk_alloc n4 o) 0).trans rfl; have hcv1 : ∀ o, (w2.alloc o).cell? ⟨w.heap.size + 1 + 1, 1, none⟩ = some (.string v1) := fun o => (blk_cell (blk_alloc n4 o) 1).trans rfl)
                        | (gi_at_builtin; refine wpListIn_append_own _ rfl _ _ 23 rfl (w7.heap.size + 1) 42 i0 _ 2 24 Tryd.underlying23 hi0 hz0 hz1 hz2 rfl (by decide) u _ inner rfl ((hrow.alloc _).alloc _) ⟨w2.heap.size + 1, 0, none⟩ 1 1 [.int .u64 g1, .string g2] rfl rfl (set_two_new w2 _ _ _ _) (by simp [Value.oneCell']) (by show _ ≤ 9223372036854775807; rw [List.length_map]; omega) (by rw [List.length_map]; omega) (by simp; omega) ?_; intro v' w3 hown' hgrow _; obtain ⟨g', cap', rfl⟩ := ownsRow_succ hown'; obtain ⟨hv1, hv2, hr2, hk2, hb3⟩ := blk_appended (n₀ := w.heap.size) (blk_alloc n6 _) (hrow.alloc _) (by simp; omega) (by omega) (by omega) hown' hgrow; have hc1 : w3.cell? ⟨p, 3, none⟩ = some u := (blk_cell hv1 3).trans rfl; have hf1 : w3.frozen? ⟨p, 3, none⟩ = false := blk_frozen hv1 3))
            simp only [List.length_map] at hv2 hk2 hb3
            rw [List.length_map] at hr2
            have kp : ∀ {B2 : Nat} {t : TypeId} {cs : Array Value}, w2.heap[B2]? = some (.cells cs t (0, 0)) → B2 < w7.heap.size + 1 → B2 ≠ p → (w3.setCell ⟨p, 3, none⟩ (.slice (some ⟨g', 0, none⟩) (s.1.length + 1) cap')).heap[B2]? = some (.cells cs t (0, 0)) :=
              fun h hlt hne => blk_kept (B := p) (i := 3) (blk_alloc h _) (hrow.alloc _) hlt hne hgrow
            refine ⟨((keepsFrom_below hb2).trans ((KeepsOthers.alloc _ _).from _)).trans (hk2.from _), ⟨kp n1 (by omega) (by omega), kp n2 (by omega) (by omega), kp n3 (by omega) (by omega), kp n4 (by omega) (by omega), kp n5 (by omega) (by omega), ⟨_, hv2, ?_⟩, (n8.alloc n8.size _).trans hb3⟩, hx, hh, hT.out, hle⟩
            rw [List.map_append, List.map_singleton, hsv]
            exact hmk _ _ ⟨g1, g2⟩ (by rw [List.length_map]; exact hr2)
  · have e1 : (q != 0) = true := bne_iff_ne.2 e
    rw [if_neg e, if_neg e]
    refine (callsIn_wide (n := 4)).1 ?_
    refine callsIn_of_wp_marks Tryd.func20 rfl trivial ?_ rfl
    simp only [Tryd.ntmps20, List.size_toArray, List.length_cons, List.length_nil, Nat.reduceAdd, Nat.reduceSub, Array.replicate_succ, Array.replicate_zero, List.push_toArray, List.append_toArray, List.nil_append, List.cons_append]
    gi_wp2
    refine region_quiet_round hmx (by kernel_rfl) rfl ?_
    repeat (quiet_step_in (first | (gi_at_call 22; exact cL _ _) | (gi_at_call 14; exact cR _ _)))
    refine wpQuietIn_nil ?_
    intro _ hw'
    obtain ⟨⟨dq, osq⟩, hw''⟩ := hw'
    subst hw''
    have hBq := below_regrown w4 dq osq
    have x0 := blk_below X0 hBq
    have x1 := boxed_below X1 hBq
    have x2 := blk_below X2 hBq
    have x3 := blk_below X3 hBq
    have hB5 := hB4.trans (hBq.mono (by omega))
    have hz5 := hBq.size
    clear cL cR d0 d1 d2 d3 d10 g1 g2 g2' g3
    generalize grow (redrawn w4 dq) osq = w5 at hBq x0 x1 x2 x3 hB5 hz5 ⊢
    have c0 := cell_regrown x1.cell
    have c1 := cell_regrown ((blk_cell x2 0).trans rfl)
    have c2 := cell_regrown ((blk_cell x2 1).trans rfl)
    have hbt : ∀ h, ((lettersB[i]'h).toNat : Int) = letN i := fun h => by unfold letN; rw [bt_get lettersB i h]; rfl
    have p0 : (0 : Int) ≤ (i : Int) := by omega
    have q0 : (i : Int) < 14 := by omega
    have q2 : i < lettersB.size := hi
    have cL : ∀ d os, CallsIn Fence.wide 3 Tryd.prog 22 #[] (grow (redrawn w5 d) os) fun e w'' => e = .returned (.string lettersB) ∧ ∃ p : Regrown, w'' = grow (redrawn w5 p.d) p.os :=
      fun d os => CallsIn.regrown_of (callsIn_wide.2 ((props_Letters.calls lettersB _ rfl).mono fun _ _ ⟨h, hd⟩ => ⟨h, hd.below⟩))
    have cR : ∀ d os, CallsIn Fence.wide 3 Tryd.prog 41 #[.int .u8 (letN i), .agg #[.int .u64 v0, .string v1]] (grow (redrawn w5 d) os) fun e w'' => e = .returned (.int .i64 q) ∧ ∃ p : Regrown, w'' = grow (redrawn w5 p.d) p.os :=
      fun d os => CallsIn.regrown_of (callsIn_wide.2 (hq ▸ right_calls (letN i) (letN_isL i hi) v0 hokv.1 hokv.2.1 v1 (by have h2 : v1.size ≤ 4503599627370496 := hokv.2.2; omega) _ (HG.out.below (hB5.trans ((below_regrown w5 d os).mono hB5.size)))))
    gi_wp2
    refine region_quiet_round hmx (by kernel_rfl) rfl ?_
    repeat (quiet_step_in (first | (gi_at_call 22; exact cL _ _) | (gi_at_call 41; exact cR _ _)))
    refine wpQuietIn_nil ?_
    intro _ hw'
    obtain ⟨⟨dr, osr⟩, hw''⟩ := hw'
    subst hw''
    have hBr := below_regrown w5 dr osr
    have y0 := blk_below x0 hBr
    have y1 := boxed_below x1 hBr
    have y2 := blk_below x2 hBr
    have y3 := blk_below x3 hBr
    have hB6 := hB5.trans (hBr.mono hB5.size)
    have hz6 := hBr.size
    clear cL cR c0 c1 c2
    generalize grow (redrawn w5 dr) osr = w6 at hBr y0 y1 y2 y3 hB6 hz6 ⊢
    obtain ⟨⟨k10, k11, k12, k13⟩, -⟩ := head4_cells y0
    obtain ⟨⟨k30, k31, k32, k33⟩, k34, k35, k36, k37⟩ := head4_cells y3
    gi_wp2
    exact ⟨_, results_ct rfl _ _ _ _ _ _ _ rfl (head4_store y3 _ _ _ _) hu25 rfl hinf, _, rfl, .inr ⟨e, rfl, rfl⟩, head4_below hB6 (by omega) _ _ _ _⟩
end Go.Proofs.YthpfcplhlhnfeaaDoor.F
namespace Go.Proofs.YthpfcplhlhnfeaaDoor.F
open Go.RowKit Go.Proofs.YthpfcplhlhnfeaaDoorW.PrintWords Go.Proofs.YthpfcplhlhnfeaaDoorW.PrintLast Go.Proofs.YthpfcplhlhnfeaaDoorW.PrintMore
set_option linter.unusedVariables false
set_option linter.unusedSimpArgs false
set_option maxRecDepth 4000
open Go.Sort
attribute [local go_sem] Oper.semAt_some
theorem results_set {P : Program} {fn : Func} {p u : Tmp} {ty : TypeId} (h : fn.results = #[.cell p ty, .tmp u]) (tmps : Array Value) (w : World) (g : Nat) (t : TypeId) (cs : Array Value) (fr : Nat × Nat) (d : TypeDesc)
    (hp : tmps.getD p undef = .pointer (some ⟨g, 0, none⟩)) (hg : w.heap[g]? = some (.cells cs t fr)) (hu : P.underlying ty = some d) (hd : (match d with | .struct _ | .array _ _ => true | _ => false) = true) (hi : (P.info? ty).map (·.size) = some cs.size) :
    (results fn tmps).run P w = .ok (.tuple #[.agg cs, tmps.getD u undef]) w := results_ct h tmps w g t cs fr d hp hg hu hd hi
/-- four cells, stored -/
theorem head_store {W : World} {B : Nat} {t : TypeId} {c0 c1 c2 c3 : Value} (h : W.heap[B]? = some (.cells #[c0, c1, c2, c3] t (0, 0))) (v0 v1 v2 v3 : Value) :
    ((((W.setCell ⟨B, 0, none⟩ v0).setCell ⟨B, 1, none⟩ v1).setCell ⟨B, 2, none⟩ v2).setCell ⟨B, 3, none⟩ v3).heap[B]? = some (.cells #[v0, v1, v2, v3] t (0, 0)) := by
  have a1 := blk_put h 0 v0 (cs' := #[v0, c1, c2, c3]) rfl
  have a2 := blk_put a1 1 v1 (cs' := #[v0, v1, c2, c3]) rfl
  have a3 := blk_put a2 2 v2 (cs' := #[v0, v1, v2, c3]) rfl
  exact blk_put a3 3 v3 rfl
theorem head_store_below {w W : World} {B : Nat} (h : Below w.heap.size w W) (hB : w.heap.size ≤ B) (v0 v1 v2 v3 : Value) : Below w.heap.size w ((((W.setCell ⟨B, 0, none⟩ v0).setCell ⟨B, 1, none⟩ v1).setCell ⟨B, 2, none⟩ v2).setCell ⟨B, 3, none⟩ v3) :=
  (((h.setCell (p := ⟨B, 0, none⟩) hB _).setCell (p := ⟨B, 1, none⟩) hB _).setCell (p := ⟨B, 2, none⟩) hB _).setCell (p := ⟨B, 3, none⟩) hB _
theorem head_store_RC {w W : World} {B : Nat} (v0 v1 v2 v3 : Value) {v : Value} {l : List S42} (h : RC w v l) (hW : Below w.heap.size w W) (hB : w.heap.size ≤ B) : RC ((((W.setCell ⟨B, 0, none⟩ v0).setCell ⟨B, 1, none⟩ v1).setCell ⟨B, 2, none⟩ v2).setCell ⟨B, 3, none⟩ v3) v l :=
  h.below (head_store_below hW hB v0 v1 v2 v3)
set_option maxHeartbeats 4000000 in
set_option maxRecDepth 100000 in
theorem props_Set.calls (a b fl : Int) (A : Option Addr) (c : Nat) (l : List S42) (i : Int) (v0 : Int) (v1 : ByteArray) (r1 r2 r3 : Int) (r4 : List S42) (r5 : Int) (w : World) (hg : Laid w) (hr : Kd.C k42 w A l.length l) (hc : l.length ≤ c) (h : props_Set.f a b fl l i v0 v1 = some (r1, r2, r3, r4, r5)) :
    Calls Tryd.prog 20 #[.agg #[.int .i64 a, .int .u64 b, .int .u64 fl, .slice A l.length c], .int .i64 i, .agg #[.int .u64 v0, .string v1]] w fun e w' => ∃ v3_ : Value, e = .returned (.tuple #[.agg #[.int .i64 r1, .int .u64 r2, .int .u64 r3, v3_], .int .i64 r5]) ∧ RS w w' A c l v3_ r5 r4 ∧ Below w.heap.size w w' := by
  have hok : okH b fl l ∧ okV ⟨v0, v1⟩ := by
    unfold props_Set.f at h
    split at h
    · assumption
    · cases h
  unfold props_Set.f at h
  rw [if_pos hok] at h
  replace h := Option.some.inj h
  obtain ⟨hok, hokv⟩ := hok
  by_cases e0 : (0 ≤ i ∧ i < 14) ∧ RightR a b fl l = 0
  · obtain ⟨⟨e0, e1⟩, e2⟩ := e0
    obtain ⟨n, rfl⟩ := Int.eq_ofNat_of_zero_le e0
    have hs := set_calls a b fl A c l n (by omega) v0 v1 w hg hr hc hok hokv e2
    unfold setR at h
    rw [if_neg (by omega)] at h
    dsimp only [Int.toNat_natCast] at h
    by_cases e3 : rightR (letN n) v0 v1 = 0
    · rw [if_pos e3] at h
      simp only [Prod.mk.injEq] at h
      obtain ⟨rfl, rfl, rfl, rfl, rfl⟩ := h
      rw [if_pos e3, if_pos e3, e3] at hs
      exact hs
    · rw [if_neg e3] at h
      simp only [Prod.mk.injEq] at h
      obtain ⟨rfl, rfl, rfl, rfl, rfl⟩ := h
      rw [if_neg e3, if_neg e3] at hs
      exact hs
  unfold setR at h
  have hRt := Aside0.mk (Right_k (k := 4) (by decide) a b fl l hok)
  have hRC : RC w (.slice A l.length c) l := ⟨A, c, rfl, hc, hr⟩
  have HR := Aside0.mk hr
  have HG := Aside0.mk hg
  have HOK := Aside0.mk hok
  have hrf := right_form (a := a) (b := b) (fl := fl) (l := l)
  clear hr hg hok
  have hu61 := Tryd.underlying61
  have hu25 := Tryd.underlying25
  have hu42 := Tryd.underlying42
  have hinf : (Tryd.prog.info? 25).map (·.size) = some 4 := by kernel_rfl
  have hmx : Tryd.prog.follows .mixedOrders = true := by kernel_rfl
  have hwide : ∀ f, Fence.wide.fn f := fun _ => trivial
  have hdep : Fence.wide.depth = none := rfl
  obtain ⟨w4, hw4⟩ : ∃ w4, (((w.alloc (.cells #[.int .i64 a, .int .u64 b, .int .u64 fl, .slice A l.length c] 25)).alloc (.cells #[.int .i64 i] 3)).alloc (.cells #[.int .u64 v0, .string v1] 42)).alloc (.cells #[.int .i64 0, .int .u64 0, .int .u64 0, .slice none 0 0] 25) = w4 := ⟨_, rfl⟩
  have hB4 : Below w.heap.size w w4 := by
    rw [← hw4]
    exact ((((Below.refl _ w).alloc (Nat.le_refl _) _).alloc (by simp) _).alloc (by simp; omega) _).alloc (by simp; omega) _
  have X0 : w4.heap[w.heap.size]? = some (.cells #[.int .i64 a, .int .u64 b, .int .u64 fl, .slice A l.length c] 25 (0, 0)) := by
    rw [← hw4]
    exact blk_alloc (blk_alloc (blk_alloc (blk_new w _) _) _) _
  have X1 : Boxed w4 (w.heap.size + 1) 3 (.int .i64 i) := by
    rw [← hw4]
    exact ((boxed_at _ _ _ _ (by simp)).alloc _).alloc _
  have X2 : w4.heap[w.heap.size + 1 + 1]? = some (.cells #[.int .u64 v0, .string v1] 42 (0, 0)) := by
    rw [← hw4]
    have := blk_new ((w.alloc (.cells #[.int .i64 a, .int .u64 b, .int .u64 fl, .slice A l.length c] 25)).alloc (.cells #[.int .i64 i] 3)) (.cells #[.int .u64 v0, .string v1] 42)
    refine blk_alloc ?_ _
    simpa using this
  have X3 : w4.heap[w.heap.size + 1 + 1 + 1]? = some (.cells #[.int .i64 0, .int .u64 0, .int .u64 0, .slice none 0 0] 25 (0, 0)) := by
    rw [← hw4]
    have := blk_new (((w.alloc (.cells #[.int .i64 a, .int .u64 b, .int .u64 fl, .slice A l.length c] 25)).alloc (.cells #[.int .i64 i] 3)).alloc (.cells #[.int .u64 v0, .string v1] 42)) (.cells #[.int .i64 0, .int .u64 0, .int .u64 0, .slice none 0 0] 25)
    simpa using this
  have hs4 : w4.heap.size = w.heap.size + 4 := by rw [← hw4]; simp
  have d0 := cell_regrown ((blk_cell X0 0).trans rfl)
  have d1 := cell_regrown ((blk_cell X0 1).trans rfl)
  have d2 := cell_regrown ((blk_cell X0 2).trans rfl)
  have d3 := cell_regrown ((blk_cell X0 3).trans rfl)
  have d10 := cell_regrown X1.cell
  have cL : ∀ d os, CallsIn Fence.wide 3 Tryd.prog 22 #[] (grow (redrawn w4 d) os) fun e w'' => e = .returned (.string lettersB) ∧ ∃ p : Regrown, w'' = grow (redrawn w4 p.d) p.os :=
    fun d os => CallsIn.regrown_of (callsIn_wide.2 ((props_Letters.calls lettersB _ rfl).mono fun _ _ ⟨h, hd⟩ => ⟨h, hd.below⟩))
  have cR : ∀ d os, CallsIn Fence.wide 3 Tryd.prog 14 #[.agg #[.int .i64 a, .int .u64 b, .int .u64 fl, .slice A l.length c]] (grow (redrawn w4 d) os) fun e w'' => e = .returned (.int .i64 (RightR a b fl l)) ∧ ∃ p : Regrown, w'' = grow (redrawn w4 p.d) p.os :=
    fun d os => CallsIn.regrown_of (callsIn_wide.2 (props_Right.calls 4 a b fl A c l _ _ (HG.out.below (hB4.trans ((below_regrown w4 d os).mono (by omega)))) (Kd.C_below HR.out (hB4.trans ((below_regrown w4 d os).mono (by omega)))) hc hRt.out))
  generalize RightR a b fl l = q at h hRt hrf cR e0
  by_cases e1 : i < 0
  · rw [if_pos (.inl e1)] at h
    simp only [Prod.mk.injEq] at h
    obtain ⟨rfl, rfl, rfl, rfl, rfl⟩ := h
    have g1 : decide (i < 0) = true := decide_eq_true e1
    clear e0 e1 hrf
    refine (callsIn_wide (n := 4)).1 ?_
    refine callsIn_of_wp_marks Tryd.func20 rfl trivial ?_ rfl
    simp only [Tryd.ntmps20, List.size_toArray, List.length_cons, List.length_nil, Nat.reduceAdd, Nat.reduceSub, Array.replicate_succ, Array.replicate_zero, List.push_toArray, List.append_toArray, List.nil_append, List.cons_append]
    gi_wp2
    refine region_quiet_round hmx (by kernel_rfl) rfl ?_
    repeat (quiet_step_in (first | (gi_at_call 22; exact cL _ _) | (gi_at_call 14; exact cR _ _)))
    refine wpQuietIn_nil ?_
    intro _ hw'
    obtain ⟨⟨dq, osq⟩, hw''⟩ := hw'
    subst hw''
    have hBq := below_regrown w4 dq osq
    have x0 := blk_below X0 hBq
    have x1 := boxed_below X1 hBq
    have x2 := blk_below X2 hBq
    have x3 := blk_below X3 hBq
    have hB5 := hB4.trans (hBq.mono (by omega))
    clear cL cR d0 d1 d2 d3 d10
    generalize grow (redrawn w4 dq) osq = w5 at hBq x0 x1 x2 x3 hB5 ⊢
    have c0 := (blk_cell x0 0).trans rfl
    have c1 := (blk_cell x0 1).trans rfl
    have c2 := (blk_cell x0 2).trans rfl
    have c3 := (blk_cell x0 3).trans rfl
    have c30 := (blk_cell x3 0).trans rfl
    have c31 := (blk_cell x3 1).trans rfl
    have c32 := (blk_cell x3 2).trans rfl
    have c33 := (blk_cell x3 3).trans rfl
    have f30 := blk_frozen x3 0
    have f31 := blk_frozen x3 1
    have f32 := blk_frozen x3 2
    have f33 := blk_frozen x3 3
    gi_wp2
    exact ⟨_, results_set rfl _ _ _ _ _ _ _ rfl (head_store x3 _ _ _ _) hu25 rfl hinf, _, rfl, .inr ⟨by decide, rfl, rfl⟩, head_store_below hB5 (by omega) _ _ _ _⟩
  by_cases e2 : 14 ≤ i
  · rw [if_pos (.inr (.inl e2))] at h
    simp only [Prod.mk.injEq] at h
    obtain ⟨rfl, rfl, rfl, rfl, rfl⟩ := h
    have g1 : decide (i < 0) = false := decide_eq_false e1
    have g2 : decide (14 ≤ i) = true := decide_eq_true e2
    have g3 : lettersB.size = 14 := rfl
    have g4 : decide ((lettersB.size : Int) ≤ i) = true := decide_eq_true e2
    clear e0 e1 e2 hrf
    refine (callsIn_wide (n := 4)).1 ?_
    refine callsIn_of_wp_marks Tryd.func20 rfl trivial ?_ rfl
    simp only [Tryd.ntmps20, List.size_toArray, List.length_cons, List.length_nil, Nat.reduceAdd, Nat.reduceSub, Array.replicate_succ, Array.replicate_zero, List.push_toArray, List.append_toArray, List.nil_append, List.cons_append]
    gi_wp2
    refine region_quiet_round hmx (by kernel_rfl) rfl ?_
    repeat (quiet_step_in (first | (gi_at_call 22; exact cL _ _) | (gi_at_call 14; exact cR _ _)))
    refine wpQuietIn_nil ?_
    intro _ hw'
    obtain ⟨⟨dq, osq⟩, hw''⟩ := hw'
    subst hw''
    have hBq := below_regrown w4 dq osq
    have x0 := blk_below X0 hBq
    have x1 := boxed_below X1 hBq
    have x2 := blk_below X2 hBq
    have x3 := blk_below X3 hBq
    have hB5 := hB4.trans (hBq.mono (by omega))
    clear cL cR d0 d1 d2 d3 d10
    generalize grow (redrawn w4 dq) osq = w5 at hBq x0 x1 x2 x3 hB5 ⊢
    have c0 := (blk_cell x0 0).trans rfl
    have c1 := (blk_cell x0 1).trans rfl
    have c2 := (blk_cell x0 2).trans rfl
    have c3 := (blk_cell x0 3).trans rfl
    have c30 := (blk_cell x3 0).trans rfl
    have c31 := (blk_cell x3 1).trans rfl
    have c32 := (blk_cell x3 2).trans rfl
    have c33 := (blk_cell x3 3).trans rfl
    have f30 := blk_frozen x3 0
    have f31 := blk_frozen x3 1
    have f32 := blk_frozen x3 2
    have f33 := blk_frozen x3 3
    gi_wp2
    exact ⟨_, results_set rfl _ _ _ _ _ _ _ rfl (head_store x3 _ _ _ _) hu25 rfl hinf, _, rfl, .inr ⟨by decide, rfl, rfl⟩, head_store_below hB5 (by omega) _ _ _ _⟩
  have g1 : decide (i < 0) = false := decide_eq_false e1
  have g2 : decide (14 ≤ i) = false := decide_eq_false e2
  have g3 : lettersB.size = 14 := rfl
  by_cases e3 : q = 0
  · exact absurd ⟨⟨by omega, by omega⟩, e3⟩ e0
  · rw [if_pos (.inr (.inr e3))] at h
    simp only [Prod.mk.injEq] at h
    obtain ⟨rfl, rfl, rfl, rfl, rfl⟩ := h
    have g5 : (q != 0) = true := bne_iff_ne.2 e3
    clear e0 e1 e2 e3 hrf
    refine (callsIn_wide (n := 4)).1 ?_
    refine callsIn_of_wp_marks Tryd.func20 rfl trivial ?_ rfl
    simp only [Tryd.ntmps20, List.size_toArray, List.length_cons, List.length_nil, Nat.reduceAdd, Nat.reduceSub, Array.replicate_succ, Array.replicate_zero, List.push_toArray, List.append_toArray, List.nil_append, List.cons_append]
    gi_wp2
    refine region_quiet_round hmx (by kernel_rfl) rfl ?_
    repeat (quiet_step_in (first | (gi_at_call 22; exact cL _ _) | (gi_at_call 14; exact cR _ _)))
    refine wpQuietIn_nil ?_
    intro _ hw'
    obtain ⟨⟨dq, osq⟩, hw''⟩ := hw'
    subst hw''
    have hBq := below_regrown w4 dq osq
    have x0 := blk_below X0 hBq
    have x1 := boxed_below X1 hBq
    have x2 := blk_below X2 hBq
    have x3 := blk_below X3 hBq
    have hB5 := hB4.trans (hBq.mono (by omega))
    clear cL cR d0 d1 d2 d3 d10
    generalize grow (redrawn w4 dq) osq = w5 at hBq x0 x1 x2 x3 hB5 ⊢
    have c0 := (blk_cell x0 0).trans rfl
    have c1 := (blk_cell x0 1).trans rfl
    have c2 := (blk_cell x0 2).trans rfl
    have c3 := (blk_cell x0 3).trans rfl
    have c30 := (blk_cell x3 0).trans rfl
    have c31 := (blk_cell x3 1).trans rfl
    have c32 := (blk_cell x3 2).trans rfl
    have c33 := (blk_cell x3 3).trans rfl
    have f30 := blk_frozen x3 0
    have f31 := blk_frozen x3 1
    have f32 := blk_frozen x3 2
    have f33 := blk_frozen x3 3
    gi_wp2
    exact ⟨_, results_set rfl _ _ _ _ _ _ _ rfl (head_store x3 _ _ _ _) hu25 rfl hinf, _, rfl, .inr ⟨by decide, rfl, rfl⟩, head_store_below hB5 (by omega) _ _ _ _⟩
end Go.Proofs.YthpfcplhlhnfeaaDoor.F
namespace Go.Proofs.YthpfcplhlhnfeaaDoor.F
open Go.RowKit Go.Proofs.YthpfcplhlhnfeaaDoorW.PrintWords Go.Proofs.YthpfcplhlhnfeaaDoorW.PrintLast Go.Proofs.YthpfcplhlhnfeaaDoorW.PrintMore
attribute [local go_sem] max2_int min2_int max_two min_two max_three min_three max_four min_four
set_option linter.unusedVariables false
set_option linter.unusedSimpArgs false
set_option maxRecDepth 4000
set_option linter.unnecessarySimpa false

theorem eqA42 (d : Nat) (w : World) (x0 y0 : Int) (x1 y1 : ByteArray) :
    (Op.equalIn (d + 2) 42 (.agg #[.int .u64 x0, .string x1]) (.agg #[.int .u64 y0, .string y1])).run Tryd.prog w = .ok (x0 == y0 && (x1.toList == y1.toList)) w := by
  refine eqA_of Tryd.underlying42 (by kernel_rfl) ?_
  refine eqf_cons (by rfl) (by go_simp; rfl) (by go_simp; rfl) (by go_simp) ?_
  exact eqf_last (by rfl) (by go_simp; rfl) (by go_simp; rfl) (by go_simp)
end Go.Proofs.YthpfcplhlhnfeaaDoor.F
namespace Go.Proofs.YthpfcplhlhnfeaaDoor.F
open Go.RowKit Go.Proofs.YthpfcplhlhnfeaaDoorW.PrintWords Go.Proofs.YthpfcplhlhnfeaaDoorW.PrintLast Go.Proofs.YthpfcplhlhnfeaaDoorW.PrintMore
attribute [local go_sem] max2_int min2_int max_two min_two max_three min_three max_four min_four
set_option linter.unusedVariables false
set_option linter.unusedSimpArgs false
set_option maxRecDepth 4000
set_option linter.unnecessarySimpa false

attribute [local go_sem high] eqA42
/-! ### interchangeref07_Same: function 13 -/
mutual
def interchangeref07_Same.j0 : Nat → Bool → Int → Int → Int → List (S42) → Int → Int → Int → List (S42) → Option (Bool)
  | 0, _, _, _, _, _, _, _, _, _ => none
  | k + 1, x33, x144000, x144001, x144002, x144003, x145000, x145001, x145002, x145003 => if x33 = true then (some false) else (interchangeref07_Same.l0 k 0 x144000 x144001 x144002 x144003 x145000 x145001 x145002 x145003)
def interchangeref07_Same.l0 : Nat → Int → Int → Int → Int → List (S42) → Int → Int → Int → List (S42) → Option (Bool)
  | 0, _, _, _, _, _, _, _, _, _ => none
  | k + 1, x5, x144000, x144001, x144002, x144003, x145000, x145001, x145002, x145003 => if x5 < (x144003.length : Int) then (if 0 ≤ x5 then (if x5 < (x145003.length : Int) then (if (!(((rd_T42 x144003 x5).f0) == ((rd_T42 x145003 x5).f0)) || (!((((rd_T42 x144003 x5).f1).toList) == (((rd_T42 x145003 x5).f1).toList)))) = true then (some false) else (interchangeref07_Same.l0 k (wrap64 (x5 + 1)) x144000 x144001 x144002 x144003 x145000 x145001 x145002 x145003)) else (none)) else (none)) else (some true)
end
def interchangeref07_Same.f (k : Nat) (a0_0 : Int) (a0_1 : Int) (a0_2 : Int) (l0_3 : List (S42)) (a1_0 : Int) (a1_1 : Int) (a1_2 : Int) (l1_3 : List (S42)) : Option (Bool) := if a0_0 = a1_0 then (if a0_1 = a1_1 then (if a0_2 = a1_2 then (interchangeref07_Same.j0 k ((l0_3.length : Int) != (l1_3.length : Int)) a0_0 a0_1 a0_2 l0_3 a1_0 a1_1 a1_2 l1_3) else (interchangeref07_Same.j0 k true a0_0 a0_1 a0_2 l0_3 a1_0 a1_1 a1_2 l1_3)) else (interchangeref07_Same.j0 k true a0_0 a0_1 a0_2 l0_3 a1_0 a1_1 a1_2 l1_3)) else (interchangeref07_Same.j0 k true a0_0 a0_1 a0_2 l0_3 a1_0 a1_1 a1_2 l1_3)
theorem interchangeref07_Same.mono_l : ∀ k, (∀ y0 y1 y2 y3 y4 y5 y6 y7 y8, LeO (interchangeref07_Same.j0 k y0 y1 y2 y3 y4 y5 y6 y7 y8) (interchangeref07_Same.j0 (k + 1) y0 y1 y2 y3 y4 y5 y6 y7 y8)) ∧ (∀ y0 y1 y2 y3 y4 y5 y6 y7 y8, LeO (interchangeref07_Same.l0 k y0 y1 y2 y3 y4 y5 y6 y7 y8) (interchangeref07_Same.l0 (k + 1) y0 y1 y2 y3 y4 y5 y6 y7 y8))
  | 0 => ⟨fun _ _ _ _ _ _ _ _ _ r h => by simp [interchangeref07_Same.j0] at h, fun _ _ _ _ _ _ _ _ _ r h => by simp [interchangeref07_Same.l0] at h⟩
  | k + 1 => by
    obtain ⟨ih0, ih1⟩ := interchangeref07_Same.mono_l k
    refine ⟨?_, ?_⟩
    · intro y0 y1 y2 y3 y4 y5 y6 y7 y8
      unfold interchangeref07_Same.j0
      repeat' first
      | (with_reducible exact ih0 _ _ _ _ _ _ _ _ _)
      | (with_reducible exact ih1 _ _ _ _ _ _ _ _ _)
      | (with_reducible exact LeO.refl _)
      | (with_reducible exact LeO.none _)
      | (with_reducible refine LeO.ite ?_ ?_)
      | (with_reducible refine LeO.bind ?_ (fun _ => ?_))
      | exact ih0 _ _ _ _ _ _ _ _ _
      | exact ih1 _ _ _ _ _ _ _ _ _
      | exact LeO.none _
      | refine LeO.ite ?_ ?_
      | refine LeO.bind ?_ (fun _ => ?_)
    · intro y0 y1 y2 y3 y4 y5 y6 y7 y8
      unfold interchangeref07_Same.l0
      repeat' first
      | (with_reducible exact ih0 _ _ _ _ _ _ _ _ _)
      | (with_reducible exact ih1 _ _ _ _ _ _ _ _ _)
      | (with_reducible exact LeO.refl _)
      | (with_reducible exact LeO.none _)
      | (with_reducible refine LeO.ite ?_ ?_)
      | (with_reducible refine LeO.bind ?_ (fun _ => ?_))
      | exact ih0 _ _ _ _ _ _ _ _ _
      | exact ih1 _ _ _ _ _ _ _ _ _
      | exact LeO.none _
      | refine LeO.ite ?_ ?_
      | refine LeO.bind ?_ (fun _ => ?_)
theorem interchangeref07_Same.mono : ∀ a0 a1 a2 a3 a4 a5 a6 a7 k, LeO (interchangeref07_Same.f k a0 a1 a2 a3 a4 a5 a6 a7) (interchangeref07_Same.f (k + 1) a0 a1 a2 a3 a4 a5 a6 a7) := by
  intro a0 a1 a2 a3 a4 a5 a6 a7 k
  obtain ⟨ih0, ih1⟩ := interchangeref07_Same.mono_l k
  unfold interchangeref07_Same.f
  repeat' first
      | (with_reducible exact ih0 _ _ _ _ _ _ _ _ _)
      | (with_reducible exact ih1 _ _ _ _ _ _ _ _ _)
      | (with_reducible exact LeO.refl _)
      | (with_reducible exact LeO.none _)
      | (with_reducible refine LeO.ite ?_ ?_)
      | (with_reducible refine LeO.bind ?_ (fun _ => ?_))
      | exact ih0 _ _ _ _ _ _ _ _ _
      | exact ih1 _ _ _ _ _ _ _ _ _
      | exact LeO.none _
      | refine LeO.ite ?_ ?_
      | refine LeO.bind ?_ (fun _ => ?_)
set_option maxHeartbeats 8000000 in
set_option maxRecDepth 100000 in
theorem interchangeref07_Same.calls (k : Nat) (a0_0 : Int) (a0_1 : Int) (a0_2 : Int) (A0_3 : Option Addr) (c0_3 : Nat) (l0_3 : List (S42)) (a1_0 : Int) (a1_1 : Int) (a1_2 : Int) (A1_3 : Option Addr) (c1_3 : Nat) (l1_3 : List (S42)) (r : Bool) (w : World) (hr0_3 : Kd.C k42 w A0_3 l0_3.length l0_3) (hc0_3 : l0_3.length ≤ c0_3) (hr1_3 : Kd.C k42 w A1_3 l1_3.length l1_3) (hc1_3 : l1_3.length ≤ c1_3) (h : interchangeref07_Same.f k a0_0 a0_1 a0_2 l0_3 a1_0 a1_1 a1_2 l1_3 = some r) :
    Calls Tryd.prog 13 #[.agg #[.int .i64 a0_0, .int .u64 a0_1, .int .u64 a0_2, .slice A0_3 l0_3.length c0_3], .agg #[.int .i64 a1_0, .int .u64 a1_1, .int .u64 a1_2, .slice A1_3 l1_3.length c1_3]] w fun e w' => e = .returned (.bool r) ∧ Below w.heap.size w w' := by
  have hu25 := Tryd.underlying25
  have hu42 := Tryd.underlying42
  have HR0_3 := Aside0.mk hr0_3
  have HC0_3 := Aside0.mk hc0_3
  clear hr0_3 hc0_3
  have HR1_3 := Aside0.mk hr1_3
  have HC1_3 := Aside0.mk hc1_3
  clear hr1_3 hc1_3
  have HB := Aside0.mk (Below.refl w.heap.size w)
  have H : (if a0_0 = a1_0 then (if a0_1 = a1_1 then (if a0_2 = a1_2 then (interchangeref07_Same.j0 k ((l0_3.length : Int) != (l1_3.length : Int)) a0_0 a0_1 a0_2 l0_3 a1_0 a1_1 a1_2 l1_3) else (interchangeref07_Same.j0 k true a0_0 a0_1 a0_2 l0_3 a1_0 a1_1 a1_2 l1_3)) else (interchangeref07_Same.j0 k true a0_0 a0_1 a0_2 l0_3 a1_0 a1_1 a1_2 l1_3)) else (interchangeref07_Same.j0 k true a0_0 a0_1 a0_2 l0_3 a1_0 a1_1 a1_2 l1_3)) = some r := h
  clear h
  have HC3 := Aside0.mk H
  clear H
  go_enter Tryd.func13, Tryd.ntmps13
  go_upto_region 1 with (first | ((with_reducible refine gate_dst (N := 2) rfl ?_); refine box_event ?hg (N := 2) ?hd (cs := #[.int .i64 a0_0, .int .u64 a0_1, .int .u64 a0_2, .slice A0_3 l0_3.length c0_3]) (t := 25) ?hr ?_; (case hd => rfl); (case hg => rfl); (case hr => first | (go_simp; done) | (go_simp; rfl)); intro gb143 hg w4 hbox hb; have n0_ := Aside0.mk (below_step (by repeat (first | (with_reducible first | exact HB.out | apply below_alloc | apply pw_below_drewN | apply below_drew1) | exact HB.out)) hb); have n1_ := Aside0.mk (hbox); have n2_ := Aside0.mk ((by rw [hg]; exact (below_size (by repeat (first | (with_reducible first | exact HB.out | apply below_alloc | apply pw_below_drewN | apply below_drew1) | exact HB.out))) : w.heap.size ≤ gb143)); have n3_ := Aside0.mk ((by rw [hg]; exact (below_size (by repeat (first | (with_reducible first | exact HB.out | apply below_alloc | apply pw_below_drewN | apply below_drew1) | exact HB.out))) : w.heap.size ≤ gb143)); clear HB; have HB := n0_; have BK143 := n1_; have GW143 := n2_; have GE143 := n3_; clear n0_ n1_ n2_ n3_; clear hb hbox hg) | ((with_reducible refine gate_dst (N := 3) rfl ?_); refine box_event ?hg (N := 3) ?hd (cs := #[.int .i64 a1_0, .int .u64 a1_1, .int .u64 a1_2, .slice A1_3 l1_3.length c1_3]) (t := 25) ?hr ?_; (case hd => rfl); (case hg => rfl); (case hr => first | (go_simp; done) | (go_simp; rfl)); intro gb144 hg w5 hbox hb; have n0_ := Aside0.mk (blk_below (g := gb143) (o := .cells #[.int .i64 a0_0, .int .u64 a0_1, .int .u64 a0_2, .slice A0_3 l0_3.length c0_3] 25 (0, 0)) (by (with_reducible repeat (first | refine blk_drewN ?_ _ | refine blk_drew ?_ | refine blk_alloc ?_ _)); exact BK143.out) hb); have n1_ := Aside0.mk (below_step (by repeat (first | (with_reducible first | exact HB.out | apply below_alloc | apply pw_below_drewN | apply below_drew1 | refine below_set ?_ GE143.out) | exact HB.out)) hb); have n2_ := Aside0.mk (hbox); have n3_ := Aside0.mk ((by rw [hg]; exact (below_size (by repeat (first | (with_reducible first | exact HB.out | apply below_alloc | apply pw_below_drewN | apply below_drew1 | refine below_set ?_ GE143.out) | exact HB.out))) : w.heap.size ≤ gb144)); have n4_ := Aside0.mk ((by rw [hg]; exact (below_size (by repeat (first | (with_reducible first | exact HB.out | apply below_alloc | apply pw_below_drewN | apply below_drew1 | refine below_set ?_ GE143.out) | exact HB.out))) : w.heap.size ≤ gb144)); have n5_ := Aside0.mk ((by rw [hg]; exact Nat.ne_of_lt (blk_lt (g := gb143) (o := .cells #[.int .i64 a0_0, .int .u64 a0_1, .int .u64 a0_2, .slice A0_3 l0_3.length c0_3] 25 (0, 0)) (by (with_reducible repeat (first | refine blk_drewN ?_ _ | refine blk_drew ?_ | refine blk_alloc ?_ _)); exact BK143.out)) : gb143 ≠ gb144)); have n6_ := Aside0.mk ((by rw [hg]; exact Nat.ne_of_gt (blk_lt (g := gb143) (o := .cells #[.int .i64 a0_0, .int .u64 a0_1, .int .u64 a0_2, .slice A0_3 l0_3.length c0_3] 25 (0, 0)) (by (with_reducible repeat (first | refine blk_drewN ?_ _ | refine blk_drew ?_ | refine blk_alloc ?_ _)); exact BK143.out)) : gb144 ≠ gb143)); clear BK143; clear HB; have BK143 := n0_; have HB := n1_; have BK144 := n2_; have GW144 := n3_; have GE144 := n4_; have NB143_144 := n5_; have NB144_143 := n6_; clear n0_ n1_ n2_ n3_ n4_ n5_ n6_; clear hb hbox hg))
  repeat (go_quiet (first | ((with_reducible refine gate_dst (N := 2) rfl ?_); refine box_event ?hg (N := 2) ?hd (cs := #[.int .i64 a0_0, .int .u64 a0_1, .int .u64 a0_2, .slice A0_3 l0_3.length c0_3]) (t := 25) ?hr ?_; (case hd => rfl); (case hg => rfl); (case hr => first | (go_simp; done) | (go_simp; rfl)); intro gb143 hg w4 hbox hb; have n0_ := Aside0.mk (below_step (by repeat (first | (with_reducible first | exact HB.out | apply below_alloc | apply pw_below_drewN | apply below_drew1) | exact HB.out)) hb); have n1_ := Aside0.mk (hbox); have n2_ := Aside0.mk ((by rw [hg]; exact (below_size (by repeat (first | (with_reducible first | exact HB.out | apply below_alloc | apply pw_below_drewN | apply below_drew1) | exact HB.out))) : w.heap.size ≤ gb143)); have n3_ := Aside0.mk ((by rw [hg]; exact (below_size (by repeat (first | (with_reducible first | exact HB.out | apply below_alloc | apply pw_below_drewN | apply below_drew1) | exact HB.out))) : w.heap.size ≤ gb143)); clear HB; have HB := n0_; have BK143 := n1_; have GW143 := n2_; have GE143 := n3_; clear n0_ n1_ n2_ n3_; clear hb hbox hg) | ((with_reducible refine gate_dst (N := 3) rfl ?_); refine box_event ?hg (N := 3) ?hd (cs := #[.int .i64 a1_0, .int .u64 a1_1, .int .u64 a1_2, .slice A1_3 l1_3.length c1_3]) (t := 25) ?hr ?_; (case hd => rfl); (case hg => rfl); (case hr => first | (go_simp; done) | (go_simp; rfl)); intro gb144 hg w5 hbox hb; have n0_ := Aside0.mk (blk_below (g := gb143) (o := .cells #[.int .i64 a0_0, .int .u64 a0_1, .int .u64 a0_2, .slice A0_3 l0_3.length c0_3] 25 (0, 0)) (by (with_reducible repeat (first | refine blk_drewN ?_ _ | refine blk_drew ?_ | refine blk_alloc ?_ _)); exact BK143.out) hb); have n1_ := Aside0.mk (below_step (by repeat (first | (with_reducible first | exact HB.out | apply below_alloc | apply pw_below_drewN | apply below_drew1 | refine below_set ?_ GE143.out) | exact HB.out)) hb); have n2_ := Aside0.mk (hbox); have n3_ := Aside0.mk ((by rw [hg]; exact (below_size (by repeat (first | (with_reducible first | exact HB.out | apply below_alloc | apply pw_below_drewN | apply below_drew1 | refine below_set ?_ GE143.out) | exact HB.out))) : w.heap.size ≤ gb144)); have n4_ := Aside0.mk ((by rw [hg]; exact (below_size (by repeat (first | (with_reducible first | exact HB.out | apply below_alloc | apply pw_below_drewN | apply below_drew1 | refine below_set ?_ GE143.out) | exact HB.out))) : w.heap.size ≤ gb144)); have n5_ := Aside0.mk ((by rw [hg]; exact Nat.ne_of_lt (blk_lt (g := gb143) (o := .cells #[.int .i64 a0_0, .int .u64 a0_1, .int .u64 a0_2, .slice A0_3 l0_3.length c0_3] 25 (0, 0)) (by (with_reducible repeat (first | refine blk_drewN ?_ _ | refine blk_drew ?_ | refine blk_alloc ?_ _)); exact BK143.out)) : gb143 ≠ gb144)); have n6_ := Aside0.mk ((by rw [hg]; exact Nat.ne_of_gt (blk_lt (g := gb143) (o := .cells #[.int .i64 a0_0, .int .u64 a0_1, .int .u64 a0_2, .slice A0_3 l0_3.length c0_3] 25 (0, 0)) (by (with_reducible repeat (first | refine blk_drewN ?_ _ | refine blk_drew ?_ | refine blk_alloc ?_ _)); exact BK143.out)) : gb144 ≠ gb143)); clear BK143; clear HB; have BK143 := n0_; have HB := n1_; have BK144 := n2_; have GW144 := n3_; have GE144 := n4_; have NB143_144 := n5_; have NB144_143 := n6_; clear n0_ n1_ n2_ n3_ n4_ n5_ n6_; clear hb hbox hg)); go_upto_region 1 with (first | ((with_reducible refine gate_dst (N := 2) rfl ?_); refine box_event ?hg (N := 2) ?hd (cs := #[.int .i64 a0_0, .int .u64 a0_1, .int .u64 a0_2, .slice A0_3 l0_3.length c0_3]) (t := 25) ?hr ?_; (case hd => rfl); (case hg => rfl); (case hr => first | (go_simp; done) | (go_simp; rfl)); intro gb143 hg w4 hbox hb; have n0_ := Aside0.mk (below_step (by repeat (first | (with_reducible first | exact HB.out | apply below_alloc | apply pw_below_drewN | apply below_drew1) | exact HB.out)) hb); have n1_ := Aside0.mk (hbox); have n2_ := Aside0.mk ((by rw [hg]; exact (below_size (by repeat (first | (with_reducible first | exact HB.out | apply below_alloc | apply pw_below_drewN | apply below_drew1) | exact HB.out))) : w.heap.size ≤ gb143)); have n3_ := Aside0.mk ((by rw [hg]; exact (below_size (by repeat (first | (with_reducible first | exact HB.out | apply below_alloc | apply pw_below_drewN | apply below_drew1) | exact HB.out))) : w.heap.size ≤ gb143)); clear HB; have HB := n0_; have BK143 := n1_; have GW143 := n2_; have GE143 := n3_; clear n0_ n1_ n2_ n3_; clear hb hbox hg) | ((with_reducible refine gate_dst (N := 3) rfl ?_); refine box_event ?hg (N := 3) ?hd (cs := #[.int .i64 a1_0, .int .u64 a1_1, .int .u64 a1_2, .slice A1_3 l1_3.length c1_3]) (t := 25) ?hr ?_; (case hd => rfl); (case hg => rfl); (case hr => first | (go_simp; done) | (go_simp; rfl)); intro gb144 hg w5 hbox hb; have n0_ := Aside0.mk (blk_below (g := gb143) (o := .cells #[.int .i64 a0_0, .int .u64 a0_1, .int .u64 a0_2, .slice A0_3 l0_3.length c0_3] 25 (0, 0)) (by (with_reducible repeat (first | refine blk_drewN ?_ _ | refine blk_drew ?_ | refine blk_alloc ?_ _)); exact BK143.out) hb); have n1_ := Aside0.mk (below_step (by repeat (first | (with_reducible first | exact HB.out | apply below_alloc | apply pw_below_drewN | apply below_drew1 | refine below_set ?_ GE143.out) | exact HB.out)) hb); have n2_ := Aside0.mk (hbox); have n3_ := Aside0.mk ((by rw [hg]; exact (below_size (by repeat (first | (with_reducible first | exact HB.out | apply below_alloc | apply pw_below_drewN | apply below_drew1 | refine below_set ?_ GE143.out) | exact HB.out))) : w.heap.size ≤ gb144)); have n4_ := Aside0.mk ((by rw [hg]; exact (below_size (by repeat (first | (with_reducible first | exact HB.out | apply below_alloc | apply pw_below_drewN | apply below_drew1 | refine below_set ?_ GE143.out) | exact HB.out))) : w.heap.size ≤ gb144)); have n5_ := Aside0.mk ((by rw [hg]; exact Nat.ne_of_lt (blk_lt (g := gb143) (o := .cells #[.int .i64 a0_0, .int .u64 a0_1, .int .u64 a0_2, .slice A0_3 l0_3.length c0_3] 25 (0, 0)) (by (with_reducible repeat (first | refine blk_drewN ?_ _ | refine blk_drew ?_ | refine blk_alloc ?_ _)); exact BK143.out)) : gb143 ≠ gb144)); have n6_ := Aside0.mk ((by rw [hg]; exact Nat.ne_of_gt (blk_lt (g := gb143) (o := .cells #[.int .i64 a0_0, .int .u64 a0_1, .int .u64 a0_2, .slice A0_3 l0_3.length c0_3] 25 (0, 0)) (by (with_reducible repeat (first | refine blk_drewN ?_ _ | refine blk_drew ?_ | refine blk_alloc ?_ _)); exact BK143.out)) : gb144 ≠ gb143)); clear BK143; clear HB; have BK143 := n0_; have HB := n1_; have BK144 := n2_; have GW144 := n3_; have GE144 := n4_; have NB143_144 := n5_; have NB144_143 := n6_; clear n0_ n1_ n2_ n3_ n4_ n5_ n6_; clear hb hbox hg)))
  (try simp only [Act.put, List.setIfInBounds_toArray, List.set_cons_zero, List.set_cons_succ])
  go_cut [33] (fun v33 wc => ∃ (kq : Nat) (x33_2 : Bool), v33 = .bool x33_2 ∧ Aside0 (interchangeref07_Same.j0 kq x33_2 a0_0 a0_1 a0_2 l0_3 a1_0 a1_1 a1_2 l1_3 = some r) ∧ Aside0 (kq ≤ k) ∧ Aside0 (wc.heap[gb143]? = some (.cells #[.int .i64 a0_0, .int .u64 a0_1, .int .u64 a0_2, (.slice A0_3 l0_3.length c0_3)] 25 (0, 0))) ∧ Aside0 (wc.heap[gb144]? = some (.cells #[.int .i64 a1_0, .int .u64 a1_1, .int .u64 a1_2, (.slice A1_3 l1_3.length c1_3)] 25 (0, 0))) ∧ Aside0 (Below w.heap.size w wc))
  case first =>
    have H := HC3.out
    clear HC3
    by_cases c6 : a0_0 = a1_0
    · rw [if_pos c6] at H
      have c6b0 : (a0_0 == a1_0) = true := beq_iff_eq.mpr c6
      have c6b1 : (a0_0 != a1_0) = false := bne_eq_false_iff_eq.mpr c6
      clear c6
      (first | rw [c6b0] | (simp only [i64_w, i32_w]; rw [c6b0]) | skip)
      by_cases c7 : a0_1 = a1_1
      · rw [if_pos c7] at H
        have c7b0 : (a0_1 == a1_1) = true := beq_iff_eq.mpr c7
        have c7b1 : (a0_1 != a1_1) = false := bne_eq_false_iff_eq.mpr c7
        clear c7
        by_cases c8 : a0_2 = a1_2
        · rw [if_pos c8] at H
          have c8b0 : (a0_2 == a1_2) = true := beq_iff_eq.mpr c8
          have c8b1 : (a0_2 != a1_2) = false := bne_eq_false_iff_eq.mpr c8
          clear c8
          have H' := Aside0.mk H
          clear H
          have hnb9 := NB143_144.out
          have hnc9 := NB144_143.out
          have hcz10_0 : w5.cell? ⟨gb143, 0, none⟩ = some (.int .i64 a0_0) := (blk_cell BK143.out 0).trans rfl
          have hcz10_1 : w5.cell? ⟨gb143, 1, none⟩ = some (.int .u64 a0_1) := (blk_cell BK143.out 1).trans rfl
          have hcz10_2 : w5.cell? ⟨gb143, 2, none⟩ = some (.int .u64 a0_2) := (blk_cell BK143.out 2).trans rfl
          have hcz10_3 : w5.cell? ⟨gb143, 3, none⟩ = some (.slice A0_3 l0_3.length c0_3) := (blk_cell BK143.out 3).trans rfl
          have hfz10_0 := blk_frozen BK143.out 0
          have hfz10_1 := blk_frozen BK143.out 1
          have hfz10_2 := blk_frozen BK143.out 2
          have hfz10_3 := blk_frozen BK143.out 3
          have hcz11_0 : w5.cell? ⟨gb144, 0, none⟩ = some (.int .i64 a1_0) := (blk_cell BK144.out 0).trans rfl
          have hcz11_1 : w5.cell? ⟨gb144, 1, none⟩ = some (.int .u64 a1_1) := (blk_cell BK144.out 1).trans rfl
          have hcz11_2 : w5.cell? ⟨gb144, 2, none⟩ = some (.int .u64 a1_2) := (blk_cell BK144.out 2).trans rfl
          have hcz11_3 : w5.cell? ⟨gb144, 3, none⟩ = some (.slice A1_3 l1_3.length c1_3) := (blk_cell BK144.out 3).trans rfl
          have hfz11_0 := blk_frozen BK144.out 0
          have hfz11_1 := blk_frozen BK144.out 1
          have hfz11_2 := blk_frozen BK144.out 2
          have hfz11_3 := blk_frozen BK144.out 3
          go_wp2
          repeat (go_quiet (fail); try go_wp2)
          go_meet
          case rel => exact ⟨_, (((l0_3.length : Int) != (l1_3.length : Int))), (by first | rfl | (simp; done) | (simp [*]; done)), H', ⟨by first | omega | exact Nat.le_refl _⟩, ⟨by (with_reducible repeat (first | refine blk_drewN ?_ _ | refine blk_drew ?_ | refine blk_alloc ?_ _)); exact BK143.out⟩, ⟨by (with_reducible repeat (first | refine blk_drewN ?_ _ | refine blk_drew ?_ | refine blk_alloc ?_ _)); exact BK144.out⟩, ⟨by repeat (first | (with_reducible first | exact HB.out | apply below_alloc | apply pw_below_drewN | apply below_drew1 | refine below_set ?_ GE143.out | refine below_set ?_ GE144.out) | exact HB.out)⟩⟩
        · rw [if_neg c8] at H
          have c8b0 : (a0_2 == a1_2) = false := beq_eq_false_iff_ne.mpr c8
          have c8b1 : (a0_2 != a1_2) = true := bne_iff_ne.mpr c8
          have H' := Aside0.mk H
          clear H
          have hnb12 := NB143_144.out
          have hnc12 := NB144_143.out
          have hcz13_0 : w5.cell? ⟨gb143, 0, none⟩ = some (.int .i64 a0_0) := (blk_cell BK143.out 0).trans rfl
          have hcz13_1 : w5.cell? ⟨gb143, 1, none⟩ = some (.int .u64 a0_1) := (blk_cell BK143.out 1).trans rfl
          have hcz13_2 : w5.cell? ⟨gb143, 2, none⟩ = some (.int .u64 a0_2) := (blk_cell BK143.out 2).trans rfl
          have hcz13_3 : w5.cell? ⟨gb143, 3, none⟩ = some (.slice A0_3 l0_3.length c0_3) := (blk_cell BK143.out 3).trans rfl
          have hfz13_0 := blk_frozen BK143.out 0
          have hfz13_1 := blk_frozen BK143.out 1
          have hfz13_2 := blk_frozen BK143.out 2
          have hfz13_3 := blk_frozen BK143.out 3
          have hcz14_0 : w5.cell? ⟨gb144, 0, none⟩ = some (.int .i64 a1_0) := (blk_cell BK144.out 0).trans rfl
          have hcz14_1 : w5.cell? ⟨gb144, 1, none⟩ = some (.int .u64 a1_1) := (blk_cell BK144.out 1).trans rfl
          have hcz14_2 : w5.cell? ⟨gb144, 2, none⟩ = some (.int .u64 a1_2) := (blk_cell BK144.out 2).trans rfl
          have hcz14_3 : w5.cell? ⟨gb144, 3, none⟩ = some (.slice A1_3 l1_3.length c1_3) := (blk_cell BK144.out 3).trans rfl
          have hfz14_0 := blk_frozen BK144.out 0
          have hfz14_1 := blk_frozen BK144.out 1
          have hfz14_2 := blk_frozen BK144.out 2
          have hfz14_3 := blk_frozen BK144.out 3
          go_wp2
          repeat (go_quiet (fail); try go_wp2)
          go_meet
          case rel => exact ⟨_, (true), (by first | rfl | (simp; done) | (simp [*]; done)), H', ⟨by first | omega | exact Nat.le_refl _⟩, ⟨by (with_reducible repeat (first | refine blk_drewN ?_ _ | refine blk_drew ?_ | refine blk_alloc ?_ _)); exact BK143.out⟩, ⟨by (with_reducible repeat (first | refine blk_drewN ?_ _ | refine blk_drew ?_ | refine blk_alloc ?_ _)); exact BK144.out⟩, ⟨by repeat (first | (with_reducible first | exact HB.out | apply below_alloc | apply pw_below_drewN | apply below_drew1 | refine below_set ?_ GE143.out | refine below_set ?_ GE144.out) | exact HB.out)⟩⟩
      · rw [if_neg c7] at H
        have c7b0 : (a0_1 == a1_1) = false := beq_eq_false_iff_ne.mpr c7
        have c7b1 : (a0_1 != a1_1) = true := bne_iff_ne.mpr c7
        have H' := Aside0.mk H
        clear H
        have hnb15 := NB143_144.out
        have hnc15 := NB144_143.out
        have hcz16_0 : w5.cell? ⟨gb143, 0, none⟩ = some (.int .i64 a0_0) := (blk_cell BK143.out 0).trans rfl
        have hcz16_1 : w5.cell? ⟨gb143, 1, none⟩ = some (.int .u64 a0_1) := (blk_cell BK143.out 1).trans rfl
        have hcz16_2 : w5.cell? ⟨gb143, 2, none⟩ = some (.int .u64 a0_2) := (blk_cell BK143.out 2).trans rfl
        have hcz16_3 : w5.cell? ⟨gb143, 3, none⟩ = some (.slice A0_3 l0_3.length c0_3) := (blk_cell BK143.out 3).trans rfl
        have hfz16_0 := blk_frozen BK143.out 0
        have hfz16_1 := blk_frozen BK143.out 1
        have hfz16_2 := blk_frozen BK143.out 2
        have hfz16_3 := blk_frozen BK143.out 3
        have hcz17_0 : w5.cell? ⟨gb144, 0, none⟩ = some (.int .i64 a1_0) := (blk_cell BK144.out 0).trans rfl
        have hcz17_1 : w5.cell? ⟨gb144, 1, none⟩ = some (.int .u64 a1_1) := (blk_cell BK144.out 1).trans rfl
        have hcz17_2 : w5.cell? ⟨gb144, 2, none⟩ = some (.int .u64 a1_2) := (blk_cell BK144.out 2).trans rfl
        have hcz17_3 : w5.cell? ⟨gb144, 3, none⟩ = some (.slice A1_3 l1_3.length c1_3) := (blk_cell BK144.out 3).trans rfl
        have hfz17_0 := blk_frozen BK144.out 0
        have hfz17_1 := blk_frozen BK144.out 1
        have hfz17_2 := blk_frozen BK144.out 2
        have hfz17_3 := blk_frozen BK144.out 3
        go_wp2
        repeat (go_quiet (fail); try go_wp2)
        go_meet
        case rel => exact ⟨_, (true), (by first | rfl | (simp; done) | (simp [*]; done)), H', ⟨by first | omega | exact Nat.le_refl _⟩, ⟨by (with_reducible repeat (first | refine blk_drewN ?_ _ | refine blk_drew ?_ | refine blk_alloc ?_ _)); exact BK143.out⟩, ⟨by (with_reducible repeat (first | refine blk_drewN ?_ _ | refine blk_drew ?_ | refine blk_alloc ?_ _)); exact BK144.out⟩, ⟨by repeat (first | (with_reducible first | exact HB.out | apply below_alloc | apply pw_below_drewN | apply below_drew1 | refine below_set ?_ GE143.out | refine below_set ?_ GE144.out) | exact HB.out)⟩⟩
    · rw [if_neg c6] at H
      have c6b0 : (a0_0 == a1_0) = false := beq_eq_false_iff_ne.mpr c6
      have c6b1 : (a0_0 != a1_0) = true := bne_iff_ne.mpr c6
      (first | rw [c6b0] | (simp only [i64_w, i32_w]; rw [c6b0]) | skip)
      have H' := Aside0.mk H
      clear H
      have hnb18 := NB143_144.out
      have hnc18 := NB144_143.out
      have hcz19_0 : w5.cell? ⟨gb143, 0, none⟩ = some (.int .i64 a0_0) := (blk_cell BK143.out 0).trans rfl
      have hcz19_1 : w5.cell? ⟨gb143, 1, none⟩ = some (.int .u64 a0_1) := (blk_cell BK143.out 1).trans rfl
      have hcz19_2 : w5.cell? ⟨gb143, 2, none⟩ = some (.int .u64 a0_2) := (blk_cell BK143.out 2).trans rfl
      have hcz19_3 : w5.cell? ⟨gb143, 3, none⟩ = some (.slice A0_3 l0_3.length c0_3) := (blk_cell BK143.out 3).trans rfl
      have hfz19_0 := blk_frozen BK143.out 0
      have hfz19_1 := blk_frozen BK143.out 1
      have hfz19_2 := blk_frozen BK143.out 2
      have hfz19_3 := blk_frozen BK143.out 3
      have hcz20_0 : w5.cell? ⟨gb144, 0, none⟩ = some (.int .i64 a1_0) := (blk_cell BK144.out 0).trans rfl
      have hcz20_1 : w5.cell? ⟨gb144, 1, none⟩ = some (.int .u64 a1_1) := (blk_cell BK144.out 1).trans rfl
      have hcz20_2 : w5.cell? ⟨gb144, 2, none⟩ = some (.int .u64 a1_2) := (blk_cell BK144.out 2).trans rfl
      have hcz20_3 : w5.cell? ⟨gb144, 3, none⟩ = some (.slice A1_3 l1_3.length c1_3) := (blk_cell BK144.out 3).trans rfl
      have hfz20_0 := blk_frozen BK144.out 0
      have hfz20_1 := blk_frozen BK144.out 1
      have hfz20_2 := blk_frozen BK144.out 2
      have hfz20_3 := blk_frozen BK144.out 3
      go_wp2
      repeat (go_quiet (fail); try go_wp2)
      go_meet
      case rel => exact ⟨_, (true), (by first | rfl | (simp; done) | (simp [*]; done)), H', ⟨by first | omega | exact Nat.le_refl _⟩, ⟨by (with_reducible repeat (first | refine blk_drewN ?_ _ | refine blk_drew ?_ | refine blk_alloc ?_ _)); exact BK143.out⟩, ⟨by (with_reducible repeat (first | refine blk_drewN ?_ _ | refine blk_drew ?_ | refine blk_alloc ?_ _)); exact BK144.out⟩, ⟨by repeat (first | (with_reducible first | exact HB.out | apply below_alloc | apply pw_below_drewN | apply below_drew1 | refine below_set ?_ GE143.out | refine below_set ?_ GE144.out) | exact HB.out)⟩⟩
  case rest =>
    clear HC3
    try clear c1
    try clear p2
    try clear c6
    try clear c6b0
    try clear c6b1
    try clear c7
    try clear c7b0
    try clear c7b1
    try clear c8
    try clear c8b0
    try clear c8b1
    try clear c9
    try clear c12
    try clear c13
    try clear c15
    try clear c18
    try clear hcz10_0
    try clear hcz10_1
    try clear hcz10_2
    try clear hcz10_3
    try clear hcz11_0
    try clear hcz11_1
    try clear hcz11_2
    try clear hcz11_3
    try clear hcz13_0
    try clear hcz13_1
    try clear hcz13_2
    try clear hcz13_3
    try clear hcz14_0
    try clear hcz14_1
    try clear hcz14_2
    try clear hcz14_3
    try clear hcz16_0
    try clear hcz16_1
    try clear hcz16_2
    try clear hcz16_3
    try clear hcz17_0
    try clear hcz17_1
    try clear hcz17_2
    try clear hcz17_3
    try clear hcz19_0
    try clear hcz19_1
    try clear hcz19_2
    try clear hcz19_3
    try clear hcz20_0
    try clear hcz20_1
    try clear hcz20_2
    try clear hcz20_3
    try clear hfz10_0
    try clear hfz10_1
    try clear hfz10_2
    try clear hfz10_3
    try clear hfz11_0
    try clear hfz11_1
    try clear hfz11_2
    try clear hfz11_3
    try clear hfz13_0
    try clear hfz13_1
    try clear hfz13_2
    try clear hfz13_3
    try clear hfz14_0
    try clear hfz14_1
    try clear hfz14_2
    try clear hfz14_3
    try clear hfz16_0
    try clear hfz16_1
    try clear hfz16_2
    try clear hfz16_3
    try clear hfz17_0
    try clear hfz17_1
    try clear hfz17_2
    try clear hfz17_3
    try clear hfz19_0
    try clear hfz19_1
    try clear hfz19_2
    try clear hfz19_3
    try clear hfz20_0
    try clear hfz20_1
    try clear hfz20_2
    try clear hfz20_3
    obtain ⟨kq, x33_2, rfl, HA, HJ2, BK143, BK144, HB⟩ := hcut
    cases kq with
    | zero => exact absurd HA.out (by simp [interchangeref07_Same.j0])
    | succ kj2 =>
      have H := HA.out
      clear HA
      simp only [interchangeref07_Same.j0] at H
      by_cases c21 : x33_2 = true
      · subst c21
        have H1 : (some false) = some r := by rw [if_pos rfl] at H; exact H
        clear H
        have H := H1
        clear H1
        obtain rfl := Option.some.inj H
        go_wp2
        repeat (go_quiet (fail); try go_wp2)
        go_ret
        exact ⟨by first | rfl | (simp [errW_none, errW_some] <;> rfl) | (simp [*, errW_none, errW_some] <;> rfl), by repeat (first | (with_reducible first | exact HB.out | apply below_alloc | apply pw_below_drewN | apply below_drew1 | refine below_set ?_ GE143.out | refine below_set ?_ GE144.out) | exact HB.out)⟩
      · replace c21 := Bool.eq_false_iff.mpr c21
        subst c21
        have H1 : (interchangeref07_Same.l0 kj2 0 a0_0 a0_1 a0_2 l0_3 a1_0 a1_1 a1_2 l1_3) = some r := by rw [if_neg (show ¬ (false = true) by decide)] at H; exact H
        clear H
        have H := H1
        clear H1
        have H' := Aside0.mk H
        clear H
        go_wp2
        repeat (go_quiet (fail); try go_wp2)
        go_loopg [5] kj2 (fun kq v5 w' => ∃ (x5_2 : Int), v5 = .int .i64 x5_2 ∧ Aside0 (interchangeref07_Same.l0 kq x5_2 a0_0 a0_1 a0_2 l0_3 a1_0 a1_1 a1_2 l1_3 = some r) ∧ Aside0 (kq ≤ kj2) ∧ Aside0 (w'.heap[gb143]? = some (.cells #[.int .i64 a0_0, .int .u64 a0_1, .int .u64 a0_2, (.slice A0_3 l0_3.length c0_3)] 25 (0, 0))) ∧ Aside0 (w'.heap[gb144]? = some (.cells #[.int .i64 a1_0, .int .u64 a1_1, .int .u64 a1_2, (.slice A1_3 l1_3.length c1_3)] 25 (0, 0))) ∧ Aside0 (Below w.heap.size w w'))
        case atStart => exact ⟨(0), (by first | rfl | (simp; done) | (simp [*]; done)), H', ⟨Nat.le_refl _⟩, ⟨by (with_reducible repeat (first | refine blk_drewN ?_ _ | refine blk_drew ?_ | refine blk_alloc ?_ _)); exact BK143.out⟩, ⟨by (with_reducible repeat (first | refine blk_drewN ?_ _ | refine blk_drew ?_ | refine blk_alloc ?_ _)); exact BK144.out⟩, ⟨by repeat (first | (with_reducible first | exact HB.out | apply below_alloc | apply pw_below_drewN | apply below_drew1 | refine below_set ?_ GE143.out | refine below_set ?_ GE144.out) | exact HB.out)⟩⟩
        case round =>
          clear H'
          try clear c1
          try clear c2
          try clear p2
          try clear c6
          try clear c6b0
          try clear c6b1
          try clear c7
          try clear c7b0
          try clear c7b1
          try clear c8
          try clear c8b0
          try clear c8b1
          try clear c9
          try clear c12
          try clear c13
          try clear c15
          try clear c18
          try clear c21
          try clear hcz10_0
          try clear hcz10_1
          try clear hcz10_2
          try clear hcz10_3
          try clear hcz11_0
          try clear hcz11_1
          try clear hcz11_2
          try clear hcz11_3
          try clear hcz13_0
          try clear hcz13_1
          try clear hcz13_2
          try clear hcz13_3
          try clear hcz14_0
          try clear hcz14_1
          try clear hcz14_2
          try clear hcz14_3
          try clear hcz16_0
          try clear hcz16_1
          try clear hcz16_2
          try clear hcz16_3
          try clear hcz17_0
          try clear hcz17_1
          try clear hcz17_2
          try clear hcz17_3
          try clear hcz19_0
          try clear hcz19_1
          try clear hcz19_2
          try clear hcz19_3
          try clear hcz20_0
          try clear hcz20_1
          try clear hcz20_2
          try clear hcz20_3
          try clear hfz10_0
          try clear hfz10_1
          try clear hfz10_2
          try clear hfz10_3
          try clear hfz11_0
          try clear hfz11_1
          try clear hfz11_2
          try clear hfz11_3
          try clear hfz13_0
          try clear hfz13_1
          try clear hfz13_2
          try clear hfz13_3
          try clear hfz14_0
          try clear hfz14_1
          try clear hfz14_2
          try clear hfz14_3
          try clear hfz16_0
          try clear hfz16_1
          try clear hfz16_2
          try clear hfz16_3
          try clear hfz17_0
          try clear hfz17_1
          try clear hfz17_2
          try clear hfz17_3
          try clear hfz19_0
          try clear hfz19_1
          try clear hfz19_2
          try clear hfz19_3
          try clear hfz20_0
          try clear hfz20_1
          try clear hfz20_2
          try clear hfz20_3
          try clear p2
          obtain ⟨x5_2, rfl, HA, HK2, BK143, BK144, HB⟩ := hrel
          cases gk with
          | zero => exact absurd HA.out (by simp [interchangeref07_Same.l0])
          | succ k2 =>
            have H := HA.out
            clear HA
            simp only [interchangeref07_Same.l0] at H
            by_cases c22 : x5_2 < (l0_3.length : Int)
            · rw [if_pos c22] at H
              have c22b0 : decide (x5_2 < (l0_3.length : Int)) = true := decide_eq_true c22
              clear c22
              by_cases c23 : 0 ≤ x5_2
              · rw [if_pos c23] at H
                have c23b0 : decide (0 ≤ x5_2) = true := decide_eq_true c23
                clear c23
                by_cases c24 : x5_2 < (l1_3.length : Int)
                · rw [if_pos c24] at H
                  have c24b0 : decide (x5_2 < (l1_3.length : Int)) = true := decide_eq_true c24
                  clear c24
                  by_cases c25 : (!(((rd_T42 l0_3 x5_2).f0) == ((rd_T42 l1_3 x5_2).f0)) || (!((((rd_T42 l0_3 x5_2).f1).toList) == (((rd_T42 l1_3 x5_2).f1).toList)))) = true
                  · rw [if_pos c25] at H
                    have c25b0 : (!(((rd_T42 l0_3 x5_2).f0) == ((rd_T42 l1_3 x5_2).f0)) || (!((((rd_T42 l0_3 x5_2).f1).toList) == (((rd_T42 l1_3 x5_2).f1).toList)))) = true := c25
                    clear c25
                    obtain rfl := Option.some.inj H
                    have hnb26 := NB143_144.out
                    have hnc26 := NB144_143.out
                    have hcz27_0 : wr.cell? ⟨gb143, 0, none⟩ = some (.int .i64 a0_0) := (blk_cell BK143.out 0).trans rfl
                    have hcz27_1 : wr.cell? ⟨gb143, 1, none⟩ = some (.int .u64 a0_1) := (blk_cell BK143.out 1).trans rfl
                    have hcz27_2 : wr.cell? ⟨gb143, 2, none⟩ = some (.int .u64 a0_2) := (blk_cell BK143.out 2).trans rfl
                    have hcz27_3 : wr.cell? ⟨gb143, 3, none⟩ = some (.slice A0_3 l0_3.length c0_3) := (blk_cell BK143.out 3).trans rfl
                    have hfz27_0 := blk_frozen BK143.out 0
                    have hfz27_1 := blk_frozen BK143.out 1
                    have hfz27_2 := blk_frozen BK143.out 2
                    have hfz27_3 := blk_frozen BK143.out 3
                    have p145 : 0 ≤ (x5_2 : Int) := of_decide_eq_true (by first | (with_reducible assumption) | assumption)
                    have q145 : x5_2 < (l0_3.length : Int) := of_decide_eq_true (by first | (with_reducible assumption) | assumption)
                    obtain ⟨ad145, e145, hx145_0, hx145_1⟩ := at_T42 HR0_3.out x5_2 p145 q145
                    cases e145
                    replace hx145_0 := (HB.out.cell (World.block_lt_of_cell? w _ hx145_0)).trans hx145_0
                    replace hx145_1 := (HB.out.cell (World.block_lt_of_cell? w _ hx145_1)).trans hx145_1
                    replace p145 := eq_true p145
                    replace q145 := eq_true q145
                    have hcz28_0 : wr.cell? ⟨gb144, 0, none⟩ = some (.int .i64 a1_0) := (blk_cell BK144.out 0).trans rfl
                    have hcz28_1 : wr.cell? ⟨gb144, 1, none⟩ = some (.int .u64 a1_1) := (blk_cell BK144.out 1).trans rfl
                    have hcz28_2 : wr.cell? ⟨gb144, 2, none⟩ = some (.int .u64 a1_2) := (blk_cell BK144.out 2).trans rfl
                    have hcz28_3 : wr.cell? ⟨gb144, 3, none⟩ = some (.slice A1_3 l1_3.length c1_3) := (blk_cell BK144.out 3).trans rfl
                    have hfz28_0 := blk_frozen BK144.out 0
                    have hfz28_1 := blk_frozen BK144.out 1
                    have hfz28_2 := blk_frozen BK144.out 2
                    have hfz28_3 := blk_frozen BK144.out 3
                    have p146 : 0 ≤ (x5_2 : Int) := of_decide_eq_true (by first | (with_reducible assumption) | assumption)
                    have q146 : x5_2 < (l1_3.length : Int) := of_decide_eq_true (by first | (with_reducible assumption) | assumption)
                    obtain ⟨ad146, e146, hx146_0, hx146_1⟩ := at_T42 HR1_3.out x5_2 p146 q146
                    cases e146
                    replace hx146_0 := (HB.out.cell (World.block_lt_of_cell? w _ hx146_0)).trans hx146_0
                    replace hx146_1 := (HB.out.cell (World.block_lt_of_cell? w _ hx146_1)).trans hx146_1
                    replace p146 := eq_true p146
                    replace q146 := eq_true q146
                    go_wp2
                    repeat (go_quiet (fail); try go_wp2)
                    go_ret
                    exact ⟨by first | rfl | (simp [errW_none, errW_some] <;> rfl) | (simp [*, errW_none, errW_some] <;> rfl), by repeat (first | (with_reducible first | exact HB.out | apply below_alloc | apply pw_below_drewN | apply below_drew1 | refine below_set ?_ GE143.out | refine below_set ?_ GE144.out) | exact HB.out)⟩
                  · rw [if_neg c25] at H
                    have c25b0 : (!(((rd_T42 l0_3 x5_2).f0) == ((rd_T42 l1_3 x5_2).f0)) || (!((((rd_T42 l0_3 x5_2).f1).toList) == (((rd_T42 l1_3 x5_2).f1).toList)))) = false := by simpa using c25
                    clear c25
                    have H' := Aside0.mk H
                    clear H
                    have hnb29 := NB143_144.out
                    have hnc29 := NB144_143.out
                    have hcz30_0 : wr.cell? ⟨gb143, 0, none⟩ = some (.int .i64 a0_0) := (blk_cell BK143.out 0).trans rfl
                    have hcz30_1 : wr.cell? ⟨gb143, 1, none⟩ = some (.int .u64 a0_1) := (blk_cell BK143.out 1).trans rfl
                    have hcz30_2 : wr.cell? ⟨gb143, 2, none⟩ = some (.int .u64 a0_2) := (blk_cell BK143.out 2).trans rfl
                    have hcz30_3 : wr.cell? ⟨gb143, 3, none⟩ = some (.slice A0_3 l0_3.length c0_3) := (blk_cell BK143.out 3).trans rfl
                    have hfz30_0 := blk_frozen BK143.out 0
                    have hfz30_1 := blk_frozen BK143.out 1
                    have hfz30_2 := blk_frozen BK143.out 2
                    have hfz30_3 := blk_frozen BK143.out 3
                    have p145 : 0 ≤ (x5_2 : Int) := of_decide_eq_true (by first | (with_reducible assumption) | assumption)
                    have q145 : x5_2 < (l0_3.length : Int) := of_decide_eq_true (by first | (with_reducible assumption) | assumption)
                    obtain ⟨ad145, e145, hx145_0, hx145_1⟩ := at_T42 HR0_3.out x5_2 p145 q145
                    cases e145
                    replace hx145_0 := (HB.out.cell (World.block_lt_of_cell? w _ hx145_0)).trans hx145_0
                    replace hx145_1 := (HB.out.cell (World.block_lt_of_cell? w _ hx145_1)).trans hx145_1
                    replace p145 := eq_true p145
                    replace q145 := eq_true q145
                    have hcz31_0 : wr.cell? ⟨gb144, 0, none⟩ = some (.int .i64 a1_0) := (blk_cell BK144.out 0).trans rfl
                    have hcz31_1 : wr.cell? ⟨gb144, 1, none⟩ = some (.int .u64 a1_1) := (blk_cell BK144.out 1).trans rfl
                    have hcz31_2 : wr.cell? ⟨gb144, 2, none⟩ = some (.int .u64 a1_2) := (blk_cell BK144.out 2).trans rfl
                    have hcz31_3 : wr.cell? ⟨gb144, 3, none⟩ = some (.slice A1_3 l1_3.length c1_3) := (blk_cell BK144.out 3).trans rfl
                    have hfz31_0 := blk_frozen BK144.out 0
                    have hfz31_1 := blk_frozen BK144.out 1
                    have hfz31_2 := blk_frozen BK144.out 2
                    have hfz31_3 := blk_frozen BK144.out 3
                    have p146 : 0 ≤ (x5_2 : Int) := of_decide_eq_true (by first | (with_reducible assumption) | assumption)
                    have q146 : x5_2 < (l1_3.length : Int) := of_decide_eq_true (by first | (with_reducible assumption) | assumption)
                    obtain ⟨ad146, e146, hx146_0, hx146_1⟩ := at_T42 HR1_3.out x5_2 p146 q146
                    cases e146
                    replace hx146_0 := (HB.out.cell (World.block_lt_of_cell? w _ hx146_0)).trans hx146_0
                    replace hx146_1 := (HB.out.cell (World.block_lt_of_cell? w _ hx146_1)).trans hx146_1
                    replace p146 := eq_true p146
                    replace q146 := eq_true q146
                    go_wp2
                    repeat (go_quiet (fail); try go_wp2)
                    go_roundg k2
                    case measure => have := HJ2.out; have := HK2.out; omega
                    case rel => exact ⟨(wrap64 (x5_2 + 1)), (by first | rfl | (simp; done) | (simp [*]; done)), H', ⟨by have := HJ2.out; have := HK2.out; omega⟩, ⟨by (with_reducible repeat (first | refine blk_drewN ?_ _ | refine blk_drew ?_ | refine blk_alloc ?_ _)); exact BK143.out⟩, ⟨by (with_reducible repeat (first | refine blk_drewN ?_ _ | refine blk_drew ?_ | refine blk_alloc ?_ _)); exact BK144.out⟩, ⟨by repeat (first | (with_reducible first | exact HB.out | apply below_alloc | apply pw_below_drewN | apply below_drew1 | refine below_set ?_ GE143.out | refine below_set ?_ GE144.out) | exact HB.out)⟩⟩
                · rw [if_neg c24] at H
                  exact absurd H (by simp)
              · rw [if_neg c23] at H
                exact absurd H (by simp)
            · rw [if_neg c22] at H
              have c22b0 : decide (x5_2 < (l0_3.length : Int)) = false := decide_eq_false c22
              clear c22
              obtain rfl := Option.some.inj H
              have hnb32 := NB143_144.out
              have hnc32 := NB144_143.out
              have hcz33_0 : wr.cell? ⟨gb143, 0, none⟩ = some (.int .i64 a0_0) := (blk_cell BK143.out 0).trans rfl
              have hcz33_1 : wr.cell? ⟨gb143, 1, none⟩ = some (.int .u64 a0_1) := (blk_cell BK143.out 1).trans rfl
              have hcz33_2 : wr.cell? ⟨gb143, 2, none⟩ = some (.int .u64 a0_2) := (blk_cell BK143.out 2).trans rfl
              have hcz33_3 : wr.cell? ⟨gb143, 3, none⟩ = some (.slice A0_3 l0_3.length c0_3) := (blk_cell BK143.out 3).trans rfl
              have hfz33_0 := blk_frozen BK143.out 0
              have hfz33_1 := blk_frozen BK143.out 1
              have hfz33_2 := blk_frozen BK143.out 2
              have hfz33_3 := blk_frozen BK143.out 3
              go_wp2
              repeat (go_quiet (fail); try go_wp2)
              go_ret
              exact ⟨by first | rfl | (simp [errW_none, errW_some] <;> rfl) | (simp [*, errW_none, errW_some] <;> rfl), by repeat (first | (with_reducible first | exact HB.out | apply below_alloc | apply pw_below_drewN | apply below_drew1 | refine below_set ?_ GE143.out | refine below_set ?_ GE144.out) | exact HB.out)⟩


end Go.Proofs.YthpfcplhlhnfeaaDoor.F
namespace Go.Proofs.YthpfcplhlhnfeaaDoor.F
open Go.RowKit Go.Proofs.YthpfcplhlhnfeaaDoorW.PrintWords Go.Proofs.YthpfcplhlhnfeaaDoorW.PrintLast Go.Proofs.YthpfcplhlhnfeaaDoorW.PrintMore
set_option linter.unusedVariables false
set_option linter.unusedSimpArgs false
set_option maxRecDepth 4000
def eqV (x y : S42) : Bool := (x.f0 == y.f0) && (x.f1.toList == y.f1.toList)
def eqL : List S42 → List S42 → Bool
  | [], [] => true
  | x :: xs, y :: ys => eqV x y && eqL xs ys
  | _, _ => false
theorem eqV_refl (x : S42) : eqV x x = true := by unfold eqV; rw [beq_iff_eq.2 rfl, beq_iff_eq.2 rfl]; rfl
theorem eqL_refl : ∀ l, eqL l l = true
  | [] => rfl
  | x :: l => by rw [eqL, eqV_refl, eqL_refl l]; rfl
theorem eqL_len : ∀ l l', l.length ≠ l'.length → eqL l l' = false
  | [], [], h => absurd rfl h
  | [], _ :: _, _ => rfl
  | _ :: _, [], _ => rfl
  | x :: l, y :: l', h => by
    rw [eqL, eqL_len l l' (by simpa using h)]
    exact Bool.and_false _
theorem drop_val (l : List S42) (i : Nat) (h : i < l.length) : l.drop i = l.getD i z42 :: l.drop (i + 1) := by
  rw [List.drop_eq_getElem_cons h]
  simp [h]
theorem same_loop (a b fl a' b' fl' : Int) (l l' : List S42) (hl : l.length = l'.length) (hz : l.length ≤ 4503599627370496) : ∀ (d i k : Nat), l.length = i + d → d < k →
    interchangeref07_Same.l0 k (i : Int) a b fl l a' b' fl' l' = some (eqL (l.drop i) (l'.drop i)) := by
  intro d
  induction d with
  | zero =>
    intro i k h hk
    obtain ⟨k, rfl⟩ : ∃ j, k = j + 1 := ⟨k - 1, by omega⟩
    rw [interchangeref07_Same.l0, if_neg (by omega), List.drop_of_length_le (by omega), List.drop_of_length_le (by omega)]
    rfl
  | succ d ih =>
    intro i k h hk
    obtain ⟨k, rfl⟩ : ∃ j, k = j + 1 := ⟨k - 1, by omega⟩
    have r1 : rd_T42 l (i : Int) = l.getD i z42 := by unfold rd_T42; rw [Int.toNat_natCast]
    have r2 : rd_T42 l' (i : Int) = l'.getD i z42 := by unfold rd_T42; rw [Int.toNat_natCast]
    rw [interchangeref07_Same.l0, if_pos (by omega), if_pos (by omega), if_pos (by omega), w_succ (i := i) (by omega), r1, r2, drop_val l i (by omega), drop_val l' i (by omega), eqL, ih (i + 1) k (by omega) (by omega)]
    generalize l.getD i z42 = x
    generalize l'.getD i z42 = y
    unfold eqV
    cases (x.f0 == y.f0) <;> cases (x.f1.toList == y.f1.toList) <;> rfl
def sameB (a b fl : Int) (l : List S42) (a' b' fl' : Int) (l' : List S42) : Bool := decide (a = a') && decide (b = b') && decide (fl = fl') && eqL l l'
theorem Same_k {k : Nat} (a b fl : Int) (l : List S42) (a' b' fl' : Int) (l' : List S42) (hk : l.length + 3 ≤ k) (hz : l.length ≤ 4503599627370496) : interchangeref07_Same.f k a b fl l a' b' fl' l' = some (sameB a b fl l a' b' fl' l') := by
  obtain ⟨k, rfl⟩ : ∃ j, k = j + 1 := ⟨k - 1, by omega⟩
  have hj : interchangeref07_Same.j0 (k + 1) true a b fl l a' b' fl' l' = some false := by rw [interchangeref07_Same.j0, if_pos rfl]
  unfold interchangeref07_Same.f sameB
  by_cases e1 : a = a'
  · rw [if_pos e1, decide_eq_true e1, Bool.true_and]
    by_cases e2 : b = b'
    · rw [if_pos e2, decide_eq_true e2, Bool.true_and]
      by_cases e3 : fl = fl'
      · rw [if_pos e3, decide_eq_true e3, Bool.true_and]
        by_cases e4 : l.length = l'.length
        · have h0 := same_loop a b fl a' b' fl' l l' e4 hz l.length 0 k (by omega) (by omega)
          rw [interchangeref07_Same.j0, if_neg (by simp [e4])]
          exact h0
        · rw [eqL_len l l' e4, interchangeref07_Same.j0, if_pos (bne_iff_ne.2 (by omega))]
      · rw [if_neg e3, decide_eq_false e3, Bool.false_and, hj]
    · rw [if_neg e2, decide_eq_false e2, Bool.false_and, Bool.false_and, hj]
  · rw [if_neg e1, decide_eq_false e1, Bool.false_and, Bool.false_and, Bool.false_and, hj]
theorem sameB_refl (a b fl : Int) (l : List S42) : sameB a b fl l a b fl l = true := by
  unfold sameB
  rw [decide_eq_true rfl, decide_eq_true rfl, decide_eq_true rfl, eqL_refl]
  rfl
end Go.Proofs.YthpfcplhlhnfeaaDoor.F
namespace Go.Proofs.YthpfcplhlhnfeaaDoor.F
open Go.RowKit Go.Proofs.YthpfcplhlhnfeaaDoorW.PrintWords Go.Proofs.YthpfcplhlhnfeaaDoorW.PrintLast Go.Proofs.YthpfcplhlhnfeaaDoorW.PrintMore
set_option linter.unusedVariables false
set_option linter.unusedSimpArgs false
set_option maxRecDepth 4000
theorem hasB_nat (x : Nat) (k : Nat) : hasB (x : Int) k = x.testBit (15 - k) := by
  unfold hasB
  rw [Nat.testBit_eq_decide_div_mod_eq]
  have e : (x : Int) / 2 ^ (15 - k) % 2 = ((x / 2 ^ (15 - k) % 2 : Nat) : Int) := by simp
  rw [e]
  by_cases h : x / 2 ^ (15 - k) % 2 = 1
  · rw [decide_eq_true h, decide_eq_true (by omega)]
  · rw [decide_eq_false h, decide_eq_false (by omega)]
theorem has_set {fl : Int} (h : 0 ≤ fl ∧ fl < 18446744073709551616) {i k : Nat} (hi : i < 14) (hk : k < 14) : hasB (setFl fl (i : Int)) k = (hasB fl k || decide (k = i)) := by
  obtain ⟨h1, h2⟩ := setFl_nat h hi
  obtain ⟨x, rfl⟩ := Int.eq_ofNat_of_zero_le h.1
  rw [h1, hasB_nat, hasB_nat, Int.toNat_natCast, Nat.testBit_or, Nat.testBit_two_pow]
  congr 1
  by_cases e : k = i
  · rw [decide_eq_true e, decide_eq_true (by omega)]
  · rw [decide_eq_false e, decide_eq_false (by omega)]
theorem which_congr {fl fl' : Int} (h : ∀ k, k < 14 → hasB fl k = hasB fl' k) : ∀ d i, d = 14 - i → whichF fl i = whichF fl' i := by
  intro d
  induction d with
  | zero => intro i hd; rw [whichF_end fl i (by omega), whichF_end fl' i (by omega)]
  | succ d ih =>
    intro i hd
    rw [whichF_step fl i (by omega), whichF_step fl' i (by omega), h i (by omega), ih (i + 1) (by omega)]
theorem which_mem (fl : Int) (k : Nat) : ∀ d i, d = 14 - i → (k ∈ whichF fl i ↔ i ≤ k ∧ k < 14 ∧ hasB fl k = true) := by
  intro d
  induction d with
  | zero =>
    intro i hd
    rw [whichF_end fl i (by omega)]
    constructor
    · intro h; cases h
    · rintro ⟨h1, h2, _⟩; omega
  | succ d ih =>
    intro i hd
    have hi := ih (i + 1) (by omega)
    rw [whichF_step fl i (by omega)]
    by_cases e : hasB fl i = true
    · rw [if_pos e, List.mem_cons, hi]
      constructor
      · rintro (rfl | ⟨h1, h2, h3⟩)
        · exact ⟨Nat.le_refl _, by omega, e⟩
        · exact ⟨by omega, h2, h3⟩
      · rintro ⟨h1, h2, h3⟩
        by_cases e2 : k = i
        · exact .inl e2
        · exact .inr ⟨by omega, h2, h3⟩
    · rw [if_neg e, hi]
      constructor
      · rintro ⟨h1, h2, h3⟩
        exact ⟨by omega, h2, h3⟩
      · rintro ⟨h1, h2, h3⟩
        have : ¬ k = i := fun e2 => e (e2 ▸ h3)
        exact ⟨by omega, h2, h3⟩
theorem which_mem0 (fl : Int) (k : Nat) : k ∈ whichF fl 0 ↔ k < 14 ∧ hasB fl k = true := by
  rw [which_mem fl k 14 0 rfl]
  exact ⟨fun h => h.2, fun h => ⟨Nat.zero_le _, h⟩⟩
theorem drop_getD {l : List S42} {n : Nat} {x : S42} {t : List S42} (h : l.drop n = x :: t) : l.getD n z42 = x ∧ l.drop (n + 1) = t := by
  have hn : n < l.length := by
    by_cases e : n < l.length
    · exact e
    · rw [List.drop_of_length_le (by omega)] at h; cases h
  rw [drop_val l n hn] at h
  exact ⟨(List.cons.inj h).1, (List.cons.inj h).2⟩
/-- the property's value where the values are those of a function -/
theorem getGo_map (f : Nat → S42) (l : List S42) (i : Nat) : ∀ (ks : List Nat) (n : Nat), l.drop n = ks.map f → getGo l (i : Int) ks n = if i ∈ ks then ((f i).f0, (f i).f1, true) else (0, ⟨#[]⟩, false)
  | [], _, _ => rfl
  | k :: ks, n, h => by
    obtain ⟨h1, h2⟩ := drop_getD h
    rw [getGo, h1]
    by_cases e : k = i
    · rw [if_pos (by omega), if_pos (by rw [e]; exact List.mem_cons_self ..), e]
    · rw [if_neg (by omega), getGo_map f l i ks (n + 1) h2]
      by_cases e2 : i ∈ ks
      · rw [if_pos e2, if_pos (List.mem_cons_of_mem _ e2)]
      · rw [if_neg e2, if_neg (fun hm => (List.mem_cons.1 hm).elim (fun hh => e hh.symm) e2)]
theorem getGo_none (l : List S42) (i : Int) : ∀ (ks : List Nat) (n : Nat), (∀ k ∈ ks, ¬ (k : Int) = i) → getGo l i ks n = (0, ⟨#[]⟩, false)
  | [], _, _ => rfl
  | k :: ks, n, h => by
    rw [getGo, if_neg (h k (List.mem_cons_self ..))]
    exact getGo_none l i ks (n + 1) fun q hq => h q (List.mem_cons_of_mem _ hq)
theorem valsGo_map (f : Nat → S42) (l : List S42) : ∀ (ks : List Nat) (n : Nat), l.drop n = ks.map f → (∀ k ∈ ks, rightR (letN k) (f k).f0 (f k).f1 = 0) → valsGo l ks n = 0
  | [], _, _, _ => rfl
  | k :: ks, n, h, hk => by
    obtain ⟨h1, h2⟩ := drop_getD h
    rw [valsGo, h1, if_pos (hk k (List.mem_cons_self ..))]
    exact valsGo_map f l ks (n + 1) h2 fun q hq => hk q (List.mem_cons_of_mem _ hq)
/-- what is got of right values is right, and there -/
theorem getGo_right (l : List S42) (i : Nat) : ∀ (ks : List Nat) (n : Nat), n + ks.length ≤ l.length → valsGo l ks n = 0 → i ∈ ks → ∃ m, m < l.length ∧ getGo l (i : Int) ks n = ((l.getD m z42).f0, (l.getD m z42).f1, true) ∧ rightR (letN i) (l.getD m z42).f0 (l.getD m z42).f1 = 0
  | [], _, _, _, h => by cases h
  | k :: ks, n, hl, hv, h => by
    rw [List.length_cons] at hl
    rw [valsGo] at hv
    by_cases e0 : rightR (letN k) (l.getD n z42).f0 (l.getD n z42).f1 = 0
    · rw [if_pos e0] at hv
      rw [getGo]
      by_cases e : k = i
      · rw [if_pos (by omega)]
        exact ⟨n, by omega, rfl, e ▸ e0⟩
      · rw [if_neg (by omega)]
        exact getGo_right l i ks (n + 1) (by omega) hv ((List.mem_cons.1 h).elim (fun hh => absurd hh.symm e) id)
    · rw [if_neg e0] at hv
      exact absurd hv e0
/-- what is got -/
theorem get_has {a b fl : Int} {l : List S42} (ok : okH b fl l) (hR : RightR a b fl l = 0) {k : Nat} (hk : k < 14) (hh : hasB fl k = true) :
    okV ⟨(getR a b fl l (k : Int)).1, (getR a b fl l (k : Int)).2.1⟩ ∧ (getR a b fl l (k : Int)).2.2 = true ∧ rightR (letN k) (getR a b fl l (k : Int)).1 (getR a b fl l (k : Int)).2.1 = 0 := by
  obtain ⟨hf, -, hv⟩ := right_form hR
  obtain ⟨m, hm, h1, h2⟩ := getGo_right l k (whichF fl 0) 0 (by rw [hf.2.2.2]; omega) hv ((which_mem0 fl k).2 ⟨hk, hh⟩)
  have hg : getR a b fl l (k : Int) = ((l.getD m z42).f0, (l.getD m z42).f1, true) := by
    unfold getR
    rw [if_pos hR]
    exact h1
  rw [hg]
  exact ⟨okH.at ok hm, rfl, h2⟩
theorem get_hasnot {a b fl : Int} {l : List S42} {i : Int} (h : ∀ k : Nat, (k : Int) = i → k < 14 → ¬ hasB fl k = true) : getR a b fl l i = (0, ⟨#[]⟩, false) := by
  unfold getR
  split
  · exact getGo_none l i _ 0 fun k hk e => h k e ((which_mem0 fl k).1 hk).1 ((which_mem0 fl k).1 hk).2
  · rfl
theorem get_wrong {a b fl : Int} {l : List S42} (h : ¬ RightR a b fl l = 0) (i : Int) : getR a b fl l i = (0, ⟨#[]⟩, false) := by
  unfold getR
  rw [if_neg h]
/-- the new head's values -/
def setL (a b fl : Int) (l : List S42) (i : Nat) (v : S42) : List S42 := (whichF (setFl fl (i : Int)) 0).map (setV a b fl l (i : Int) v)
theorem setV_at (a b fl : Int) (l : List S42) (i : Nat) (v : S42) : setV a b fl l (i : Int) v i = v := by
  unfold setV
  rw [if_pos (.inl rfl)]
theorem setV_other {a b fl : Int} {l : List S42} (ok : okH b fl l) (hR : RightR a b fl l = 0) {i k : Nat} (v : S42) (hk : k < 14) (hh : hasB fl k = true) (hne : ¬ k = i) : setV a b fl l (i : Int) v k = ⟨(getR a b fl l (k : Int)).1, (getR a b fl l (k : Int)).2.1⟩ := by
  unfold setV
  rw [if_neg (fun h => h.elim (fun h => hne (by omega)) (fun h => h (get_has ok hR hk hh).2.1))]
theorem set_ok {a b fl : Int} {l : List S42} (ok : okH b fl l) (hR : RightR a b fl l = 0) {i : Nat} (hi : i < 14) {v : S42} (hv : okV v) : okH b (setFl fl (i : Int)) (setL a b fl l i v) := by
  refine ⟨ok.1, setFl_range ok.2.1 hi, ?_, ?_⟩
  · unfold setL
    rw [List.length_map]
    have := whichF_len (setFl fl (i : Int))
    omega
  · intro x hx
    obtain ⟨k, hk, rfl⟩ := List.mem_map.1 hx
    obtain ⟨h1, h2⟩ := (which_mem0 _ k).1 hk
    rw [has_set ok.2.1 hi h1] at h2
    by_cases e : k = i
    · rw [e, setV_at]; exact hv
    · rw [decide_eq_false e, Bool.or_false] at h2
      rw [setV_other ok hR v h1 h2 e]
      exact (get_has ok hR h1 h2).1
theorem set_flags {fl : Int} (h0 : 0 ≤ fl) (h : fl ≤ 65535) (h4 : fl % 4 = 0) {i : Nat} (hi : i < 14) : setFl fl (i : Int) ≤ 65535 ∧ setFl fl (i : Int) % 4 = 0 := by
  obtain ⟨h1, -⟩ := setFl_nat (fl := fl) ⟨h0, by omega⟩ hi
  obtain ⟨x, rfl⟩ := Int.eq_ofNat_of_zero_le h0
  rw [h1, Int.toNat_natCast]
  have hx : x < 2 ^ 16 := by have : (2 : Nat) ^ 16 = 65536 := by decide
                             omega
  have hp : 2 ^ (15 - i) < 2 ^ 16 := Nat.pow_lt_pow_right (by decide) (by omega)
  have hor := Nat.or_lt_two_pow hx hp
  have h16 : (2 : Nat) ^ 16 = 65536 := by decide
  have hm : (x ||| 2 ^ (15 - i)) % 2 ^ 2 = 0 := by
    rw [Nat.or_mod_two_pow]
    have e1 : x % 2 ^ 2 = 0 := by have : (2 : Nat) ^ 2 = 4 := by decide
                                  omega
    have e2 : 2 ^ (15 - i) % 2 ^ 2 = 0 := by
      obtain ⟨m, hm⟩ : ∃ m, 15 - i = 2 + m := ⟨13 - i, by omega⟩
      rw [hm, Nat.pow_add]
      exact Nat.mul_mod_right _ _
    rw [e1, e2]
    rfl
  have h2 : (2 : Nat) ^ 2 = 4 := by decide
  rw [h2] at hm
  constructor
  · omega
  · omega
theorem set_right {a b fl : Int} {l : List S42} (ok : okH b fl l) (hR : RightR a b fl l = 0) {i : Nat} (hi : i < 14) {v : S42} (hv : rightR (letN i) v.f0 v.f1 = 0) : RightR a b (setFl fl (i : Int)) (setL a b fl l i v) = 0 := by
  obtain ⟨hf, hb, -⟩ := right_form hR
  obtain ⟨g1, g2⟩ := set_flags ok.2.1.1 hf.2.1 hf.2.2.1 hi
  unfold RightR
  rw [if_pos (show FormR a (setFl fl (i : Int)) (setL a b fl l i v) from ⟨hf.1, g1, g2, by unfold setL; rw [List.length_map]⟩), if_neg hb]
  unfold valuesR
  refine valsGo_map (setV a b fl l (i : Int) v) _ _ 0 rfl ?_
  intro k hk
  obtain ⟨h1, h2⟩ := (which_mem0 _ k).1 hk
  rw [has_set ok.2.1 hi h1] at h2
  by_cases e : k = i
  · rw [e, setV_at]; exact hv
  · rw [decide_eq_false e, Bool.or_false] at h2
    rw [setV_other ok hR v h1 h2 e]
    exact (get_has ok hR h1 h2).2.2
theorem set_get {a b fl : Int} {l : List S42} (ok : okH b fl l) (hR : RightR a b fl l = 0) {i : Nat} (hi : i < 14) {v : S42} (hv : rightR (letN i) v.f0 v.f1 = 0) (k : Int) : getR a b (setFl fl (i : Int)) (setL a b fl l i v) k = if k = (i : Int) then (v.f0, v.f1, true) else getR a b fl l k := by
  have hR2 := set_right ok hR hi hv
  by_cases hk : 0 ≤ k ∧ k < 14
  · obtain ⟨n, rfl⟩ := Int.eq_ofNat_of_zero_le hk.1
    have hn : n < 14 := by omega
    have hg : getR a b (setFl fl (i : Int)) (setL a b fl l i v) (n : Int) = getGo (setL a b fl l i v) (n : Int) (whichF (setFl fl (i : Int)) 0) 0 := by
      conv => lhs; unfold getR
      rw [if_pos hR2]
    have hgm := getGo_map (setV a b fl l (i : Int) v) (setL a b fl l i v) n (whichF (setFl fl (i : Int)) 0) 0 rfl
    rw [hg, hgm]
    by_cases e : n = i
    · rw [if_pos ((which_mem0 _ n).2 ⟨hn, by rw [has_set ok.2.1 hi hn, decide_eq_true e, Bool.or_true]⟩), if_pos (by omega), e, setV_at]
    · rw [if_neg (show ¬ (n : Int) = (i : Int) by omega)]
      by_cases e2 : hasB fl n = true
      · rw [if_pos ((which_mem0 _ n).2 ⟨hn, by rw [has_set ok.2.1 hi hn, e2]; rfl⟩), setV_other ok hR v hn e2 e]
        have h3 := (get_has ok hR hn e2).2.1
        generalize getR a b fl l (n : Int) = G at h3
        obtain ⟨x, y, z⟩ := G
        dsimp only at h3
        rw [h3]
      · rw [if_neg (fun hm => by
          have := ((which_mem0 _ n).1 hm).2
          rw [has_set ok.2.1 hi hn, decide_eq_false e, Bool.or_false] at this
          exact e2 this), get_hasnot (a := a) (b := b) (l := l) (i := (n : Int)) (fun q hq _ => by
            obtain rfl : q = n := by omega
            exact e2)]
  · rw [if_neg (by omega), get_hasnot (fun q hq h14 => absurd ⟨by omega, by omega⟩ hk), get_hasnot (fun q hq h14 => absurd ⟨by omega, by omega⟩ hk)]
theorem setFl_comm {fl : Int} (h : 0 ≤ fl ∧ fl < 18446744073709551616) {i k : Nat} (hi : i < 14) (hk : k < 14) : setFl (setFl fl (i : Int)) (k : Int) = setFl (setFl fl (k : Int)) (i : Int) := by
  obtain ⟨h1, -⟩ := setFl_nat h hi
  obtain ⟨h2, -⟩ := setFl_nat h hk
  obtain ⟨h3, -⟩ := setFl_nat (setFl_range h hi) hk
  obtain ⟨h4, -⟩ := setFl_nat (setFl_range h hk) hi
  rw [h3, h4, h1, h2, Int.toNat_natCast, Int.toNat_natCast, Nat.or_assoc, Nat.or_assoc, Nat.or_comm (2 ^ (15 - i))]
theorem set_comm {a b fl : Int} {l : List S42} (ok : okH b fl l) (hR : RightR a b fl l = 0) {i k : Nat} (hi : i < 14) (hk : k < 14) (hne : ¬ i = k) {v u : S42} (okv : okV v) (oku : okV u) (hv : rightR (letN i) v.f0 v.f1 = 0) (hu : rightR (letN k) u.f0 u.f1 = 0) :
    setL a b (setFl fl (i : Int)) (setL a b fl l i v) k u = setL a b (setFl fl (k : Int)) (setL a b fl l k u) i v := by
  conv => lhs; unfold setL
  conv => rhs; unfold setL
  rw [setFl_comm ok.2.1 hi hk]
  refine List.map_congr_left fun q hq => ?_
  have hik : ¬ ((i : Int) = (k : Int)) := by omega
  have hki : ¬ ((k : Int) = (i : Int)) := by omega
  have G1 := set_get ok hR hi hv (q : Int)
  have G2 := set_get ok hR hk hu (q : Int)
  change setV a b (setFl fl (i : Int)) (setL a b fl l i v) (k : Int) u q = setV a b (setFl fl (k : Int)) (setL a b fl l k u) (i : Int) v q
  unfold setV
  rw [G1, G2]
  by_cases e1 : (q : Int) = (i : Int)
  · have e2 : ¬ (q : Int) = (k : Int) := by omega
    rw [if_pos e1, if_neg (fun h => h.elim e2 (fun h => h rfl)), if_neg e2, if_pos (.inl e1)]
  · by_cases e2 : (q : Int) = (k : Int)
    · rw [if_neg e1, if_pos (.inl e2), if_pos e2, if_neg (fun h => h.elim e1 (fun h => h rfl))]
    · rw [if_neg e1, if_neg e2]
      obtain ⟨h1, h2⟩ := (which_mem0 _ q).1 hq
      rw [has_set (setFl_range ok.2.1 hk) hi h1, has_set ok.2.1 hk h1, decide_eq_false (show ¬ q = i by omega), decide_eq_false (show ¬ q = k by omega), Bool.or_false, Bool.or_false] at h2
      have h3 := (get_has ok hR h1 h2).2.1
      rw [if_neg (fun h => h.elim e2 (fun h => h h3)), if_neg (fun h => h.elim e1 (fun h => h h3))]
/-- Set's answer, where it sets -/
theorem set_good {a b fl : Int} {l : List S42} {i : Int} {v : S42} (h : (setR a b fl l i v).2.2.2.2 = 0) : ∃ n : Nat, i = (n : Int) ∧ n < 14 ∧ RightR a b fl l = 0 ∧ rightR (letN n) v.f0 v.f1 = 0 ∧ setR a b fl l i v = (a, b, setFl fl (n : Int), setL a b fl l n v, 0) := by
  unfold setR at *
  by_cases e : i < 0 ∨ 14 ≤ i ∨ ¬ RightR a b fl l = 0
  · rw [if_pos e] at h
    exact absurd h (show ¬ (1 : Int) = 0 by decide)
  · rw [if_neg e] at h ⊢
    have h0 : ¬ i < 0 := fun hh => e (.inl hh)
    have h14 : ¬ 14 ≤ i := fun hh => e (.inr (.inl hh))
    have hR : RightR a b fl l = 0 := by
      by_cases hh : RightR a b fl l = 0
      · exact hh
      · exact absurd (.inr (.inr hh)) e
    obtain ⟨n, rfl⟩ := Int.eq_ofNat_of_zero_le (show 0 ≤ i by omega)
    rw [Int.toNat_natCast] at h ⊢
    by_cases e2 : rightR (letN n) v.f0 v.f1 = 0
    · rw [if_pos e2]
      exact ⟨n, rfl, by omega, hR, e2, rfl⟩
    · rw [if_neg e2] at h
      exact absurd h e2
theorem set_bad {a b fl : Int} {l : List S42} {i : Int} {v : S42} (h : ¬ (setR a b fl l i v).2.2.2.2 = 0) : setR a b fl l i v = (a, b, fl, l, (setR a b fl l i v).2.2.2.2) := by
  unfold setR at *
  split
  · rfl
  · rename_i e
    rw [if_neg e] at h
    split
    · rename_i e2
      rw [if_pos e2] at h
      exact absurd rfl h
    · rfl
theorem setR_ok {a b fl : Int} {l : List S42} (ok : okH b fl l) {i : Int} {v : S42} (hv : okV v) : okH (setR a b fl l i v).2.1 (setR a b fl l i v).2.2.1 (setR a b fl l i v).2.2.2.1 := by
  by_cases h : (setR a b fl l i v).2.2.2.2 = 0
  · obtain ⟨n, rfl, hn, hR, hr, e⟩ := set_good h
    rw [e]
    exact set_ok ok hR hn hv
  · rw [set_bad h]
    exact ok
theorem Set_f {a b fl : Int} {l : List S42} (ok : okH b fl l) (i : Int) {v0 : Int} {v1 : ByteArray} (hv : okV ⟨v0, v1⟩) : props_Set.f a b fl l i v0 v1 = some (setR a b fl l i ⟨v0, v1⟩) := by unfold props_Set.f; rw [if_pos ⟨ok, hv⟩]
end Go.Proofs.YthpfcplhlhnfeaaDoor.F
namespace Go.Proofs.YthpfcplhlhnfeaaDoor.F
open Go.RowKit Go.Proofs.YthpfcplhlhnfeaaDoorW.PrintWords Go.Proofs.YthpfcplhlhnfeaaDoorW.PrintLast Go.Proofs.YthpfcplhlhnfeaaDoorW.PrintMore
attribute [local go_sem] max2_int min2_int max_two min_two max_three min_three max_four min_four
set_option linter.unusedVariables false
set_option linter.unusedSimpArgs false
set_option maxRecDepth 4000
set_option linter.unnecessarySimpa false

/-! ### props_value: function 29 -/
def props_value.f (k : Nat) (a0 : Int) (a1 : ByteArray) : Option (Int × ByteArray × ByteArray × Int) := if a0 = 111 then ((num_Take.f k a1 1).bind fun bt131 => (some (bt131.1, (⟨#[]⟩ : ByteArray), bt131.2.1, bt131.2.2))) else (if a0 = 113 then ((num_Take.f k a1 8).bind fun bt134 => (some (bt134.1, (⟨#[]⟩ : ByteArray), bt134.2.1, bt134.2.2))) else (if a0 = 83 then ((text_TakeShort.f k a1).bind fun bt137 => (some (0, bt137.1, bt137.2.1, bt137.2.2))) else ((table_Take.f a1).bind fun bt140 => (some (0, bt140.1, bt140.2.1, bt140.2.2)))))
theorem props_value.mono : ∀ a0 a1 k, LeO (props_value.f k a0 a1) (props_value.f (k + 1) a0 a1) := by
  intro a0 a1 k
  unfold props_value.f
  repeat' first
      | (with_reducible exact num_Take.mono _ _ _)
      | (with_reducible exact text_TakeShort.mono _ _)
      | (with_reducible exact LeO.refl _)
      | (with_reducible exact LeO.none _)
      | (with_reducible refine LeO.ite ?_ ?_)
      | (with_reducible refine LeO.bind ?_ (fun _ => ?_))
      | exact num_Take.mono _ _ _
      | exact text_TakeShort.mono _ _
      | exact LeO.none _
      | refine LeO.ite ?_ ?_
      | refine LeO.bind ?_ (fun _ => ?_)
set_option maxHeartbeats 8000000 in
set_option maxRecDepth 100000 in
theorem props_value.calls (k : Nat) (a0 : Int) (a1 : ByteArray) (r1 : Int) (r2 : ByteArray) (r3 : ByteArray) (r4 : Int) (w : World) (hg : Laid w) (h : props_value.f k a0 a1 = some (r1, r2, r3, r4)) :
    Calls Tryd.prog 29 #[.int .u8 a0, .string a1] w fun e w' => e = .returned (.tuple #[.agg #[.int .u64 r1, .string r2], .string r3, .int .i64 r4]) ∧ Below w.heap.size w w' := by
  have HG := Aside0.mk hg
  clear hg
  have hu42 := Tryd.underlying42
  have HB := Aside0.mk (Below.refl w.heap.size w)
  have H : (if a0 = 111 then ((num_Take.f k a1 1).bind fun bt131 => (some (bt131.1, (⟨#[]⟩ : ByteArray), bt131.2.1, bt131.2.2))) else (if a0 = 113 then ((num_Take.f k a1 8).bind fun bt134 => (some (bt134.1, (⟨#[]⟩ : ByteArray), bt134.2.1, bt134.2.2))) else (if a0 = 83 then ((text_TakeShort.f k a1).bind fun bt137 => (some (0, bt137.1, bt137.2.1, bt137.2.2))) else ((table_Take.f a1).bind fun bt140 => (some (0, bt140.1, bt140.2.1, bt140.2.2)))))) = some (r1, r2, r3, r4) := h
  clear h
  by_cases c3 : a0 = 111
  · rw [if_pos c3] at H
    have c3b0 : (a0 == 111) = true := beq_iff_eq.mpr c3
    have c3b1 : (a0 != 111) = false := bne_eq_false_iff_eq.mpr c3
    clear c3
    replace H := Option.bind_eq_some_iff.mp H
    obtain ⟨⟨t131, t132, t133⟩, A40, H⟩ := H
    replace H : (some (t131, (⟨#[]⟩ : ByteArray), t132, t133)) = some (r1, r2, r3, r4) := H
    have A4 := Aside0.mk A40
    clear A40
    simp only [Option.some.injEq, Prod.mk.injEq] at H
    obtain ⟨rfl, rfl, rfl, rfl⟩ := H
    go_enter Tryd.func29, Tryd.ntmps29
    go_wp2_with (first | ((with_reducible refine gate_dst (N := 4) rfl ?_); refine box_event ?hg (N := 4) ?hd (cs := #[.int .u64 0, .string (⟨#[]⟩ : ByteArray)]) (t := 42) ?hr ?_; (case hd => rfl); (case hg => rfl); (case hr => first | (go_simp; done) | (go_simp; rfl)); intro gb130 hg w5 hbox hb; have n0_ := Aside0.mk (below_step (by repeat (first | (with_reducible first | exact HB.out | apply below_alloc | apply pw_below_drewN | apply below_drew1) | exact HB.out)) hb); have n1_ := Aside0.mk (hbox); have n2_ := Aside0.mk ((by rw [hg]; exact (below_size (by repeat (first | (with_reducible first | exact HB.out | apply below_alloc | apply pw_below_drewN | apply below_drew1) | exact HB.out))) : w.heap.size ≤ gb130)); have n3_ := Aside0.mk ((by rw [hg]; exact (below_size (by repeat (first | (with_reducible first | exact HB.out | apply below_alloc | apply pw_below_drewN | apply below_drew1) | exact HB.out))) : w.heap.size ≤ gb130)); clear HB; have HB := n0_; have BK130 := n1_; have GW130 := n2_; have GE130 := n3_; clear n0_ n1_ n2_ n3_; clear hb hbox hg) | ((with_reducible refine gate_callee (f := 27) rfl ?_); refine goesL_ (some 19) rfl rfl Tryd.func27 (by kernel_rfl) rfl #[.string a1, .int .i64 1] rfl (by (try simp only [List.map_toArray, List.map_cons, List.map_nil]); first | done | rfl | (simp only [List.length_drop, List.length_take]; rfl)) ?_; (with_reducible refine (num_Take.calls k a1 1 t131 t132 t133 _ ?lg A4.out).mono ?_); (case lg => exact (HG.out.below (by repeat (first | (with_reducible first | exact HB.out | apply below_alloc | apply pw_below_drewN | apply below_drew1 | refine below_set ?_ GE130.out) | exact HB.out)))); rintro e w' ⟨rfl, ⟨nd, rfl⟩⟩; refine ⟨_, rfl, ?_⟩; (try (rw [drewN_self w5]; generalize hq_ : World.drewN w5 _ = w5; have n0_ : Aside0 (w5.heap[gb130]? = some (.cells #[.int .u64 0, .string (⟨#[]⟩ : ByteArray)] 42 (0, 0))) := ⟨by rw [← hq_]; exact (by (with_reducible repeat (first | refine blk_drewN ?_ _ | refine blk_drew ?_ | refine blk_alloc ?_ _)); exact BK130.out)⟩; have n1_ : Aside0 (Below w.heap.size w w5) := ⟨by rw [← hq_]; exact (by repeat (first | (with_reducible first | exact HB.out | apply below_alloc | apply pw_below_drewN | apply below_drew1 | refine below_set ?_ GE130.out) | exact HB.out))⟩; clear BK130 HB hq_; have BK130 := n0_; have HB := n1_; clear n0_ n1_)); have hcz6_0 : w5.cell? ⟨gb130, 0, none⟩ = some (.int .u64 0) := (blk_cell BK130.out 0).trans rfl; have hcz6_1 : w5.cell? ⟨gb130, 1, none⟩ = some (.string (⟨#[]⟩ : ByteArray)) := (blk_cell BK130.out 1).trans rfl; have hfz6_0 := blk_frozen BK130.out 0; have hfz6_1 := blk_frozen BK130.out 1))
    refine bodyPost_ret (results_ctt rfl _ _ gb130 42 #[.int .u64 t131, .string (⟨#[]⟩ : ByteArray)] (0, 0) _ rfl (by (with_reducible repeat (first | refine blk_drewN ?_ _ | refine blk_drew ?_ | refine blk_alloc ?_ _)); refine blk_put (cs := #[.int .u64 t131, .string (⟨#[]⟩ : ByteArray)]) ?_ 1 _ rfl; (with_reducible repeat (first | refine blk_drewN ?_ _ | refine blk_drew ?_ | refine blk_alloc ?_ _)); refine blk_put (cs := #[.int .u64 t131, .string (⟨#[]⟩ : ByteArray)]) ?_ 0 _ rfl; (with_reducible repeat (first | refine blk_drewN ?_ _ | refine blk_drew ?_ | refine blk_alloc ?_ _)); refine blk_put (cs := #[.int .u64 0, .string (⟨#[]⟩ : ByteArray)]) ?_ 0 _ rfl; (with_reducible repeat (first | refine blk_drewN ?_ _ | refine blk_drew ?_ | refine blk_alloc ?_ _)); exact BK130.out) Tryd.underlying42 rfl (by kernel_rfl)) rfl ?_
    exact ⟨by first | rfl | (simp [errW_none, errW_some] <;> rfl) | (simp [*, errW_none, errW_some] <;> rfl), by repeat (first | (with_reducible first | exact HB.out | apply below_alloc | apply pw_below_drewN | apply below_drew1 | refine below_set ?_ GE130.out) | exact HB.out)⟩
  · rw [if_neg c3] at H
    have c3b0 : (a0 == 111) = false := beq_eq_false_iff_ne.mpr c3
    have c3b1 : (a0 != 111) = true := bne_iff_ne.mpr c3
    by_cases c7 : a0 = 113
    · rw [if_pos c7] at H
      have c7b0 : (a0 == 113) = true := beq_iff_eq.mpr c7
      have c7b1 : (a0 != 113) = false := bne_eq_false_iff_eq.mpr c7
      clear c7
      replace H := Option.bind_eq_some_iff.mp H
      obtain ⟨⟨t134, t135, t136⟩, A80, H⟩ := H
      replace H : (some (t134, (⟨#[]⟩ : ByteArray), t135, t136)) = some (r1, r2, r3, r4) := H
      have A8 := Aside0.mk A80
      clear A80
      simp only [Option.some.injEq, Prod.mk.injEq] at H
      obtain ⟨rfl, rfl, rfl, rfl⟩ := H
      go_enter Tryd.func29, Tryd.ntmps29
      go_wp2_with (first | ((with_reducible refine gate_dst (N := 4) rfl ?_); refine box_event ?hg (N := 4) ?hd (cs := #[.int .u64 0, .string (⟨#[]⟩ : ByteArray)]) (t := 42) ?hr ?_; (case hd => rfl); (case hg => rfl); (case hr => first | (go_simp; done) | (go_simp; rfl)); intro gb130 hg w9 hbox hb; have n0_ := Aside0.mk (below_step (by repeat (first | (with_reducible first | exact HB.out | apply below_alloc | apply pw_below_drewN | apply below_drew1) | exact HB.out)) hb); have n1_ := Aside0.mk (hbox); have n2_ := Aside0.mk ((by rw [hg]; exact (below_size (by repeat (first | (with_reducible first | exact HB.out | apply below_alloc | apply pw_below_drewN | apply below_drew1) | exact HB.out))) : w.heap.size ≤ gb130)); have n3_ := Aside0.mk ((by rw [hg]; exact (below_size (by repeat (first | (with_reducible first | exact HB.out | apply below_alloc | apply pw_below_drewN | apply below_drew1) | exact HB.out))) : w.heap.size ≤ gb130)); clear HB; have HB := n0_; have BK130 := n1_; have GW130 := n2_; have GE130 := n3_; clear n0_ n1_ n2_ n3_; clear hb hbox hg) | ((with_reducible refine gate_callee (f := 27) rfl ?_); refine goesL_ (some 28) rfl rfl Tryd.func27 (by kernel_rfl) rfl #[.string a1, .int .i64 8] rfl (by (try simp only [List.map_toArray, List.map_cons, List.map_nil]); first | done | rfl | (simp only [List.length_drop, List.length_take]; rfl)) ?_; (with_reducible refine (num_Take.calls k a1 8 t134 t135 t136 _ ?lg A8.out).mono ?_); (case lg => exact (HG.out.below (by repeat (first | (with_reducible first | exact HB.out | apply below_alloc | apply pw_below_drewN | apply below_drew1 | refine below_set ?_ GE130.out) | exact HB.out)))); rintro e w' ⟨rfl, ⟨nd, rfl⟩⟩; refine ⟨_, rfl, ?_⟩; (try (rw [drewN_self w9]; generalize hq_ : World.drewN w9 _ = w9; have n0_ : Aside0 (w9.heap[gb130]? = some (.cells #[.int .u64 0, .string (⟨#[]⟩ : ByteArray)] 42 (0, 0))) := ⟨by rw [← hq_]; exact (by (with_reducible repeat (first | refine blk_drewN ?_ _ | refine blk_drew ?_ | refine blk_alloc ?_ _)); exact BK130.out)⟩; have n1_ : Aside0 (Below w.heap.size w w9) := ⟨by rw [← hq_]; exact (by repeat (first | (with_reducible first | exact HB.out | apply below_alloc | apply pw_below_drewN | apply below_drew1 | refine below_set ?_ GE130.out) | exact HB.out))⟩; clear BK130 HB hq_; have BK130 := n0_; have HB := n1_; clear n0_ n1_)); have hcz10_0 : w9.cell? ⟨gb130, 0, none⟩ = some (.int .u64 0) := (blk_cell BK130.out 0).trans rfl; have hcz10_1 : w9.cell? ⟨gb130, 1, none⟩ = some (.string (⟨#[]⟩ : ByteArray)) := (blk_cell BK130.out 1).trans rfl; have hfz10_0 := blk_frozen BK130.out 0; have hfz10_1 := blk_frozen BK130.out 1))
      refine bodyPost_ret (results_ctt rfl _ _ gb130 42 #[.int .u64 t134, .string (⟨#[]⟩ : ByteArray)] (0, 0) _ rfl (by (with_reducible repeat (first | refine blk_drewN ?_ _ | refine blk_drew ?_ | refine blk_alloc ?_ _)); refine blk_put (cs := #[.int .u64 t134, .string (⟨#[]⟩ : ByteArray)]) ?_ 1 _ rfl; (with_reducible repeat (first | refine blk_drewN ?_ _ | refine blk_drew ?_ | refine blk_alloc ?_ _)); refine blk_put (cs := #[.int .u64 t134, .string (⟨#[]⟩ : ByteArray)]) ?_ 0 _ rfl; (with_reducible repeat (first | refine blk_drewN ?_ _ | refine blk_drew ?_ | refine blk_alloc ?_ _)); refine blk_put (cs := #[.int .u64 0, .string (⟨#[]⟩ : ByteArray)]) ?_ 0 _ rfl; (with_reducible repeat (first | refine blk_drewN ?_ _ | refine blk_drew ?_ | refine blk_alloc ?_ _)); exact BK130.out) Tryd.underlying42 rfl (by kernel_rfl)) rfl ?_
      exact ⟨by first | rfl | (simp [errW_none, errW_some] <;> rfl) | (simp [*, errW_none, errW_some] <;> rfl), by repeat (first | (with_reducible first | exact HB.out | apply below_alloc | apply pw_below_drewN | apply below_drew1 | refine below_set ?_ GE130.out) | exact HB.out)⟩
    · rw [if_neg c7] at H
      have c7b0 : (a0 == 113) = false := beq_eq_false_iff_ne.mpr c7
      have c7b1 : (a0 != 113) = true := bne_iff_ne.mpr c7
      by_cases c11 : a0 = 83
      · rw [if_pos c11] at H
        have c11b0 : (a0 == 83) = true := beq_iff_eq.mpr c11
        have c11b1 : (a0 != 83) = false := bne_eq_false_iff_eq.mpr c11
        clear c11
        replace H := Option.bind_eq_some_iff.mp H
        obtain ⟨⟨t137, t138, t139⟩, A120, H⟩ := H
        replace H : (some (0, t137, t138, t139)) = some (r1, r2, r3, r4) := H
        have A12 := Aside0.mk A120
        clear A120
        simp only [Option.some.injEq, Prod.mk.injEq] at H
        obtain ⟨rfl, rfl, rfl, rfl⟩ := H
        go_enter Tryd.func29, Tryd.ntmps29
        go_wp2_with (first | ((with_reducible refine gate_dst (N := 4) rfl ?_); refine box_event ?hg (N := 4) ?hd (cs := #[.int .u64 0, .string (⟨#[]⟩ : ByteArray)]) (t := 42) ?hr ?_; (case hd => rfl); (case hg => rfl); (case hr => first | (go_simp; done) | (go_simp; rfl)); intro gb130 hg w13 hbox hb; have n0_ := Aside0.mk (below_step (by repeat (first | (with_reducible first | exact HB.out | apply below_alloc | apply pw_below_drewN | apply below_drew1) | exact HB.out)) hb); have n1_ := Aside0.mk (hbox); have n2_ := Aside0.mk ((by rw [hg]; exact (below_size (by repeat (first | (with_reducible first | exact HB.out | apply below_alloc | apply pw_below_drewN | apply below_drew1) | exact HB.out))) : w.heap.size ≤ gb130)); have n3_ := Aside0.mk ((by rw [hg]; exact (below_size (by repeat (first | (with_reducible first | exact HB.out | apply below_alloc | apply pw_below_drewN | apply below_drew1) | exact HB.out))) : w.heap.size ≤ gb130)); clear HB; have HB := n0_; have BK130 := n1_; have GW130 := n2_; have GE130 := n3_; clear n0_ n1_ n2_ n3_; clear hb hbox hg) | ((with_reducible refine gate_callee (f := 46) rfl ?_); refine goesL_ (some 37) rfl rfl Tryd.func46 (by kernel_rfl) rfl #[.string a1] rfl (by (try simp only [List.map_toArray, List.map_cons, List.map_nil]); first | done | rfl | (simp only [List.length_drop, List.length_take]; rfl)) ?_; (with_reducible refine (text_TakeShort.calls k a1 t137 t138 t139 _ ?lg A12.out).mono ?_); (case lg => exact (HG.out.below (by repeat (first | (with_reducible first | exact HB.out | apply below_alloc | apply pw_below_drewN | apply below_drew1 | refine below_set ?_ GE130.out) | exact HB.out)))); rintro e w' ⟨rfl, ⟨nd, rfl⟩⟩; refine ⟨_, rfl, ?_⟩; (try (rw [drewN_self w13]; generalize hq_ : World.drewN w13 _ = w13; have n0_ : Aside0 (w13.heap[gb130]? = some (.cells #[.int .u64 0, .string (⟨#[]⟩ : ByteArray)] 42 (0, 0))) := ⟨by rw [← hq_]; exact (by (with_reducible repeat (first | refine blk_drewN ?_ _ | refine blk_drew ?_ | refine blk_alloc ?_ _)); exact BK130.out)⟩; have n1_ : Aside0 (Below w.heap.size w w13) := ⟨by rw [← hq_]; exact (by repeat (first | (with_reducible first | exact HB.out | apply below_alloc | apply pw_below_drewN | apply below_drew1 | refine below_set ?_ GE130.out) | exact HB.out))⟩; clear BK130 HB hq_; have BK130 := n0_; have HB := n1_; clear n0_ n1_)); have hcz14_0 : w13.cell? ⟨gb130, 0, none⟩ = some (.int .u64 0) := (blk_cell BK130.out 0).trans rfl; have hcz14_1 : w13.cell? ⟨gb130, 1, none⟩ = some (.string (⟨#[]⟩ : ByteArray)) := (blk_cell BK130.out 1).trans rfl; have hfz14_0 := blk_frozen BK130.out 0; have hfz14_1 := blk_frozen BK130.out 1))
        refine bodyPost_ret (results_ctt rfl _ _ gb130 42 #[.int .u64 0, .string t137] (0, 0) _ rfl (by (with_reducible repeat (first | refine blk_drewN ?_ _ | refine blk_drew ?_ | refine blk_alloc ?_ _)); refine blk_put (cs := #[.int .u64 0, .string t137]) ?_ 1 _ rfl; (with_reducible repeat (first | refine blk_drewN ?_ _ | refine blk_drew ?_ | refine blk_alloc ?_ _)); refine blk_put (cs := #[.int .u64 0, .string t137]) ?_ 0 _ rfl; (with_reducible repeat (first | refine blk_drewN ?_ _ | refine blk_drew ?_ | refine blk_alloc ?_ _)); refine blk_put (cs := #[.int .u64 0, .string (⟨#[]⟩ : ByteArray)]) ?_ 1 _ rfl; (with_reducible repeat (first | refine blk_drewN ?_ _ | refine blk_drew ?_ | refine blk_alloc ?_ _)); exact BK130.out) Tryd.underlying42 rfl (by kernel_rfl)) rfl ?_
        exact ⟨by first | rfl | (simp [errW_none, errW_some] <;> rfl) | (simp [*, errW_none, errW_some] <;> rfl), by repeat (first | (with_reducible first | exact HB.out | apply below_alloc | apply pw_below_drewN | apply below_drew1 | refine below_set ?_ GE130.out) | exact HB.out)⟩
      · rw [if_neg c11] at H
        have c11b0 : (a0 == 83) = false := beq_eq_false_iff_ne.mpr c11
        have c11b1 : (a0 != 83) = true := bne_iff_ne.mpr c11
        replace H := Option.bind_eq_some_iff.mp H
        obtain ⟨⟨t140, t141, t142⟩, A150, H⟩ := H
        replace H : (some (0, t140, t141, t142)) = some (r1, r2, r3, r4) := H
        have A15 := Aside0.mk A150
        clear A150
        simp only [Option.some.injEq, Prod.mk.injEq] at H
        obtain ⟨rfl, rfl, rfl, rfl⟩ := H
        go_enter Tryd.func29, Tryd.ntmps29
        go_wp2_with (first | ((with_reducible refine gate_dst (N := 4) rfl ?_); refine box_event ?hg (N := 4) ?hd (cs := #[.int .u64 0, .string (⟨#[]⟩ : ByteArray)]) (t := 42) ?hr ?_; (case hd => rfl); (case hg => rfl); (case hr => first | (go_simp; done) | (go_simp; rfl)); intro gb130 hg w16 hbox hb; have n0_ := Aside0.mk (below_step (by repeat (first | (with_reducible first | exact HB.out | apply below_alloc | apply pw_below_drewN | apply below_drew1) | exact HB.out)) hb); have n1_ := Aside0.mk (hbox); have n2_ := Aside0.mk ((by rw [hg]; exact (below_size (by repeat (first | (with_reducible first | exact HB.out | apply below_alloc | apply pw_below_drewN | apply below_drew1) | exact HB.out))) : w.heap.size ≤ gb130)); have n3_ := Aside0.mk ((by rw [hg]; exact (below_size (by repeat (first | (with_reducible first | exact HB.out | apply below_alloc | apply pw_below_drewN | apply below_drew1) | exact HB.out))) : w.heap.size ≤ gb130)); clear HB; have HB := n0_; have BK130 := n1_; have GW130 := n2_; have GE130 := n3_; clear n0_ n1_ n2_ n3_; clear hb hbox hg) | ((with_reducible refine gate_callee (f := 47) rfl ?_); refine goesL_ (some 10) rfl rfl Tryd.func47 (by kernel_rfl) rfl #[.string a1] rfl (by (try simp only [List.map_toArray, List.map_cons, List.map_nil]); first | done | rfl | (simp only [List.length_drop, List.length_take]; rfl)) ?_; (with_reducible refine (table_Take.calls a1 t140 t141 t142 _ ?lg A15.out).mono ?_); (case lg => exact (HG.out.below (by repeat (first | (with_reducible first | exact HB.out | apply below_alloc | apply pw_below_drewN | apply below_drew1 | refine below_set ?_ GE130.out) | exact HB.out)))); rintro e w17 ⟨rfl, hb⟩; refine ⟨_, rfl, ?_⟩; have n0_ := Aside0.mk (blk_below (g := gb130) (o := .cells #[.int .u64 0, .string (⟨#[]⟩ : ByteArray)] 42 (0, 0)) (by (with_reducible repeat (first | refine blk_drewN ?_ _ | refine blk_drew ?_ | refine blk_alloc ?_ _)); exact BK130.out) hb); have n1_ := Aside0.mk (below_step (by repeat (first | (with_reducible first | exact HB.out | apply below_alloc | apply pw_below_drewN | apply below_drew1 | refine below_set ?_ GE130.out) | exact HB.out)) hb); clear BK130; clear HB; have BK130 := n0_; have HB := n1_; clear n0_ n1_; (try clear hb); (try clear hb2); (try clear hk); (try clear hi); have hcz18_0 : w17.cell? ⟨gb130, 0, none⟩ = some (.int .u64 0) := (blk_cell BK130.out 0).trans rfl; have hcz18_1 : w17.cell? ⟨gb130, 1, none⟩ = some (.string (⟨#[]⟩ : ByteArray)) := (blk_cell BK130.out 1).trans rfl; have hfz18_0 := blk_frozen BK130.out 0; have hfz18_1 := blk_frozen BK130.out 1))
        refine bodyPost_ret (results_ctt rfl _ _ gb130 42 #[.int .u64 0, .string t140] (0, 0) _ rfl (by (with_reducible repeat (first | refine blk_drewN ?_ _ | refine blk_drew ?_ | refine blk_alloc ?_ _)); refine blk_put (cs := #[.int .u64 0, .string t140]) ?_ 1 _ rfl; (with_reducible repeat (first | refine blk_drewN ?_ _ | refine blk_drew ?_ | refine blk_alloc ?_ _)); refine blk_put (cs := #[.int .u64 0, .string t140]) ?_ 0 _ rfl; (with_reducible repeat (first | refine blk_drewN ?_ _ | refine blk_drew ?_ | refine blk_alloc ?_ _)); refine blk_put (cs := #[.int .u64 0, .string (⟨#[]⟩ : ByteArray)]) ?_ 1 _ rfl; (with_reducible repeat (first | refine blk_drewN ?_ _ | refine blk_drew ?_ | refine blk_alloc ?_ _)); exact BK130.out) Tryd.underlying42 rfl (by kernel_rfl)) rfl ?_
        exact ⟨by first | rfl | (simp [errW_none, errW_some] <;> rfl) | (simp [*, errW_none, errW_some] <;> rfl), by repeat (first | (with_reducible first | exact HB.out | apply below_alloc | apply pw_below_drewN | apply below_drew1 | refine below_set ?_ GE130.out) | exact HB.out)⟩


end Go.Proofs.YthpfcplhlhnfeaaDoor.F
