/- A property, and a head with another one, are as the document says, for every input. -/
import Derived.Lib.LaidTab
import Derived.Deep.DeepHandedRow
import Derived.Test.YthpfcplhlhnfeaaDoorCards
import Derived.Test.YthpfcplhlhnfeaaDoorTie
import Derived.WalkKit
import Derived.ProofKit
import Derived.OpenShut
import Derived.SizedLaws
import Derived.Carry
import Derived.SevenTiedAt
import Derived.Test.YthpfcplhlhnfeaaDoorBPropsPartsa
import Derived.Test.YthpfcplhlhnfeaaDoorBPropsPartsb
import Derived.Test.YthpfcplhlhnfeaaDoorBPropsPartsc
import Derived.Test.YthpfcplhlhnfeaaDoorBPropsPartsd
import Derived.Test.YthpfcplhlhnfeaaDoorBPropsPartse
import Derived.Test.YthpfcplhlhnfeaaDoorBPropsPartsf
import Derived.Test.YthpfcplhlhnfeaaDoorBPropsPartsg
namespace Go.Proofs.YthpfcplhlhnfeaaDoor.F
open Go.RowKit Go.Proofs.YthpfcplhlhnfeaaDoorW.PrintWords Go.Proofs.YthpfcplhlhnfeaaDoorW.PrintLast Go.Proofs.YthpfcplhlhnfeaaDoorW.PrintMore
set_option linter.unusedVariables false
set_option linter.unusedSimpArgs false
set_option maxRecDepth 4000
attribute [local go_sem] Oper.semAt_some
/-- What the blocks of a call of the reference's Set hold between two rounds. -/
def RHeld (w0 : World) (O : Nat) (hc : Array Value) (a b x : Int) (v0 : Int) (v1 : ByteArray) (pre : List S42) (W : World) : Prop :=
  W.heap[w0.heap.size]? = some (.cells hc 25 (0, 0)) ∧ W.heap[w0.heap.size + 1]? = some (.cells #[.int .u64 v0, .string v1] 42 (0, 0)) ∧ W.heap[w0.heap.size + 1 + 1]? = some (.cells #[.int .i64 0, .int .u64 0, .int .u64 0, .slice none 0 0] 25 (0, 0)) ∧
    (∃ u, W.heap[O]? = some (.cells #[.int .i64 a, .int .u64 b, .int .u64 x, u] 25 (0, 0)) ∧ Kd.R k42 42 W (O + 1) (fun _ => True) u pre) ∧ Below w0.heap.size w0 W
theorem RHeld.below {w0 : World} {O : Nat} {hc : Array Value} {a b x v0 : Int} {v1 : ByteArray} {pre : List S42} {W W' : World} (h : RHeld w0 O hc a b x v0 v1 pre W) (hb : Below W.heap.size W W') : RHeld w0 O hc a b x v0 v1 pre W' := by
  obtain ⟨h1, h2, h3, ⟨u, h4, h5⟩, h6⟩ := h
  exact ⟨blk_below h1 hb, blk_below h2 hb, blk_below h3 hb, ⟨u, blk_below h4 hb, Kd.R_below h5 hb⟩, h6.trans (hb.mono h6.size)⟩
/-- the flags, written over -/
theorem RHeld.flags {w0 : World} {O : Nat} {hc : Array Value} {a b x v0 : Int} {v1 : ByteArray} {pre : List S42} {W : World} (h : RHeld w0 O hc a b x v0 v1 pre W) (hO : w0.heap.size + 1 + 1 < O) (x' : Int) : RHeld w0 O hc a b x' v0 v1 pre (W.setCell ⟨O, 2, none⟩ (.int .u64 x')) := by
  obtain ⟨h1, h2, h3, ⟨u, h4, h5⟩, h6⟩ := h
  refine ⟨blk_far h1 (p := ⟨O, 2, none⟩) (by show w0.heap.size ≠ O; omega) _, blk_far h2 (p := ⟨O, 2, none⟩) (by show w0.heap.size + 1 ≠ O; omega) _, blk_far h3 (p := ⟨O, 2, none⟩) (by show w0.heap.size + 1 + 1 ≠ O; omega) _, ⟨u, blk_put h4 2 (.int .u64 x') rfl, ?_⟩, h6.setCell (p := ⟨O, 2, none⟩) (by show w0.heap.size ≤ O; omega) _⟩
  exact Kd.R_mono (Kd.R_far (Kd.R_bound h5) (p := ⟨O, 2, none⟩) (fun k hk => by have := hk.2.1; show k ≠ O; omega) _) (fun _ _ => trivial)
theorem one_two_new (w : World) (x y : Value) (t : TypeId) : ∀ j u, [x, y][j]? = some u → (w.alloc (.cells #[x, y] t)).cell? ((⟨w.heap.size, 0, none⟩ : Addr).add j) = some u := by
  intro j u hj
  match j, hj with
  | 0, hj => simp at hj; subst hj; simp [Addr.add]
  | 1, hj => simp at hj; subst hj; simp [Addr.add]
theorem rset_range {a b fl : Int} {l : List S42} (ok : okH b fl l) (hR : RightR a b fl l = 0) {n : Nat} (hn : n < 14) : 0 ≤ setFl fl (n : Int) ∧ setFl fl (n : Int) ≤ 65535 ∧ setFl fl (n : Int) % 4 = 0 := by
  obtain ⟨hf, -, -⟩ := right_form hR
  obtain ⟨g1, g2⟩ := set_flags ok.2.1.1 hf.2.1 hf.2.2.1 hn
  exact ⟨(setFl_range ok.2.1 hn).1, g1, g2⟩
set_option maxHeartbeats 4000000 in
set_option maxRecDepth 100000 in
theorem rset_calls (a b fl : Int) (A : Option Addr) (c : Nat) (l : List S42) (i : Int) (v0 : Int) (v1 : ByteArray) (w : World) (hr : Kd.C k42 w A l.length l) (hc : l.length ≤ c) (hok : okH b fl l) (hokv : okV ⟨v0, v1⟩) (r1 r2 r3 : Int) (r4 : List S42) (r5 : Int) (h : setR a b fl l i ⟨v0, v1⟩ = (r1, r2, r3, r4, r5)) :
    Calls Tryd.prog 21 #[.agg #[.int .i64 a, .int .u64 b, .int .u64 fl, .slice A l.length c], .int .i64 i, .agg #[.int .u64 v0, .string v1]] w fun e w' => ∃ v3_ : Value, e = .returned (.tuple #[.agg #[.int .i64 r1, .int .u64 r2, .int .u64 r3, v3_], .int .i64 r5]) ∧ RC w' v3_ r4 ∧ Below w.heap.size w w' := by
  have HRt := Aside0.mk (rRight_k (k := 60) (by decide) (a := a) hok)
  have HR := Aside0.mk hr
  have HOK := Aside0.mk hok
  have HV := Aside0.mk hokv
  have HRC : RC w (.slice A l.length c) l := ⟨A, c, rfl, hc, hr⟩
  unfold setR at h
  have hu25 := Tryd.underlying25
  have hu42 := Tryd.underlying42
  have hinf : (Tryd.prog.info? 25).map (·.size) = some 4 := by kernel_rfl
  have bl0 : Below w.heap.size w (((w.alloc (.cells #[.int .i64 a, .int .u64 b, .int .u64 fl, .slice A l.length c] 25)).alloc (.cells #[.int .u64 v0, .string v1] 42)).alloc (.cells #[.int .i64 0, .int .u64 0, .int .u64 0, .slice none 0 0] 25)) := (((Below.refl _ w).alloc (Nat.le_refl _) _).alloc (by simp) _).alloc (by simp; omega) _
  have g0H : (((w.alloc (.cells #[.int .i64 a, .int .u64 b, .int .u64 fl, .slice A l.length c] 25)).alloc (.cells #[.int .u64 v0, .string v1] 42)).alloc (.cells #[.int .i64 0, .int .u64 0, .int .u64 0, .slice none 0 0] 25)).heap[w.heap.size]? = some (.cells #[.int .i64 a, .int .u64 b, .int .u64 fl, .slice A l.length c] 25 (0, 0)) := blk_alloc (blk_alloc (blk_new w _) _) _
  have g0V : (((w.alloc (.cells #[.int .i64 a, .int .u64 b, .int .u64 fl, .slice A l.length c] 25)).alloc (.cells #[.int .u64 v0, .string v1] 42)).alloc (.cells #[.int .i64 0, .int .u64 0, .int .u64 0, .slice none 0 0] 25)).heap[w.heap.size + 1]? = some (.cells #[.int .u64 v0, .string v1] 42 (0, 0)) := by
    have h := blk_new (w.alloc (.cells #[.int .i64 a, .int .u64 b, .int .u64 fl, .slice A l.length c] 25)) (.cells #[.int .u64 v0, .string v1] 42)
    rw [show (w.alloc (.cells #[.int .i64 a, .int .u64 b, .int .u64 fl, .slice A l.length c] 25)).heap.size = w.heap.size + 1 by simp] at h
    exact blk_alloc h _
  have g0R : (((w.alloc (.cells #[.int .i64 a, .int .u64 b, .int .u64 fl, .slice A l.length c] 25)).alloc (.cells #[.int .u64 v0, .string v1] 42)).alloc (.cells #[.int .i64 0, .int .u64 0, .int .u64 0, .slice none 0 0] 25)).heap[w.heap.size + 1 + 1]? = some (.cells #[.int .i64 0, .int .u64 0, .int .u64 0, .slice none 0 0] 25 (0, 0)) := by
    have h := blk_new ((w.alloc (.cells #[.int .i64 a, .int .u64 b, .int .u64 fl, .slice A l.length c] 25)).alloc (.cells #[.int .u64 v0, .string v1] 42)) (.cells #[.int .i64 0, .int .u64 0, .int .u64 0, .slice none 0 0] 25)
    rw [show ((w.alloc (.cells #[.int .i64 a, .int .u64 b, .int .u64 fl, .slice A l.length c] 25)).alloc (.cells #[.int .u64 v0, .string v1] 42)).heap.size = w.heap.size + 1 + 1 by simp] at h
    exact h
  have n1 : ¬ w.heap.size = w.heap.size + 1 + 1 := by omega
  have n2 : ¬ w.heap.size + 1 = w.heap.size + 1 + 1 := by omega
  clear hr hok hokv
  go_enter Tryd.func21, Tryd.ntmps21
  go_upto_region 1 with fail
  generalize (((w.alloc (.cells #[.int .i64 a, .int .u64 b, .int .u64 fl, .slice A l.length c] 25)).alloc (.cells #[.int .u64 v0, .string v1] 42)).alloc (.cells #[.int .i64 0, .int .u64 0, .int .u64 0, .slice none 0 0] 25)) = w3 at bl0 g0H g0V g0R ⊢
  obtain ⟨⟨c0, c1, c2, c3⟩, -⟩ := head4_cells g0H
  by_cases e1 : i < 0
  · rw [if_pos (.inl e1)] at h
    simp only [Prod.mk.injEq] at h
    obtain ⟨rfl, rfl, rfl, rfl, rfl⟩ := h
    have d1 : decide (i < 0) = true := decide_eq_true e1
    obtain ⟨⟨k0, k1, k2, k3⟩, f0, f1, f2, f3⟩ := head4_cells g0R
    clear e1
    go_wp2
    refine bodyPost_ret (results_ct rfl _ _ _ _ _ _ _ rfl (head4_store g0R _ _ _ _) hu25 rfl hinf) rfl ?_
    exact ⟨_, rfl, HRC.below (head4_below bl0 (by omega) _ _ _ _), head4_below bl0 (by omega) _ _ _ _⟩
  have d1 : decide (i < 0) = false := decide_eq_false e1
  by_cases e2 : 14 ≤ i
  · rw [if_pos (.inr (.inl e2))] at h
    simp only [Prod.mk.injEq] at h
    obtain ⟨rfl, rfl, rfl, rfl, rfl⟩ := h
    have d2 : decide (14 ≤ i) = true := decide_eq_true e2
    obtain ⟨⟨k0, k1, k2, k3⟩, f0, f1, f2, f3⟩ := head4_cells g0R
    clear e1 e2
    go_wp2
    refine bodyPost_ret (results_ct rfl _ _ _ _ _ _ _ rfl (head4_store g0R _ _ _ _) hu25 rfl hinf) rfl ?_
    exact ⟨_, rfl, HRC.below (head4_below bl0 (by omega) _ _ _ _), head4_below bl0 (by omega) _ _ _ _⟩
  have d2 : decide (14 ≤ i) = false := decide_eq_false e2
  by_cases e3 : RightR a b fl l = 0
  rotate_left
  · rw [if_pos (.inr (.inr e3))] at h
    simp only [Prod.mk.injEq] at h
    obtain ⟨rfl, rfl, rfl, rfl, rfl⟩ := h
    have d3 : (RightR a b fl l != 0) = true := bne_iff_ne.2 e3
    generalize RightR a b fl l = q at HRt d3 e3
    clear e1 e2 e3
    go_wp2_with (first | (go_at_call 32; (with_reducible refine (interchangeref07_Right.calls 60 a b fl A c l q w3 ?side1 hc HRt.out).mono ?_); (case side1 => exact Kd.C_below HR.out bl0); rintro e w4 ⟨rfl, hb⟩; have g1H := blk_below g0H hb; have g1R := blk_below g0R hb; have bl1 := bl0.trans (hb.mono bl0.size); clear c0 c1 c2 c3; obtain ⟨⟨c0, c1, c2, c3⟩, -⟩ := head4_cells g1H; obtain ⟨⟨k0, k1, k2, k3⟩, f0, f1, f2, f3⟩ := head4_cells g1R))
    refine bodyPost_ret (results_ct rfl _ _ _ _ _ _ _ rfl (head4_store g1R _ _ _ _) hu25 rfl hinf) rfl ?_
    exact ⟨_, rfl, HRC.below (head4_below bl1 (by omega) _ _ _ _), head4_below bl1 (by omega) _ _ _ _⟩
  have d3 : ((0 : Int) != 0) = false := rfl
  have hset := e3
  rw [e3] at HRt
  rw [if_neg (fun hh => hh.elim e1 (fun hh => hh.elim e2 (fun hh => hh e3)))] at h
  go_upto_region 3 with (first | (go_at_call 32; (with_reducible refine (interchangeref07_Right.calls 60 a b fl A c l 0 w3 ?side1 hc HRt.out).mono ?_); (case side1 => exact Kd.C_below HR.out bl0); rintro e w4 ⟨rfl, hb⟩; have g1H := blk_below g0H hb; have g1V := blk_below g0V hb; have g1R := blk_below g0R hb; have bl1 := bl0.trans (hb.mono bl0.size); clear c0 c1 c2 c3; obtain ⟨⟨c0, c1, c2, c3⟩, -⟩ := head4_cells g1H))
  obtain ⟨n, hn⟩ := Int.eq_ofNat_of_zero_le (show 0 ≤ i by omega)
  have hn14 : n < 14 := by omega
  have hnat : i.toNat = n := by omega
  rw [hnat] at h
  have HVL := Aside0.mk (rval_k (k := 14) (by decide) (letN n) v0 v1 (letN_isL n hn14) HV.out.1 HV.out.2.2)
  have hbt : bt (⟨#[83, 83, 84, 111, 111, 83, 83, 83, 83, 113, 83, 83, 83, 83]⟩ : ByteArray) i = letN n := by rw [hn]; rfl
  have hx24 := bt_at (⟨#[83, 83, 84, 111, 111, 83, 83, 83, 83, 113, 83, 83, 83, 83]⟩ : ByteArray) i
  have p24 := eq_true (show (0 : Int) ≤ i by omega)
  have q24 := eq_true (show i < (14 : Int) by omega)
  rw [hbt] at hx24
  generalize hq : rightR (letN n) v0 v1 = q at HVL h
  have HN := Aside0.mk hn
  clear d1 d2 e1 e2 d3 hnat hn
  have j0 : (w4.drew).cell? ⟨w.heap.size + 1, 0, none⟩ = some (.int .u64 v0) := (blk_cell (blk_drew g1V) 0).trans rfl
  have j1 : (w4.drew).cell? ⟨w.heap.size + 1, 1, none⟩ = some (.string v1) := (blk_cell (blk_drew g1V) 1).trans rfl
  replace g1H := blk_drew g1H
  replace g1V := blk_drew g1V
  replace g1R := blk_drew g1R
  replace bl1 := below_drew1 bl1
  try go_wp2
  refine start_ (n := 5) (S := fun w' => w'.cell? ⟨w.heap.size + 1, 0, none⟩ = some (.int .u64 v0) ∧ w'.cell? ⟨w.heap.size + 1, 1, none⟩ = some (.string v1)) (ds := []) #[false, false, false, false, false] (by kernel_rfl) rfl rfl ⟨j0, j1⟩ (fun hHeld => ?_)
  generalize w4.drew = w5 at g1H g1V g1R bl1 hHeld ⊢
  refine pure_ (i := 0) (N := some 26) (v := ?_) (a' := ?_) #[true, false, false, false, false] rfl rfl (by kernel_rfl) (fun _ _ _ h => h) (Or.inl ⟨by rfl, ?_⟩) ?_ ?_
  rotate_left
  · intro w'
    go_simp
    with_reducible rfl
  rotate_left
  · simp only [Act.put, List.setIfInBounds_toArray, List.set_cons_zero, List.set_cons_succ, i64_w, i32_w]
    rfl
  refine take_ (i := 1) (N := some 27) (v := ?_) (a' := ?_) #[true, true, false, false, false] rfl rfl (by kernel_rfl) (fun _ _ _ h => h) (Or.inl ⟨by rfl, ?_⟩) hHeld ?_ ?_
  rotate_left
  · rintro w' ⟨s0, s1⟩
    go_simp
    with_reducible rfl
  rotate_left
  · simp only [Act.put, List.setIfInBounds_toArray, List.set_cons_zero, List.set_cons_succ, i64_w, i32_w]
    rfl
  refine take_ (i := 2) (N := some 28) (v := ?_) (a' := ?_) #[true, true, true, false, false] rfl rfl (by kernel_rfl) (fun _ _ _ h => h) (Or.inl ⟨by rfl, ?_⟩) hHeld ?_ ?_
  rotate_left
  · rintro w' ⟨s0, s1⟩
    go_simp
    with_reducible rfl
  rotate_left
  · simp only [Act.put, List.setIfInBounds_toArray, List.set_cons_zero, List.set_cons_succ, i64_w, i32_w]
    rfl
  refine one_ (i := 3) (N := some 29) #[true, true, true, true, false] rfl rfl (by kernel_rfl) (by decide) (fun K hK => ?_)
  refine goes_ Tryd.func42 (by kernel_rfl) rfl #[.int .u8 (letN n), .agg #[.int .u64 v0, .string v1]] (by rfl) rfl rfl (by (try simp only [List.map_toArray, List.map_cons, List.map_nil]); first | done | rfl | (simp only [List.length_drop, List.length_take]; rfl)) ?_
  with_reducible refine (interchangeref07_val.calls 14 (letN n) v0 v1 q _ HVL.out).mono ?_
  rintro e w6 ⟨rfl, hb⟩
  refine ⟨_, rfl, ?_⟩
  replace g1H := blk_below g1H hb
  replace g1V := blk_below g1V hb
  replace g1R := blk_below g1R hb
  replace bl1 := bl1.trans (hb.mono bl1.size)
  refine hK.out _ _ ⟨(blk_cell g1V 0).trans rfl, (blk_cell g1V 1).trans rfl⟩ (fun hHeld => ?_)
  clear hK K
  refine norm_ (a' := ?_) ?_ ?_
  rotate_left
  · show Act.put _ (some 29) _ = _
    simp only [Act.put, List.setIfInBounds_toArray, List.set_cons_zero, List.set_cons_succ, i64_w, i32_w]
    rfl
  refine pure_ (i := 4) (N := some 8) (v := ?_) (a' := ?_) #[true, true, true, true, true] rfl rfl (by kernel_rfl) (fun _ _ _ h => h) (Or.inl ⟨by rfl, ?_⟩) ?_ ?_
  rotate_left
  · intro w'
    go_simp
    with_reducible rfl
  rotate_left
  · simp only [Act.put, List.setIfInBounds_toArray, List.set_cons_zero, List.set_cons_succ, i64_w, i32_w]
    rfl
  refine done_ (by kernel_rfl) ?_
  clear c0 c1 c2 c3 hx24 p24 q24 hbt j0 j1
  obtain ⟨⟨c0, c1, c2, c3⟩, -⟩ := head4_cells g1H
  by_cases e4 : q = 0
  rotate_left
  · rw [if_neg e4] at h
    simp only [Prod.mk.injEq] at h
    obtain ⟨rfl, rfl, rfl, rfl, rfl⟩ := h
    have d4 : (q != 0) = true := bne_iff_ne.2 e4
    obtain ⟨⟨k0, k1, k2, k3⟩, f0, f1, f2, f3⟩ := head4_cells g1R
    clear e4
    go_wp2
    refine bodyPost_ret (results_ct rfl _ _ _ _ _ _ _ rfl (head4_store g1R _ _ _ _) hu25 rfl hinf) rfl ?_
    exact ⟨_, rfl, HRC.below (head4_below bl1 (by omega) _ _ _ _), head4_below bl1 (by omega) _ _ _ _⟩
  subst e4
  rw [if_pos rfl] at h
  simp only [Prod.mk.injEq] at h
  obtain ⟨rfl, rfl, h3, h4, rfl⟩ := h
  go_wp2
  have hok := HOK.out
  have HG := Aside0.mk (show 0 ≤ setFl fl i ∧ setFl fl i ≤ 65535 ∧ setFl fl i % 4 = 0 by rw [HN.out]; exact rset_range hok hset hn14)
  have HB := Aside0.mk (show ∀ j, j < 14 → hasB (setFl fl i) j = (hasB fl j || decide (j = n)) from fun j hj => by rw [HN.out]; exact has_set hok.2.1 hn14 hj)
  have HF1 := Aside0.mk (show setV a b fl l i ⟨v0, v1⟩ n = ⟨v0, v1⟩ by rw [HN.out]; exact setV_at a b fl l n _)
  have HF2 := Aside0.mk (show ∀ j : Nat, j < 14 → hasB fl j = true → ¬ j = n → setV a b fl l i ⟨v0, v1⟩ j = ⟨(getR a b fl l (j : Int)).1, (getR a b fl l (j : Int)).2.1⟩ from fun j hj hh hne => by rw [HN.out]; exact setV_other hok hset _ hj hh hne)
  have HGT := Aside0.mk (show ∀ j : Nat, j < 14 → (getR a b fl l (j : Int)).2.2 = hasB fl j from fun j hj => by
    by_cases hh : hasB fl j = true
    · rw [(get_has hok hset hj hh).2.1, hh]
    · rw [get_hasnot (fun q hq _ => by obtain rfl : q = j := by omega
                                       exact hh), Bool.eq_false_iff.2 hh])
  have HGF := Aside0.mk (show ∀ j : Nat, interchangeref07_Get.f 80 a b fl l (j : Int) = some (getR a b fl l (j : Int)) from fun j => rGet_k (by decide) hok _)
  have H3 := Aside0.mk h3
  have H4 := Aside0.mk h4
  generalize setFl fl i = g at HG HB H3 H4
  generalize setV a b fl l i ⟨v0, v1⟩ = f at HF1 HF2 H4
  obtain ⟨cs, hcs⟩ : ∃ cs : Array Value, cs = #[.int .i64 a, .int .u64 b, .int .u64 fl, .slice A l.length c] := ⟨_, rfl⟩
  have z6 := blk_lt g1R
  have hP0 : RHeld w w6.heap.size cs a b (fT g 0) v0 v1 (vT g f 0) (w6.alloc (.cells #[.int .i64 a, .int .u64 b, .int .u64 0, .slice none 0 0] 25)) := by
    rw [hcs]
    exact ⟨blk_alloc g1H _, blk_alloc g1V _, blk_alloc g1R _, ⟨_, blk_new w6 _, Kd.R_nil _ _ _ _ _⟩, bl1.alloc bl1.size _⟩
  have HC := Aside0.mk hcs
  clear h3 h4 hset hq hcs hHeld HRt c0 c1 c2 c3 hok HOK HVL
  generalize (w6.alloc (.cells #[.int .i64 a, .int .u64 b, .int .u64 0, .slice none 0 0] 25)) = W0 at hP0 ⊢
  clear g1H g1V g1R bl1
  obtain ⟨O, hO⟩ : ∃ O, w6.heap.size = O := ⟨_, rfl⟩
  rw [hO] at hP0 z6 ⊢
  clear hO
  go_loopw [10, 11] (fun v10 v11 wr => ∃ (j : Nat) (p : Int), v10 = .int .u64 p ∧ v11 = .int .i64 (j : Int) ∧ RHeld w O cs a b (fT g j) v0 v1 (vT g f j) wr ∧ Aside0 (j ≤ 14) ∧ Aside0 (p = 2 ^ (15 - j))) (fun _ v11 _ => 14 - (intOf v11).toNat)
  case atStart => exact ⟨0, 32768, rfl, rfl, hP0, ⟨by decide⟩, ⟨by decide⟩⟩
  case round =>
    obtain ⟨j, p, rfl, rfl, hP, hj, HP⟩ := hrel
    by_cases h14 : j < 14
    · have hlt : decide ((j : Int) < 14) = true := decide_eq_true (by omega)
      have hw1 : wrap64 ((j : Int) + 1) = ((j + 1 : Nat) : Int) := by rw [wrap64_of (by omega) (by omega)]; omega
      have hms : 14 - (j + 1) < 14 - j := by omega
      have hdiv : IntKind.u64.wrap (Int.tdiv p 2) = 2 ^ (14 - j) := by
        rw [HP.out, show 15 - j = (14 - j) + 1 by omega]
        exact pow_half _ (by omega)
      have hgf := HGF.out j
      have hgi := HGT.out j h14
      have hf2 := HF2.out j h14
      have hb2 := HB.out j h14
      generalize getR a b fl l (j : Int) = G at hgf hgi hf2
      obtain ⟨G1, G2, G3⟩ := G
      dsimp only at hgi hf2
      have HGET := Aside0.mk hgf
      have q1 := hP.1
      rw [HC.out] at q1
      obtain ⟨⟨c0, c1, c2, c3⟩, -⟩ := head4_cells q1
      clear hgf
      by_cases e : j = n
      · have dj : ((j : Int) == i) = true := beq_iff_eq.2 (by rw [HN.out, e])
        rw [decide_eq_true e, Bool.or_true] at hb2
        have hadd : IntKind.u64.wrap (fT g j + p) = fT g (j + 1) := by rw [HP.out]; exact fT_add HG.out.1 HG.out.2.1 h14 hb2
        have hvadd : vT g f (j + 1) = vT g f j ++ [⟨v0, v1⟩] := by rw [vT_add hb2, e, HF1.out]
        have HADD := Aside0.mk hvadd
        clear e hb2 hgi hf2 hvadd
        go_upto_region 17 with (first | (go_at_call 19; (with_reducible refine (interchangeref07_Get.calls 80 a b fl A c l (j : Int) G1 G2 G3 _ ?side1 hc HGET.out).mono ?_); (case side1 => exact Kd.C_below HR.out hP.2.2.2.2); rintro e w7 ⟨rfl, hb⟩; have hP1 := hP.below hb; obtain ⟨k1, k2, k3, ⟨u, k4, k5⟩, k6⟩ := hP.below hb; have z7 := blk_lt k4; have z7V := blk_lt k2; have x2 : ∀ o, (w7.alloc o).cell? ⟨O, 2, none⟩ = some (.int .u64 (fT g j)) := fun o => (blk_cell (blk_alloc k4 o) 2).trans rfl; have xv0 : ∀ o, (w7.alloc o).cell? ⟨w.heap.size + 1, 0, none⟩ = some (.int .u64 v0) := fun o => (blk_cell (blk_alloc k2 o) 0).trans rfl; have xv1 : ∀ o, (w7.alloc o).cell? ⟨w.heap.size + 1, 1, none⟩ = some (.string v1) := fun o => (blk_cell (blk_alloc k2 o) 1).trans rfl; have xf : ∀ o, (w7.alloc o).frozen? ⟨O, 2, none⟩ = false := fun o => blk_frozen (blk_alloc k4 o) 2))
        have hP3 := (hP1.flags z6 (fT g (j + 1))).below ((Below.refl _ _).alloc (Nat.le_refl _) (.cells #[.int .u64 v0, .string v1] 42))
        have kT := blk_new (w7.setCell ⟨O, 2, none⟩ (.int .u64 (fT g (j + 1)))) (.cells #[.int .u64 v0, .string v1] 42)
        rw [show (w7.setCell ⟨O, 2, none⟩ (.int .u64 (fT g (j + 1)))).heap.size = w7.heap.size by simp] at kT
        generalize ((w7.setCell ⟨O, 2, none⟩ (.int .u64 (fT g (j + 1)))).alloc (.cells #[.int .u64 v0, .string v1] 42)) = w8 at hP3 kT ⊢
        clear k1 k2 k3 k4 k5 k6 x2 xv0 xv1 xf c0 c1 c2 c3
        obtain ⟨k1, k2, k3, ⟨u, k4, k5⟩, k6⟩ := hP3
        obtain ⟨inner, hrow, hmk⟩ := vals_row k5
        obtain ⟨i0, hi0, hz0, hz1, hz2⟩ := info_parts info42
        have hlen := vT_len g f j
        have k4l := blk_lt k4
        have x3 := (blk_cell k4 3).trans rfl
        have xt0 := (blk_cell kT 0).trans rfl
        have xt1 := (blk_cell kT 1).trans rfl
        go_wp2_with (first | (at_builtin; refine wpList_append_own _ rfl _ _ 23 rfl (O + 1) 42 i0 _ 2 24 Tryd.underlying23 hi0 hz0 hz1 hz2 rfl (by decide) u _ inner rfl (hrow.alloc _) ⟨w8.heap.size, 0, none⟩ 1 1 [.int .u64 v0, .string v1] rfl rfl (one_two_new w8 _ _ _) (by simp [Value.oneCell']) (by show _ ≤ 9223372036854775807; have := hj.out; omega) (by have := hj.out; omega) (by simp; omega) ?_; intro v' w9 hown' hgrow _; obtain ⟨g', cap', rfl⟩ := ownsRow_succ hown'; obtain ⟨hv1, hv2, hr2, hk2, hb3⟩ := blk_appended (n₀ := w.heap.size) k4 hrow (by omega) (by omega) (by omega) hown' hgrow; have hc1 : w9.cell? ⟨O, 3, none⟩ = some u := (blk_cell hv1 3).trans rfl; have hf1 : w9.frozen? ⟨O, 3, none⟩ = false := blk_frozen hv1 3; have k1' := blk_kept (B := O) (i := 3) (u := .slice (some ⟨g', 0, none⟩) ((vT g f j).length + 1) cap') k1 hrow (by omega) (by omega) hgrow; have k2' := blk_kept (B := O) (i := 3) (u := .slice (some ⟨g', 0, none⟩) ((vT g f j).length + 1) cap') k2 hrow (by omega) (by omega) hgrow; have k3' := blk_kept (B := O) (i := 3) (u := .slice (some ⟨g', 0, none⟩) ((vT g f j).length + 1) cap') k3 hrow (by omega) (by omega) hgrow))
        go_roundw
        case measure => exact hms
        case rel =>
          refine ⟨j + 1, 2 ^ (14 - j), rfl, by go_num, ⟨k1', k2', k3', ⟨_, hv2, ?_⟩, k6.trans hb3⟩, ⟨h14⟩, ⟨by rw [show 15 - (j + 1) = 14 - j by omega]⟩⟩
          rw [HADD.out]
          exact hmk _ _ ⟨v0, v1⟩ hr2
      · have dj : ((j : Int) == i) = false := beq_eq_false_iff_ne.2 (by rw [HN.out]; omega)
        rw [decide_eq_false e, Bool.or_false] at hb2
        cases G3 with
        | true =>
          have hh : hasB fl j = true := hgi.symm
          rw [hh] at hb2
          have hadd : IntKind.u64.wrap (fT g j + p) = fT g (j + 1) := by rw [HP.out]; exact fT_add HG.out.1 HG.out.2.1 h14 hb2
          have hvadd : vT g f (j + 1) = vT g f j ++ [⟨G1, G2⟩] := by rw [vT_add hb2, hf2 hh e]
          have HADD := Aside0.mk hvadd
          clear e hb2 hgi hf2 hvadd hh
          go_upto_region 17 with (first | (go_at_call 19; (with_reducible refine (interchangeref07_Get.calls 80 a b fl A c l (j : Int) G1 G2 true _ ?side1 hc HGET.out).mono ?_); (case side1 => exact Kd.C_below HR.out hP.2.2.2.2); rintro e w7 ⟨rfl, hb⟩; have hP1 := hP.below hb; obtain ⟨k1, k2, k3, ⟨u, k4, k5⟩, k6⟩ := hP.below hb; have z7 := blk_lt k4; have z7V := blk_lt k2; have x2 : ∀ o, (w7.alloc o).cell? ⟨O, 2, none⟩ = some (.int .u64 (fT g j)) := fun o => (blk_cell (blk_alloc k4 o) 2).trans rfl; have xv0 : ∀ o, (w7.alloc o).cell? ⟨w.heap.size + 1, 0, none⟩ = some (.int .u64 v0) := fun o => (blk_cell (blk_alloc k2 o) 0).trans rfl; have xv1 : ∀ o, (w7.alloc o).cell? ⟨w.heap.size + 1, 1, none⟩ = some (.string v1) := fun o => (blk_cell (blk_alloc k2 o) 1).trans rfl; have xf : ∀ o, (w7.alloc o).frozen? ⟨O, 2, none⟩ = false := fun o => blk_frozen (blk_alloc k4 o) 2))
          have hP3 := (hP1.flags z6 (fT g (j + 1))).below ((Below.refl _ _).alloc (Nat.le_refl _) (.cells #[.int .u64 G1, .string G2] 42))
          have kT := blk_new (w7.setCell ⟨O, 2, none⟩ (.int .u64 (fT g (j + 1)))) (.cells #[.int .u64 G1, .string G2] 42)
          rw [show (w7.setCell ⟨O, 2, none⟩ (.int .u64 (fT g (j + 1)))).heap.size = w7.heap.size by simp] at kT
          generalize ((w7.setCell ⟨O, 2, none⟩ (.int .u64 (fT g (j + 1)))).alloc (.cells #[.int .u64 G1, .string G2] 42)) = w8 at hP3 kT ⊢
          clear k1 k2 k3 k4 k5 k6 x2 xv0 xv1 xf c0 c1 c2 c3
          obtain ⟨k1, k2, k3, ⟨u, k4, k5⟩, k6⟩ := hP3
          obtain ⟨inner, hrow, hmk⟩ := vals_row k5
          obtain ⟨i0, hi0, hz0, hz1, hz2⟩ := info_parts info42
          have hlen := vT_len g f j
          have k4l := blk_lt k4
          have x3 := (blk_cell k4 3).trans rfl
          have xt0 := (blk_cell kT 0).trans rfl
          have xt1 := (blk_cell kT 1).trans rfl
          go_wp2_with (first | (at_builtin; refine wpList_append_own _ rfl _ _ 23 rfl (O + 1) 42 i0 _ 2 24 Tryd.underlying23 hi0 hz0 hz1 hz2 rfl (by decide) u _ inner rfl (hrow.alloc _) ⟨w8.heap.size, 0, none⟩ 1 1 [.int .u64 G1, .string G2] rfl rfl (one_two_new w8 _ _ _) (by simp [Value.oneCell']) (by show _ ≤ 9223372036854775807; have := hj.out; omega) (by have := hj.out; omega) (by simp; omega) ?_; intro v' w9 hown' hgrow _; obtain ⟨g', cap', rfl⟩ := ownsRow_succ hown'; obtain ⟨hv1, hv2, hr2, hk2, hb3⟩ := blk_appended (n₀ := w.heap.size) k4 hrow (by omega) (by omega) (by omega) hown' hgrow; have hc1 : w9.cell? ⟨O, 3, none⟩ = some u := (blk_cell hv1 3).trans rfl; have hf1 : w9.frozen? ⟨O, 3, none⟩ = false := blk_frozen hv1 3; have k1' := blk_kept (B := O) (i := 3) (u := .slice (some ⟨g', 0, none⟩) ((vT g f j).length + 1) cap') k1 hrow (by omega) (by omega) hgrow; have k2' := blk_kept (B := O) (i := 3) (u := .slice (some ⟨g', 0, none⟩) ((vT g f j).length + 1) cap') k2 hrow (by omega) (by omega) hgrow; have k3' := blk_kept (B := O) (i := 3) (u := .slice (some ⟨g', 0, none⟩) ((vT g f j).length + 1) cap') k3 hrow (by omega) (by omega) hgrow))
          go_roundw
          case measure => exact hms
          case rel =>
            refine ⟨j + 1, 2 ^ (14 - j), rfl, by go_num, ⟨k1', k2', k3', ⟨_, hv2, ?_⟩, k6.trans hb3⟩, ⟨h14⟩, ⟨by rw [show 15 - (j + 1) = 14 - j by omega]⟩⟩
            rw [HADD.out]
            exact hmk _ _ ⟨G1, G2⟩ hr2
        | false =>
          have hh : hasB fl j = false := hgi.symm
          rw [hh] at hb2
          have hs1 := Aside0.mk (fT_skip (g := g) (n := j) (by rw [hb2]; decide))
          have hs2 := Aside0.mk (vT_skip (g := g) (f := f) (n := j) (by rw [hb2]; decide))
          clear e hb2 hgi hf2 hh
          go_wp2_with (first | (go_at_call 19; (with_reducible refine (interchangeref07_Get.calls 80 a b fl A c l (j : Int) G1 G2 false _ ?side1 hc HGET.out).mono ?_); (case side1 => exact Kd.C_below HR.out hP.2.2.2.2); rintro e w7 ⟨rfl, hb⟩; have hP1 := hP.below hb; obtain ⟨k1, k2, k3, ⟨u, k4, k5⟩, k6⟩ := hP.below hb; have z7 := blk_lt k4; have z7V := blk_lt k2; have x2 : ∀ o, (w7.alloc o).cell? ⟨O, 2, none⟩ = some (.int .u64 (fT g j)) := fun o => (blk_cell (blk_alloc k4 o) 2).trans rfl; have xv0 : ∀ o, (w7.alloc o).cell? ⟨w.heap.size + 1, 0, none⟩ = some (.int .u64 v0) := fun o => (blk_cell (blk_alloc k2 o) 0).trans rfl; have xv1 : ∀ o, (w7.alloc o).cell? ⟨w.heap.size + 1, 1, none⟩ = some (.string v1) := fun o => (blk_cell (blk_alloc k2 o) 1).trans rfl; have xf : ∀ o, (w7.alloc o).frozen? ⟨O, 2, none⟩ = false := fun o => blk_frozen (blk_alloc k4 o) 2))
          go_roundw
          case measure => exact hms
          case rel =>
            refine ⟨j + 1, 2 ^ (14 - j), rfl, by go_num, ?_, ⟨h14⟩, ⟨by rw [show 15 - (j + 1) = 14 - j by omega]⟩⟩
            rw [hs1.out, hs2.out]
            exact hP1.below ((Below.refl _ _).alloc (Nat.le_refl _) _)
    · obtain rfl : j = 14 := by have := hj.out; omega
      have hlt : decide (((14 : Nat) : Int) < 14) = false := decide_eq_false (by omega)
      rw [vT_all, H4.out, fT_all HG.out.1 HG.out.2.1 HG.out.2.2, H3.out] at hP
      obtain ⟨k1, k2, k3, ⟨u, k4, k5⟩, k6⟩ := hP
      obtain ⟨A2, c2, rfl, hc2, hC⟩ := Kd.R_reads k5
      obtain ⟨⟨x0, x1, x2, x3⟩, -⟩ := head4_cells k4
      obtain ⟨⟨y0, y1, y2, y3⟩, y4, y5, y6, y7⟩ := head4_cells k3
      go_wp2
      refine bodyPost_ret (results_ct rfl _ _ _ _ _ _ _ rfl (head4_store k3 _ _ _ _) hu25 rfl hinf) rfl ?_
      exact ⟨_, rfl, RC.of_R (R_far4 k5 (by omega) _ _ _ _), head4_below k6 (by omega) _ _ _ _⟩
end Go.Proofs.YthpfcplhlhnfeaaDoor.F
namespace Go.Proofs.YthpfcplhlhnfeaaDoor.F
open Go.RowKit Go.Proofs.YthpfcplhlhnfeaaDoorW.PrintWords Go.Proofs.YthpfcplhlhnfeaaDoorW.PrintLast Go.Proofs.YthpfcplhlhnfeaaDoorW.PrintMore
set_option linter.unusedVariables false
set_option linter.unusedSimpArgs false
set_option maxRecDepth 4000
attribute [local go_sem high] eqA42
theorem val2_cells {W : World} {B : Nat} {t : TypeId} {c0 c1 : Value} (h : W.heap[B]? = some (.cells #[c0, c1] t (0, 0))) : W.cell? ⟨B, 0, none⟩ = some c0 ∧ W.cell? ⟨B, 1, none⟩ = some c1 := ⟨(blk_cell h 0).trans rfl, (blk_cell h 1).trans rfl⟩
set_option maxHeartbeats 4000000 in
set_option maxRecDepth 100000 in
theorem parts_walk (a b fl : Int) (A : Option Addr) (c : Nat) (l : List S42) (i : Int) (v0 : Int) (v1 : ByteArray) (w : World) (hg : Laid w) (hr : Kd.C k42 w A l.length l) (hc : l.length ≤ c) (hok : okH b fl l) (hokv : okV ⟨v0, v1⟩)
    (a1 b1 f1 : Int) (l1 : List S42) (e1 : Int) (hS1 : props_Set.f a b fl l i v0 v1 = some (a1, b1, f1, l1, e1)) (hS2 : setR a b fl l i ⟨v0, v1⟩ = (a1, b1, f1, l1, e1))
    (g1 : Int) (g2 : ByteArray) (g3 : Bool) (hG1 : props_Get.f a b fl l i = some (g1, g2, g3)) (hG2 : interchangeref07_Get.f 80 a b fl l i = some (g1, g2, g3))
    (K : Nat) (hSm : interchangeref07_Same.f K a1 b1 f1 l1 a1 b1 f1 l1 = some true) :
    Calls Tryd.prog 7 #[.agg #[.int .i64 a, .int .u64 b, .int .u64 fl, .slice A l.length c], .int .i64 i, .agg #[.int .u64 v0, .string v1]] w fun e w' => e = .returned (.bool true) ∧ Below w.heap.size w w' := by
  have HG := Aside0.mk hg
  have HR := Aside0.mk hr
  have HOK := Aside0.mk hok
  have HOKV := Aside0.mk hokv
  have HS1 := Aside0.mk hS1
  have HS2 := Aside0.mk hS2
  have HG1 := Aside0.mk hG1
  have HG2 := Aside0.mk hG2
  have HSM := Aside0.mk hSm
  clear hg hr hok hokv hS1 hS2 hG1 hG2 hSm
  have hu25 := Tryd.underlying25
  have hu42 := Tryd.underlying42
  have bl0 : Below w.heap.size w ((w.alloc (.cells #[.int .i64 a, .int .u64 b, .int .u64 fl, .slice A l.length c] 25)).alloc (.cells #[.int .u64 v0, .string v1] 42)) := ((Below.refl _ w).alloc (Nat.le_refl _) _).alloc (by simp) _
  have g0H : ((w.alloc (.cells #[.int .i64 a, .int .u64 b, .int .u64 fl, .slice A l.length c] 25)).alloc (.cells #[.int .u64 v0, .string v1] 42)).heap[w.heap.size]? = some (.cells #[.int .i64 a, .int .u64 b, .int .u64 fl, .slice A l.length c] 25 (0, 0)) := blk_alloc (blk_new w _) _
  have g0V : ((w.alloc (.cells #[.int .i64 a, .int .u64 b, .int .u64 fl, .slice A l.length c] 25)).alloc (.cells #[.int .u64 v0, .string v1] 42)).heap[w.heap.size + 1]? = some (.cells #[.int .u64 v0, .string v1] 42 (0, 0)) := by
    have h := blk_new (w.alloc (.cells #[.int .i64 a, .int .u64 b, .int .u64 fl, .slice A l.length c] 25)) (.cells #[.int .u64 v0, .string v1] 42)
    rw [show (w.alloc (.cells #[.int .i64 a, .int .u64 b, .int .u64 fl, .slice A l.length c] 25)).heap.size = w.heap.size + 1 by simp] at h
    exact h
  obtain ⟨⟨c0H_0, c0H_1, c0H_2, c0H_3⟩, c0H_f0, c0H_f1, c0H_f2, c0H_f3⟩ := head4_cells g0H
  obtain ⟨c0V_0, c0V_1⟩ := val2_cells g0V
  go_enter Tryd.func7, Tryd.ntmps7
  go_wp2_with (first | (go_at_call 10; (with_reducible refine (interchangelaw07_shown.calls true _ ?lg shown_t).mono ?_); (case lg => exact HG.out.below bl0); rintro e w5 ⟨rfl, hb1⟩; have h1H := blk_below g0H hb1; have h1V := blk_below g0V hb1; have k1 := bl0.trans (hb1.mono bl0.size); clear c0H_0 c0H_1 c0H_2 c0H_3 c0H_f0 c0H_f1 c0H_f2 c0H_f3 c0V_0 c0V_1; have g1H := h1H; have g1V := h1V; have bl1 := k1; obtain ⟨⟨c1H_0, c1H_1, c1H_2, c1H_3⟩, c1H_f0, c1H_f1, c1H_f2, c1H_f3⟩ := head4_cells g1H; obtain ⟨c1V_0, c1V_1⟩ := val2_cells g1V) | (go_at_call 18; (with_reducible refine (props_Get.calls a b fl A c l i g1 g2 g3 _ ?lg ?side1 hc HG1.out).mono ?_); (case lg => exact HG.out.below bl1); (case side1 => exact Kd.C_below HR.out bl1); rintro e w6 ⟨rfl, hb2⟩; have h2H := blk_below g1H hb2; have h2V := blk_below g1V hb2; have k2 := bl1.trans (hb2.mono bl1.size); clear c1H_0 c1H_1 c1H_2 c1H_3 c1H_f0 c1H_f1 c1H_f2 c1H_f3 c1V_0 c1V_1; have z2H := blk_lt h2H; have i2H : ¬ w.heap.size = w6.heap.size := (by omega); have z2V := blk_lt h2V; have i2V : ¬ w.heap.size + 1 = w6.heap.size := (by omega); have g2H := blk_alloc h2H (.cells #[.int .u64 g1, .string g2] 42); have g2V := blk_alloc h2V (.cells #[.int .u64 g1, .string g2] 42); have g2P := blk_new w6 (.cells #[.int .u64 g1, .string g2] 42); have bl2 := k2.alloc k2.size (.cells #[.int .u64 g1, .string g2] 42); obtain ⟨⟨c2H_0, c2H_1, c2H_2, c2H_3⟩, c2H_f0, c2H_f1, c2H_f2, c2H_f3⟩ := head4_cells g2H; obtain ⟨c2V_0, c2V_1⟩ := val2_cells g2V; obtain ⟨c2P_0, c2P_1⟩ := val2_cells g2P) | (go_at_call 19; (with_reducible refine (interchangeref07_Get.calls 80 a b fl A c l i g1 g2 g3 _ ?side1 hc HG2.out).mono ?_); (case side1 => exact Kd.C_below HR.out bl2); rintro e w7 ⟨rfl, hb3⟩; have h3H := blk_below g2H hb3; have h3V := blk_below g2V hb3; have h3P := blk_below g2P hb3; have k3 := bl2.trans (hb3.mono bl2.size); clear c2H_0 c2H_1 c2H_2 c2H_3 c2H_f0 c2H_f1 c2H_f2 c2H_f3 c2V_0 c2V_1 c2P_0 c2P_1; have z3H := blk_lt h3H; have i3H : ¬ w.heap.size = w7.heap.size := (by omega); have z3V := blk_lt h3V; have i3V : ¬ w.heap.size + 1 = w7.heap.size := (by omega); have z3P := blk_lt h3P; have i3P : ¬ w6.heap.size = w7.heap.size := (by omega); have g3H := blk_alloc h3H (.cells #[.int .u64 g1, .string g2] 42); have g3V := blk_alloc h3V (.cells #[.int .u64 g1, .string g2] 42); have g3P := blk_alloc h3P (.cells #[.int .u64 g1, .string g2] 42); have g3Q := blk_new w7 (.cells #[.int .u64 g1, .string g2] 42); have bl3 := k3.alloc k3.size (.cells #[.int .u64 g1, .string g2] 42); obtain ⟨⟨c3H_0, c3H_1, c3H_2, c3H_3⟩, c3H_f0, c3H_f1, c3H_f2, c3H_f3⟩ := head4_cells g3H; obtain ⟨c3V_0, c3V_1⟩ := val2_cells g3V; obtain ⟨c3P_0, c3P_1⟩ := val2_cells g3P; obtain ⟨c3Q_0, c3Q_1⟩ := val2_cells g3Q) | (go_at_call 20; (with_reducible refine (props_Set.calls a b fl A c l i v0 v1 a1 b1 f1 l1 e1 _ ?lg ?side1 hc HS1.out).mono ?_); (case lg => exact HG.out.below bl3); (case side1 => exact Kd.C_below HR.out bl3); rintro e w8 ⟨x1, rfl, hrs1, hb4⟩; obtain ⟨A1, c1, rfl, hc1, hr1⟩ := hrs1.reads (Kd.C_below HR.out bl3) hc hb4; have h4H := blk_below g3H hb4; have h4V := blk_below g3V hb4; have h4P := blk_below g3P hb4; have h4Q := blk_below g3Q hb4; have k4 := bl3.trans (hb4.mono bl3.size); clear c3H_0 c3H_1 c3H_2 c3H_3 c3H_f0 c3H_f1 c3H_f2 c3H_f3 c3V_0 c3V_1 c3P_0 c3P_1 c3Q_0 c3Q_1; have z4H := blk_lt h4H; have i4H : ¬ w.heap.size = w8.heap.size := (by omega); have z4V := blk_lt h4V; have i4V : ¬ w.heap.size + 1 = w8.heap.size := (by omega); have z4P := blk_lt h4P; have i4P : ¬ w6.heap.size = w8.heap.size := (by omega); have z4Q := blk_lt h4Q; have i4Q : ¬ w7.heap.size = w8.heap.size := (by omega); have g4H := blk_alloc h4H (.cells #[.int .i64 a1, .int .u64 b1, .int .u64 f1, .slice A1 l1.length c1] 25); have g4V := blk_alloc h4V (.cells #[.int .i64 a1, .int .u64 b1, .int .u64 f1, .slice A1 l1.length c1] 25); have g4P := blk_alloc h4P (.cells #[.int .i64 a1, .int .u64 b1, .int .u64 f1, .slice A1 l1.length c1] 25); have g4Q := blk_alloc h4Q (.cells #[.int .i64 a1, .int .u64 b1, .int .u64 f1, .slice A1 l1.length c1] 25); have g4X := blk_new w8 (.cells #[.int .i64 a1, .int .u64 b1, .int .u64 f1, .slice A1 l1.length c1] 25); have bl4 := k4.alloc k4.size (.cells #[.int .i64 a1, .int .u64 b1, .int .u64 f1, .slice A1 l1.length c1] 25); obtain ⟨⟨c4H_0, c4H_1, c4H_2, c4H_3⟩, c4H_f0, c4H_f1, c4H_f2, c4H_f3⟩ := head4_cells g4H; obtain ⟨c4V_0, c4V_1⟩ := val2_cells g4V; obtain ⟨c4P_0, c4P_1⟩ := val2_cells g4P; obtain ⟨c4Q_0, c4Q_1⟩ := val2_cells g4Q; obtain ⟨⟨c4X_0, c4X_1, c4X_2, c4X_3⟩, c4X_f0, c4X_f1, c4X_f2, c4X_f3⟩ := head4_cells g4X; have HX := Aside0.mk (Kd.C_below hr1 ((Below.refl w8.heap.size w8).alloc (Nat.le_refl _) (.cells #[.int .i64 a1, .int .u64 b1, .int .u64 f1, .slice A1 l1.length c1] 25))); have m4X := Below.refl (w8.alloc (.cells #[.int .i64 a1, .int .u64 b1, .int .u64 f1, .slice A1 l1.length c1] 25)).heap.size (w8.alloc (.cells #[.int .i64 a1, .int .u64 b1, .int .u64 f1, .slice A1 l1.length c1] 25)); clear hr1 hrs1) | (go_at_call 21; (with_reducible refine (rset_calls a b fl A c l i v0 v1 _ ?side1 hc HOK.out HOKV.out a1 b1 f1 l1 e1 HS2.out).mono ?_); (case side1 => exact Kd.C_below HR.out bl4); rintro e w9 ⟨x2, rfl, hrs2, hb5⟩; obtain ⟨A2, c2, rfl, hc2, hr2⟩ := hrs2; have h5H := blk_below g4H hb5; have h5V := blk_below g4V hb5; have h5P := blk_below g4P hb5; have h5Q := blk_below g4Q hb5; have h5X := blk_below g4X hb5; have k5 := bl4.trans (hb5.mono bl4.size); have q5X := m4X.trans (hb5.mono m4X.size); clear c4H_0 c4H_1 c4H_2 c4H_3 c4H_f0 c4H_f1 c4H_f2 c4H_f3 c4V_0 c4V_1 c4P_0 c4P_1 c4Q_0 c4Q_1 c4X_0 c4X_1 c4X_2 c4X_3 c4X_f0 c4X_f1 c4X_f2 c4X_f3; have z5H := blk_lt h5H; have i5H : ¬ w.heap.size = w9.heap.size := (by omega); have z5V := blk_lt h5V; have i5V : ¬ w.heap.size + 1 = w9.heap.size := (by omega); have z5P := blk_lt h5P; have i5P : ¬ w6.heap.size = w9.heap.size := (by omega); have z5Q := blk_lt h5Q; have i5Q : ¬ w7.heap.size = w9.heap.size := (by omega); have z5X := blk_lt h5X; have i5X : ¬ w8.heap.size = w9.heap.size := (by omega); have g5H := blk_alloc h5H (.cells #[.int .i64 a1, .int .u64 b1, .int .u64 f1, .slice A2 l1.length c2] 25); have g5V := blk_alloc h5V (.cells #[.int .i64 a1, .int .u64 b1, .int .u64 f1, .slice A2 l1.length c2] 25); have g5P := blk_alloc h5P (.cells #[.int .i64 a1, .int .u64 b1, .int .u64 f1, .slice A2 l1.length c2] 25); have g5Q := blk_alloc h5Q (.cells #[.int .i64 a1, .int .u64 b1, .int .u64 f1, .slice A2 l1.length c2] 25); have g5X := blk_alloc h5X (.cells #[.int .i64 a1, .int .u64 b1, .int .u64 f1, .slice A2 l1.length c2] 25); have g5Y := blk_new w9 (.cells #[.int .i64 a1, .int .u64 b1, .int .u64 f1, .slice A2 l1.length c2] 25); have bl5 := k5.alloc k5.size (.cells #[.int .i64 a1, .int .u64 b1, .int .u64 f1, .slice A2 l1.length c2] 25); have m5X := q5X.alloc q5X.size (.cells #[.int .i64 a1, .int .u64 b1, .int .u64 f1, .slice A2 l1.length c2] 25); obtain ⟨⟨c5H_0, c5H_1, c5H_2, c5H_3⟩, c5H_f0, c5H_f1, c5H_f2, c5H_f3⟩ := head4_cells g5H; obtain ⟨c5V_0, c5V_1⟩ := val2_cells g5V; obtain ⟨c5P_0, c5P_1⟩ := val2_cells g5P; obtain ⟨c5Q_0, c5Q_1⟩ := val2_cells g5Q; obtain ⟨⟨c5X_0, c5X_1, c5X_2, c5X_3⟩, c5X_f0, c5X_f1, c5X_f2, c5X_f3⟩ := head4_cells g5X; obtain ⟨⟨c5Y_0, c5Y_1, c5Y_2, c5Y_3⟩, c5Y_f0, c5Y_f1, c5Y_f2, c5Y_f3⟩ := head4_cells g5Y; have HY := Aside0.mk (Kd.C_below hr2 ((Below.refl w9.heap.size w9).alloc (Nat.le_refl _) (.cells #[.int .i64 a1, .int .u64 b1, .int .u64 f1, .slice A2 l1.length c2] 25))); clear hr2) | (go_at_call 13; (with_reducible refine (interchangeref07_Same.calls K a1 b1 f1 A1 c1 l1 a1 b1 f1 A2 c2 l1 true _ ?side1 hc1 ?side2 hc2 HSM.out).mono ?_); (case side1 => exact Kd.C_below HX.out m5X); (case side2 => exact HY.out); rintro e w10 ⟨rfl, hb6⟩; have h6H := blk_below g5H hb6; have h6V := blk_below g5V hb6; have h6P := blk_below g5P hb6; have h6Q := blk_below g5Q hb6; have h6X := blk_below g5X hb6; have h6Y := blk_below g5Y hb6; have k6 := bl5.trans (hb6.mono bl5.size); clear c5H_0 c5H_1 c5H_2 c5H_3 c5H_f0 c5H_f1 c5H_f2 c5H_f3 c5V_0 c5V_1 c5P_0 c5P_1 c5Q_0 c5Q_1 c5X_0 c5X_1 c5X_2 c5X_3 c5X_f0 c5X_f1 c5X_f2 c5X_f3 c5Y_0 c5Y_1 c5Y_2 c5Y_3 c5Y_f0 c5Y_f1 c5Y_f2 c5Y_f3; have g6H := h6H; have g6V := h6V; have g6P := h6P; have g6Q := h6Q; have g6X := h6X; have g6Y := h6Y; have bl6 := k6; obtain ⟨⟨c6H_0, c6H_1, c6H_2, c6H_3⟩, c6H_f0, c6H_f1, c6H_f2, c6H_f3⟩ := head4_cells g6H; obtain ⟨c6V_0, c6V_1⟩ := val2_cells g6V; obtain ⟨c6P_0, c6P_1⟩ := val2_cells g6P; obtain ⟨c6Q_0, c6Q_1⟩ := val2_cells g6Q; obtain ⟨⟨c6X_0, c6X_1, c6X_2, c6X_3⟩, c6X_f0, c6X_f1, c6X_f2, c6X_f3⟩ := head4_cells g6X; obtain ⟨⟨c6Y_0, c6Y_1, c6Y_2, c6Y_3⟩, c6Y_f0, c6Y_f1, c6Y_f2, c6Y_f3⟩ := head4_cells g6Y))
  go_ret
  exact ⟨by first | rfl | (simp [*] <;> rfl), by first | exact bl6 | exact below_drew bl6 | exact pw_below_drewN bl6 _ | (repeat (first | exact bl6 | apply below_drew1 | apply pw_below_drewN))⟩
def interchangelaw07_PropsParts.f (k : Nat) (a b fl : Int) (l : List S42) (i v0 : Int) (v1 : ByteArray) : Option Bool := if okH b fl l ∧ okV ⟨v0, v1⟩ then some true else none
theorem interchangelaw07_PropsParts.calls (k : Nat) (a b fl : Int) (A : Option Addr) (c : Nat) (l : List S42) (i v0 : Int) (v1 : ByteArray) (w : World) (hg : Laid w) (hr : Kd.C k42 w A l.length l) (hc : l.length ≤ c) (h : interchangelaw07_PropsParts.f k a b fl l i v0 v1 = some true) :
    Calls Tryd.prog 7 #[.agg #[.int .i64 a, .int .u64 b, .int .u64 fl, .slice A l.length c], .int .i64 i, .agg #[.int .u64 v0, .string v1]] w fun e w' => e = .returned (.bool true) ∧ Below w.heap.size w w' := by
  obtain ⟨ok, okv⟩ : okH b fl l ∧ okV ⟨v0, v1⟩ := by
    unfold interchangelaw07_PropsParts.f at h
    split at h
    · assumption
    · cases h
  have o1 := setR_ok (a := a) ok (i := i) okv
  have f1 := Set_f (a := a) ok i okv
  have fg := Get_f (a := a) ok i
  have fr := rGet_k (k := 80) (by decide) (a := a) ok i
  obtain ⟨S1, es⟩ : ∃ S1, setR a b fl l i ⟨v0, v1⟩ = S1 := ⟨_, rfl⟩
  rw [es] at o1 f1
  generalize getR a b fl l i = G1 at fg fr
  have fs := Same_k (k := S1.2.2.2.1.length + 3) S1.1 S1.2.1 S1.2.2.1 S1.2.2.2.1 S1.1 S1.2.1 S1.2.2.1 S1.2.2.2.1 (Nat.le_refl _) o1.2.2.1
  rw [sameB_refl] at fs
  exact parts_walk a b fl A c l i v0 v1 w hg hr hc ok okv S1.1 S1.2.1 S1.2.2.1 S1.2.2.2.1 S1.2.2.2.2 f1 es G1.1 G1.2.1 G1.2.2 fg fr _ fs
theorem propsParts_pure (b0 : Int × Int × Int × List S42) (b1 : Int) (b2 : Int × ByteArray) (g0 : ((Lit.int .i64 b0.1).wf = true ∧ (Lit.int .u64 b0.2.1).wf = true ∧ (Lit.int .u64 b0.2.2.1).wf = true ∧ (b0.2.2.2.length ≤ maxLen ∧ ∀ x ∈ b0.2.2.2, good_42 x))) (g1 : (Lit.int .i64 b1).wf = true) (gv : ((Lit.int .u64 b2.1).wf = true ∧ b2.2.size ≤ maxLen))
    (z0 : (True ∧ True ∧ True ∧ (b0.2.2.2.length * Tryd.prog.bytesOf 42 ≤ 140737488351232 ∧ ∀ x ∈ b0.2.2.2, sized_42 x))) (z1 : True) (z2 : (True ∧ b2.2.size ≤ 140737488351232)) : ∃ k : Nat, interchangelaw07_PropsParts.f k b0.1 b0.2.1 b0.2.2.1 b0.2.2.2 b1 b2.1 b2.2 = some true := by
  obtain ⟨a, b, fl, l⟩ := b0
  obtain ⟨v0, v1⟩ := b2
  obtain ⟨g1, g2, g3, g4⟩ := g0
  have ok : okH b fl l := vals_ok g2 g3 g4 z0.2.2.2
  have okv : okV ⟨v0, v1⟩ := val_ok gv.1 z2.2
  refine ⟨0, ?_⟩
  unfold interchangelaw07_PropsParts.f
  rw [if_pos ⟨ok, okv⟩]
end Go.Proofs.YthpfcplhlhnfeaaDoor.F
namespace Go.Proofs.YthpfcplhlhnfeaaDoor.F
open Go.RowKit Go.Proofs.YthpfcplhlhnfeaaDoorW.PrintWords Go.Proofs.YthpfcplhlhnfeaaDoorW.PrintLast Go.Proofs.YthpfcplhlhnfeaaDoorW.PrintMore
set_option linter.unusedVariables false
set_option linter.unusedSimpArgs false
set_option maxRecDepth 4000
theorem g_widths : Tryd.prog.globalNamed "interchange/num.widths" = some 0 := by kernel_rfl
theorem g_widths_type : (Tryd.prog.globals[0]?).map (·.type) = some 96 := by kernel_rfl
theorem cells_widths : Tryd.prog.cellsOf 96 = 4 := by kernel_rfl
theorem cells_int : Tryd.prog.cellsOf 3 = 1 := by kernel_rfl
theorem table_widths {W : World} (h : laidMetH Tryd.prog [("interchange/num.widths", Rows.laid_interchange_num_widths)] W) : Lib.TabIs Tryd.prog W "interchange/num.widths" .i64 [1, 2, 4, 8] :=
  Lib.tabIs_of_head (rest := []) g_widths g_widths_type Tryd.underlying96 Tryd.underlying3 cells_int cells_widths h
theorem laid_of {W : World} (h : laidMetH Tryd.prog [("interchange/num.widths", Rows.laid_interchange_num_widths)] W) : Laid W :=
  ⟨(table_widths h).cell g_widths 0 (by decide), (table_widths h).cell g_widths 1 (by decide), (table_widths h).cell g_widths 2 (by decide), (table_widths h).cell g_widths 3 (by decide)⟩
noncomputable def laid_world (os : Os) : World :=
  { World.holding Tryd.prog os ⟨#[], #[], []⟩ with heap := (World.holding Tryd.prog os ⟨#[], #[], []⟩).heap.modify 0 fun
      | .cells _ t frozen => .cells #[.int .i64 1, .int .i64 2, .int .i64 4, .int .i64 8] t frozen
      | o => o }
end Go.Proofs.YthpfcplhlhnfeaaDoor.F
namespace Go.Proofs.YthpfcplhlhnfeaaDoor.F
open Go.ChangeShapes Go.WideShapes Go.ChangeAt Go.RowKit Go.Proofs.YthpfcplhlhnfeaaDoorW.PrintWords Go.Proofs.YthpfcplhlhnfeaaDoorW.PrintLast
set_option linter.unusedVariables false
set_option linter.unusedSimpArgs false
set_option maxRecDepth 4000
set_option linter.unnecessarySimpa false

set_option maxHeartbeats 2000000 in
theorem propsParts_contract (H : Type) (enc : TypeId × Value → H) (W : World) (base : Nat) (args : Array Value) (ds gs : List (DataW H)) (before : List MemPlace)
    (hval0 : ∀ (j : Nat) t v, Tryd.f7.params[j]? = some t → args[j]? = some v → Value.okWide Tryd.prog W .any base t v)
    (hW : DataW.Whole enc Tryd.prog Tryd.f7.params.toList Rows.propsPartsSpec.vars false W args.toList ds gs before) (hL : laidMetH Tryd.prog Rows.propsPartsRow.laid W)
    (hsz : (DataW.weightsEach Tryd.prog (Tryd.f7.params.toList ++ (OpenSpec.ofChange Rows.propsPartsSpec).bare.plain.varTypes Tryd.prog) (ds ++ gs)).all (· ≤ reachBytes) = true) :
    Calls Tryd.prog 7 args W fun e W' => ∃ v, e = .returned v ∧ Rows.propsPartsSpec.post enc Tryd.prog Tryd.f7 false true false false W args v W' := by
  have hW' := hW
  obtain ⟨p, q, hA0, hV, rfl, hfz, hnd⟩ := hW
  have hA : DataW.TrodAll enc Tryd.prog W 0 (fun _ => true) true Tryd.f7.params.toList args.toList ds p := hA0
  have hval : ∀ (j : Nat) t v, Tryd.f7.params[j]? = some t → args[j]? = some v → Value.okWide Tryd.prog W .any base t v := hval0
  have hsz' : (DataW.weightsEach Tryd.prog (Tryd.f7.params.toList ++ []) (ds ++ gs)).all (· ≤ reachBytes) = true := hsz
  rw [Tryd.params7] at hA hval hsz'
  obtain ⟨v0, vs0, d0, ds0, p0, q0, hargs, rfl, rfl, h0, r0⟩ := trodAll_cons hA
  obtain ⟨v1, vs1, d1, ds1, p1, q1, rfl, rfl, rfl, h1, r1⟩ := trodAll_cons r0
  obtain ⟨v2, vs2, d2, ds2, p2, q2, rfl, rfl, rfl, h2, r2⟩ := trodAll_cons r1
  obtain ⟨rfl, rfl, rfl⟩ := trodAll_nil r2
  obtain rfl : args = #[v0, v1, v2] := by cases args; simp_all
  obtain ⟨rfl, rfl⟩ := trodVars_none hV
  have hg := laid_of hL
  have k0 := h0
  have lt0 : ∀ x ∈ p0, x.block < W.heap.size := by obtain ⟨m, hm⟩ := k0; exact DataW.trod_lt m _ _ _ hm
  obtain ⟨fuel0, hf0⟩ := h0
  obtain ⟨b0, e0, g0, z0, u0⟩ := (opened_struct4 (n0 := 1) (n1 := 1) (n2 := 1) (n3 := 1) Tryd.underlying25 (by kernel_rfl) (by kernel_rfl) rfl (opened_int (k := .i64) Tryd.underlying3) (by kernel_rfl) rfl (opened_int (k := .u64) Tryd.underlying22) (by kernel_rfl) rfl (opened_int (k := .u64) Tryd.underlying22) (by kernel_rfl) rfl (opened_slice Tryd.underlying23 (by kernel_rfl) opened_42)).out enc W fuel0 _ _ hf0
  obtain ⟨c0_0_0, c0_0_1, c0_0_2, c0_0_3, eq0_0, e0_0_0, e0_0_1, e0_0_2, e0_0_3⟩ := e0
  replace e0_0_0 : c0_0_0 = [.int .i64 b0.1] := e0_0_0
  subst e0_0_0
  replace e0_0_1 : c0_0_1 = [.int .u64 b0.2.1] := e0_0_1
  subst e0_0_1
  replace e0_0_2 : c0_0_2 = [.int .u64 b0.2.2.1] := e0_0_2
  subst e0_0_2
  obtain ⟨A0_0_3, cc0_0_3, rfl, hc0_0_3, hr0_0_3⟩ := e0_0_3
  (try subst eq0_0)
  have hvv0 := shape_struct Tryd.underlying25 (hval 0 25 v0 rfl rfl) eq0_0
  simp only [List.cons_append, List.nil_append] at hvv0
  subst hvv0
  have k1 := h1
  have lt1 : ∀ x ∈ p1, x.block < W.heap.size := by obtain ⟨m, hm⟩ := k1; exact DataW.trod_lt m _ _ _ hm
  obtain ⟨fuel1, hf1⟩ := h1
  obtain ⟨b1, e1, g1, z1, u1⟩ := (opened_int (k := .i64) Tryd.underlying3).out enc W fuel1 _ _ hf1
  obtain rfl := shape_int Tryd.underlying3 (hval 1 3 v1 rfl rfl) e1
  have k2 := h2
  have lt2 : ∀ x ∈ p2, x.block < W.heap.size := by obtain ⟨m, hm⟩ := k2; exact DataW.trod_lt m _ _ _ hm
  obtain ⟨fuel2, hf2⟩ := h2
  obtain ⟨b2, e2, g2, z2, u2⟩ := (opened_struct2 (n0 := 1) (n1 := 1) Tryd.underlying42 (by kernel_rfl) (by kernel_rfl) rfl (opened_int (k := .u64) Tryd.underlying22) (by kernel_rfl) rfl (opened_string Tryd.underlying9)).out enc W fuel2 _ _ hf2
  obtain ⟨c2_0_0, c2_0_1, eq2_0, e2_0_0, e2_0_1⟩ := e2
  replace e2_0_0 : c2_0_0 = [.int .u64 b2.1] := e2_0_0
  subst e2_0_0
  replace e2_0_1 : c2_0_1 = [.string b2.2] := e2_0_1
  subst e2_0_1
  (try subst eq2_0)
  have hvv2 := shape_struct Tryd.underlying42 (hval 2 42 v2 rfl rfl) eq2_0
  simp only [List.cons_append, List.nil_append] at hvv2
  subst hvv2
  obtain ⟨k, hpure⟩ := propsParts_pure b0 b1 b2 g0 g1 g2 (z0 fun n hn => of_decide_eq_true (List.all_eq_true.1 hsz' n (DataW.weights_mem_each (j := 0) rfl rfl n hn))) (z1 fun n hn => of_decide_eq_true (List.all_eq_true.1 hsz' n (DataW.weights_mem_each (j := 1) rfl rfl n hn))) (z2 fun n hn => of_decide_eq_true (List.all_eq_true.1 hsz' n (DataW.weights_mem_each (j := 2) rfl rfl n hn)))
  refine (interchangelaw07_PropsParts.calls k b0.1 b0.2.1 b0.2.2.1 A0_0_3 cc0_0_3 b0.2.2.2 b1 b2.1 b2.2 W hg hr0_0_3 hc0_0_3 hpure).mono fun e W' ⟨he, bel⟩ => ?_
  subst he
  exact ⟨_, rfl, _, _, _, [], _, [], hW', trodAll_mk1 (shut_bool Tryd.underlying4 _), (trodAll_cons_mk (Below.trod laid_out (by kernel_rfl) (of_decide_eq_true (by kernel_rfl)) k0 bel lt0) (trodAll_cons_mk (Below.trod laid_out (by kernel_rfl) (of_decide_eq_true (by kernel_rfl)) k1 bel lt1) (trodAll_cons_mk (Below.trod laid_out (by kernel_rfl) (of_decide_eq_true (by kernel_rfl)) k2 bel lt2) trodAll_mk0))), rfl, bel.frame _, fun h => by cases h⟩

theorem propsParts_reads (os : Os) {H : Type} (enc : TypeId × Value → H) : ∃ places, DataW.whole enc Tryd.prog ((laid_world os).forCall (fun _ _ => 0) ⟨#[], #[.agg #[.int .i64 0, .int .u64 0, .int .u64 0, .slice none 0 0], .int .i64 0, .agg #[.int .u64 0, .string ByteArray.empty]], []⟩).memory Tryd.f7.params.toList Rows.propsPartsSpec.vars false (#[.agg #[.int .i64 0, .int .u64 0, .int .u64 0, .slice none 0 0], .int .i64 0, .agg #[.int .u64 0, .string ByteArray.empty]] : Array Value).toList 8 = some ([.agg [.lit (.int .i64 0), .lit (.int .u64 0), .lit (.int .u64 0), .nil], .lit (.int .i64 0), .agg [.lit (.int .u64 0), .lit (.string [])]], [], places) :=
  ⟨[], by kernel_rfl⟩
theorem propsParts_met (os : Os) : laidMet Tryd.prog Rows.propsPartsRow.laid ((laid_world os).forCall (fun _ _ => 0) ⟨#[], #[.agg #[.int .i64 0, .int .u64 0, .int .u64 0, .slice none 0 0], .int .i64 0, .agg #[.int .u64 0, .string ByteArray.empty]], []⟩).memory :=
  laidMet_of_run' 8 (by kernel_rfl) (by kernel_rfl)
set_option maxRecDepth 100000 in
theorem propsParts_lifted (os : Os) (started : os.Started) (H : Type) (enc : TypeId × Value → H) (F : Stop.Interp) :
    ReturnsInHanded {} Tryd.checked os 7 .any ((OpenSpec.ofChange Rows.propsPartsSpec).preRow enc Tryd.prog Tryd.f7 Rows.propsPartsRow.domain false Rows.propsPartsRow.laid) (((OpenSpec.ofChange Rows.propsPartsSpec).at F).post enc Tryd.prog Tryd.f7 false true false false) := by
  obtain ⟨places, hx⟩ := propsParts_reads os enc
  refine returnsInHanded_of_row (C := Tryd.checked) (s := (OpenSpec.ofChange Rows.propsPartsSpec)) own_knob started (by kernel_rfl) Tryd.func7
    (witness_row_at (enc := enc) (C := Tryd.checked) false (laid_world os) #[.agg #[.int .i64 0, .int .u64 0, .int .u64 0, .slice none 0 0], .int .i64 0, .agg #[.int .u64 0, .string ByteArray.empty]] rfl (by kernel_rfl) (by kernel_rfl) (by kernel_rfl)
      (OpenSpec.preRow_of_cond 8 hx (by kernel_rfl) (fun k hk => by cases hk) (by kernel_rfl) (propsParts_met os))) ?_
  intro W base args ds gs before hval hW _ hcond hsz hL _ _
  exact propsParts_contract H enc W base args ds gs before hval hW hL hsz
theorem propsParts_said : Rows.PropsPartsSaid :=
  OpenClaim.holds_of_cond 7 Tryd.f7 rfl rfl rfl rfl rfl rfl rfl ⟨rfl, rfl, rfl, rfl, rfl⟩ rfl rfl rfl rfl rfl (by kernel_rfl) Tryd.func7 (by kernel_rfl)
    (of_decide_eq_true (by kernel_rfl)) (by unfold Func.isWrapper; first | (rw [if_pos (by decide +kernel)]; kernel_rfl) | (rw [if_neg (by decide +kernel)]; exact ⟨rfl, rfl⟩))
    (fun os started H enc _ F => by rw [OpenClaim.pre_eq_preRow]; exact propsParts_lifted os started H enc F)
theorem propsParts_plain (f : FuncId) (fn : Func) (hf : Tryd.pinned.checked.prog.funcNamed "interchange/interchangelaw07.PropsParts" = some f) (hfn : Tryd.pinned.checked.prog.funcs[f]? = some fn) :
    false = Tryd.pinned.checked.prog.looks [] ∧ ∀ (j : Nat) t, fn.params[j]? = some t → Tryd.pinned.checked.prog.wantsStandIn t = false := by
  obtain rfl : f = 7 := Option.some.inj ((show Tryd.prog.funcNamed "interchange/interchangelaw07.PropsParts" = some 7 by kernel_rfl).symm.trans hf) |>.symm
  obtain rfl : fn = Tryd.f7 := (Option.some.inj (Tryd.func7.symm.trans hfn)).symm
  refine ⟨by kernel_rfl, fun j t ht => ?_⟩
  rw [Tryd.params7] at ht
  have hm := Array.mem_of_getElem? ht
  simp only [List.mem_toArray, List.mem_cons, List.not_mem_nil, or_false] at hm
  rcases hm with rfl | rfl | rfl
  · exact (show Tryd.prog.wantsStandIn 25 = false by kernel_rfl)
  · exact (show Tryd.prog.wantsStandIn 3 = false by kernel_rfl)
  · exact (show Tryd.prog.wantsStandIn 42 = false by kernel_rfl)
theorem propsParts_holds : Rows.PropsPartsCardSaid :=
  Claim7.holds_tied_plain_at .later [] _ _ _ _ propsParts_said (fun _ h => by cases h) (by kernel_rfl) (fun _ h => by cases h) propsParts_row_tie rfl ⟨rfl, rfl⟩ (by kernel_rfl) rfl propsParts_plain (by kernel_rfl)
#print axioms propsParts_holds
end Go.Proofs.YthpfcplhlhnfeaaDoor.F
