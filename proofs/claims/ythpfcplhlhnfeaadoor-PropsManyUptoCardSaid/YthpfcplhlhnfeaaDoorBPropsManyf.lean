/- A right head has as many values as properties; all that it has are got, no others, for every input whose bulk is at most 1048576 (the second form). -/
import Derived.Test.YthpfcplhlhnfeaaDoorCards
import Derived.Test.YthpfcplhlhnfeaaDoorTie
import Derived.WalkKit
import Derived.ProofKit
import Derived.OpenShut
import Derived.Deep.DeepHandedRow
import Derived.Lib.LaidTab
import Derived.SizedLaws
import Derived.Carry
import Derived.SevenTiedAt
import Derived.Test.YthpfcplhlhnfeaaDoorBPropsManya
import Derived.Test.YthpfcplhlhnfeaaDoorBPropsManyb
import Derived.Test.YthpfcplhlhnfeaaDoorBPropsManyc
import Derived.Test.YthpfcplhlhnfeaaDoorBPropsManyd
import Derived.Test.YthpfcplhlhnfeaaDoorBPropsManye
namespace Go.Proofs.YthpfcplhlhnfeaaDoor.F
open Go.RowKit Go.Proofs.YthpfcplhlhnfeaaDoorW.PrintWords Go.Proofs.YthpfcplhlhnfeaaDoorW.PrintLast Go.Proofs.YthpfcplhlhnfeaaDoorW.PrintMore
set_option linter.unusedVariables false
set_option linter.unusedSimpArgs false
set_option maxRecDepth 4000
theorem getGo_mem (l : List S42) (i : Int) : ∀ (ks : List Nat) (n : Nat), (getGo l i ks n).2.2 = ks.any (fun k => (k : Int) == i)
  | [], _ => rfl
  | k :: ks, n => by
    rw [getGo, List.any_cons]
    by_cases e : (k : Int) = i
    · rw [if_pos e, beq_iff_eq.2 e]; rfl
    · rw [if_neg e, beq_eq_false_iff_ne.2 e, Bool.false_or]; exact getGo_mem l i ks (n + 1)
theorem whichN_ge (fl : Int) : ∀ (d i : Nat), ∀ k ∈ whichN fl d i, i ≤ k ∧ k < i + d
  | 0, i, k, h => by simp [whichN] at h
  | d + 1, i, k, h => by
    rw [whichN] at h
    split at h
    · rcases List.mem_cons.1 h with rfl | h
      · omega
      · have := whichN_ge fl d (i + 1) k h; omega
    · have := whichN_ge fl d (i + 1) k h; omega
theorem which_ge (fl : Int) (i : Nat) : ∀ k ∈ whichF fl i, i ≤ k ∧ k < 14 := fun k h => by
  have h1 := whichN_ge fl (14 - i) i k h
  omega
theorem which_any (fl : Int) (i : Nat) : ∀ (j : Nat), j ≤ i → (whichF fl j).any (fun k => (k : Int) == (i : Int)) = (decide (i < 14) && hasB fl i) := by
  have key : ∀ d j : Nat, i - j = d → j ≤ i → (whichF fl j).any (fun k => (k : Int) == (i : Int)) = (decide (i < 14) && hasB fl i) := by
    intro d
    induction d with
    | zero =>
      intro j hd hj
      obtain rfl : j = i := by omega
      by_cases h14 : j < 14
      · rw [whichF_step fl j h14, decide_eq_true h14, Bool.true_and]
        have hno : (whichF fl (j + 1)).any (fun k => (k : Int) == (j : Int)) = false := by
          rw [List.any_eq_false]
          intro k hk hh
          have := which_ge fl (j + 1) k hk
          have := beq_iff_eq.1 hh
          omega
        by_cases hh : hasB fl j = true
        · rw [if_pos hh, List.any_cons, beq_iff_eq.2 rfl, hh]; rfl
        · rw [if_neg hh, hno]; exact (Bool.eq_false_iff.2 hh).symm
      · rw [whichF_end fl j (by omega), decide_eq_false h14]; rfl
    | succ d ih =>
      intro j hd hj
      by_cases h14 : j < 14
      · rw [whichF_step fl j h14]
        have hr := ih (j + 1) (by omega) (by omega)
        by_cases hh : hasB fl j = true
        · rw [if_pos hh, List.any_cons, beq_eq_false_iff_ne.2 (by omega), Bool.false_or, hr]
        · rw [if_neg hh, hr]
      · rw [whichF_end fl j (by omega), decide_eq_false (by omega)]; rfl
  exact fun j hj => key _ j rfl hj
theorem which_count (fl : Int) (i : Nat) (h : i < 14) : (whichF fl i).length = (if hasB fl i = true then 1 else 0) + (whichF fl (i + 1)).length := by
  rw [whichF_step fl i h]
  split
  · rw [List.length_cons]; omega
  · omega
theorem many_get {a b fl : Int} {l : List S42} (hR : RightR a b fl l = 0) (i : Int) : (getR a b fl l i).2.2 = (whichF fl 0).any (fun k => (k : Int) == i) := by
  unfold getR
  rw [if_pos hR]
  exact getGo_mem l i _ 0
theorem many_loop {a b fl : Int} {l : List S42} (ok : okH b fl l) (hR : RightR a b fl l = 0) : ∀ (d i k : Nat) (n : Nat), d = 20 - i → i ≤ 20 → d < k → n + (whichF fl i).length = l.length → n ≤ 1000000 →
    interchangelaw07_PropsMany.l0 k true (n : Int) (i : Int) a b fl l = some true := by
  intro d
  induction d with
  | zero =>
    intro i k n hd hi hk hn hn2
    obtain ⟨k, rfl⟩ : ∃ j, k = j + 1 := ⟨k - 1, by omega⟩
    rw [whichF_end fl i (by omega)] at hn
    rw [interchangelaw07_PropsMany.l0, if_neg (by omega), if_pos rfl, beq_iff_eq.2 (by simp only [List.length_nil, Nat.add_zero] at hn; omega)]
  | succ d ih =>
    intro i k n hd hi hk hn hn2
    obtain ⟨k, rfl⟩ : ∃ j, k = j + 1 := ⟨k - 1, by omega⟩
    have hg := (many_get hR (i : Int)).trans (which_any fl i 0 (Nat.zero_le _))
    rw [interchangelaw07_PropsMany.l0, if_pos (by omega), Get_f ok, Option.bind_some, hg, w_succ (i := i) (by omega), w_succ (i := n) (by omega)]
    by_cases h14 : i < 14
    · have hc := which_count fl i h14
      rw [decide_eq_true h14, Bool.true_and]
      by_cases hh : hasB fl i = true
      · rw [if_pos hh] at hc
        rw [if_pos hh, if_neg (by omega), if_neg (by omega)]
        have hl := whichF_len fl
        exact ih (i + 1) k (n + 1) (by omega) (by omega) (by omega) (by omega) (by have := ok.2.2.1; have := (right_form hR).1.2.2.2; omega)
      · rw [if_neg hh] at hc
        rw [if_neg hh]
        exact ih (i + 1) k n (by omega) (by omega) (by omega) (by omega) hn2
    · rw [whichF_end fl i (by omega)] at hn
      rw [decide_eq_false h14, Bool.false_and, if_neg (by decide)]
      exact ih (i + 1) k n (by omega) (by omega) (by omega) (by rw [whichF_end fl (i + 1) (by omega)]; exact hn) hn2
theorem propsMany_pure (b0 : Int × Int × Int × List S42) (g0 : (Lit.int .i64 b0.1).wf = true ∧ (Lit.int .u64 b0.2.1).wf = true ∧ (Lit.int .u64 b0.2.2.1).wf = true ∧ (b0.2.2.2.length ≤ maxLen ∧ ∀ x ∈ b0.2.2.2, good_42 x))
    (hb : (fun a => (fun _ => 1) a.1 + (fun _ => 1) a.2.1 + (fun _ => 1) a.2.2.1 + (fun l => (l.map (bulk_42)).sum + 1) a.2.2.2) b0 ≤ 1048576) : ∃ k : Nat, interchangelaw07_PropsMany.f k b0.1 b0.2.1 b0.2.2.1 b0.2.2.2 = some true := by
  obtain ⟨a, b, fl, l⟩ := b0
  have hz : 1 + 1 + 1 + ((l.map bulk_42).sum + 1) ≤ 1048576 := hb
  have ok : okH b fl l := vals_ok g0.2.1 g0.2.2.1 g0.2.2.2 (by omega)
  clear g0 hb hz
  obtain ⟨k, hk⟩ : ∃ k : Nat, 100 ≤ k := ⟨_, Nat.le_refl _⟩
  refine ⟨k, ?_⟩
  show interchangelaw07_PropsMany.f k a b fl l = some true
  unfold interchangelaw07_PropsMany.f
  rw [shown_t, Option.bind_some, Right_k (by omega) a b fl l ok, Option.bind_some]
  by_cases e : RightR a b fl l = 0
  · rw [if_pos e]
    have hf := (right_form e).1
    obtain ⟨k, rfl⟩ : ∃ j, k = j + 1 := ⟨k - 1, by omega⟩
    have hneg : (getR a b fl l (-1)).2.2 = false := by
      rw [many_get e, List.any_eq_false]
      intro q _ hh
      have := beq_iff_eq.1 hh
      omega
    have hl := whichF_len fl
    have h0 := many_loop ok e 20 0 k 0 rfl (by omega) (by omega) (by rw [Nat.zero_add]; exact hf.2.2.2) (by omega)
    rw [interchangelaw07_PropsMany.l0, if_pos (by decide), Get_f ok, Option.bind_some, hneg, if_neg (by decide), show wrap64 ((-1 : Int) + 1) = ((0 : Nat) : Int) from by unfold wrap64; omega]
    exact h0
  · rw [if_neg e, Get_f ok, Option.bind_some, if_pos rfl]
    unfold getR
    rw [if_neg e]
    rfl
end Go.Proofs.YthpfcplhlhnfeaaDoor.F
namespace Go.Proofs.YthpfcplhlhnfeaaDoor.F
open Go.ChangeShapes Go.WideShapes Go.ChangeAt Go.RowKit Go.Proofs.YthpfcplhlhnfeaaDoorW.PrintWords Go.Proofs.YthpfcplhlhnfeaaDoorW.PrintLast
set_option linter.unusedVariables false
set_option linter.unusedSimpArgs false
set_option maxRecDepth 4000

set_option maxHeartbeats 2000000 in
theorem propsMany_contract (H : Type) (enc : TypeId × Value → H) (W : World) (base : Nat) (args : Array Value) (ds gs : List (DataW H)) (before : List MemPlace)
    (hval0 : ∀ (j : Nat) t v, Tryd.f6.params[j]? = some t → args[j]? = some v → Value.okWide Tryd.prog W .any base t v)
    (hW : DataW.Whole enc Tryd.prog Tryd.f6.params.toList Rows.propsManySpec.vars false W args.toList ds gs before) (hL : laidMetH Tryd.prog Rows.propsManyUptoRow.laid W)
    (hk : Rows.uptoSmall H (ds ++ gs) = true) :
    Calls Tryd.prog 6 args W fun e W' => ∃ v, e = .returned v ∧ Rows.propsManySpec.post enc Tryd.prog Tryd.f6 false true false false W args v W' := by
  have hW' := hW
  obtain ⟨p, q, hA0, hV, rfl, hfz, hnd⟩ := hW
  have hA : DataW.TrodAll enc Tryd.prog W 0 (fun _ => true) true Tryd.f6.params.toList args.toList ds p := hA0
  have hval : ∀ (j : Nat) t v, Tryd.f6.params[j]? = some t → args[j]? = some v → Value.okWide Tryd.prog W .any base t v := hval0
  rw [Tryd.params6] at hA hval
  obtain ⟨v0, vs0, d0, ds0, p0, q0, hargs, rfl, rfl, h0, r0⟩ := trodAll_cons hA
  obtain ⟨rfl, rfl, rfl⟩ := trodAll_nil r0
  obtain rfl : args = #[v0] := by cases args; simp_all
  obtain ⟨rfl, rfl⟩ := trodVars_none hV
  have hg := laid_of hL
  have k0 := h0
  have lt0 : ∀ x ∈ p0, x.block < W.heap.size := by obtain ⟨m, hm⟩ := k0; exact DataW.trod_lt m _ _ _ hm
  obtain ⟨fuel0, hf0⟩ := h0
  obtain ⟨b0, e0, g0, z0, u0⟩ := (opened_struct4 (n0 := 1) (n1 := 1) (n2 := 1) (n3 := 1) Tryd.underlying25 (by kernel_rfl) (by kernel_rfl) rfl (opened_int (k := .i64) Tryd.underlying3) (by kernel_rfl) rfl (opened_int (k := .u64) Tryd.underlying22) (by kernel_rfl) rfl (opened_int (k := .u64) Tryd.underlying22) (by kernel_rfl) rfl (opened_slice Tryd.underlying23 (by kernel_rfl) opened_42)).out enc W fuel0 _ _ hf0
  obtain ⟨c0_0_0, c0_0_1, c0_0_2, c0_0_3, eq0_0, e0_0_0, e0_0_1, e0_0_2, e0_0_3⟩ := e0
  replace e0_0_0 : c0_0_0 = [.int .i64 b0.1] := e0_0_0
  subst e0_0_0
  replace e0_0_1 : c0_0_1 = [.int .u64 b0.2.1] := e0_0_1
  subst e0_0_1
  replace e0_0_2 : c0_0_2 = [.int .u64 b0.2.2.1] := e0_0_2
  subst e0_0_2
  obtain ⟨A0_0_3, cc0_0_3, rfl, hc0_0_3, hr0_0_3⟩ := e0_0_3
  (try subst eq0_0)
  have hvv0 := shape_struct Tryd.underlying25 (hval 0 25 v0 rfl rfl) eq0_0
  simp only [List.cons_append, List.nil_append] at hvv0
  subst hvv0
  have hbulk : Rows.uptoBulk d0 ≤ 1048576 := by
    have := of_decide_eq_true hk
    simp only [List.append_nil, Rows.uptoBulkAll] at this
    omega
  have hbb : (fun a => (fun _ => 1) a.1 + (fun _ => 1) a.2.1 + (fun _ => 1) a.2.2.1 + (fun l => (l.map (bulk_42)).sum + 1) a.2.2.2) b0 ≤ 1048576 := by
    have y0 : (fun a => (fun _ => 1) a.1 + (fun _ => 1) a.2.1 + (fun _ => 1) a.2.2.1 + (fun l => (l.map (bulk_42)).sum + 1) a.2.2.2) b0 ≤ Rows.uptoBulk d0 := u0
    omega
  obtain ⟨k, hpure⟩ := propsMany_pure b0 g0 hbb
  refine (interchangelaw07_PropsMany.calls k b0.1 b0.2.1 b0.2.2.1 A0_0_3 cc0_0_3 b0.2.2.2 W hg hr0_0_3 hc0_0_3 hpure).mono fun e W' ⟨he, bel⟩ => ?_
  subst he
  exact ⟨_, rfl, _, _, _, [], _, [], hW', trodAll_mk1 (shut_bool Tryd.underlying4 _), (trodAll_cons_mk (Below.trod laid_out (by kernel_rfl) (of_decide_eq_true (by kernel_rfl)) k0 bel lt0) trodAll_mk0), rfl, bel.frame _, fun h => by cases h⟩

theorem propsMany_reads (os : Os) {H : Type} (enc : TypeId × Value → H) : ∃ places, DataW.whole enc Tryd.prog ((laid_world os).forCall (fun _ _ => 0) ⟨#[], #[.agg #[.int .i64 0, .int .u64 0, .int .u64 0, .slice none 0 0]], []⟩).memory Tryd.f6.params.toList Rows.propsManySpec.vars false (#[.agg #[.int .i64 0, .int .u64 0, .int .u64 0, .slice none 0 0]] : Array Value).toList 8 = some ([.agg [.lit (.int .i64 0), .lit (.int .u64 0), .lit (.int .u64 0), .nil]], [], places) :=
  ⟨[], by kernel_rfl⟩
theorem propsMany_met (os : Os) : laidMet Tryd.prog Rows.propsManyUptoRow.laid ((laid_world os).forCall (fun _ _ => 0) ⟨#[], #[.agg #[.int .i64 0, .int .u64 0, .int .u64 0, .slice none 0 0]], []⟩).memory :=
  laidMet_of_run' 8 (by kernel_rfl) (by kernel_rfl)
set_option maxRecDepth 100000 in
theorem propsMany_lifted (os : Os) (started : os.Started) (H : Type) (enc : TypeId × Value → H) (F : Stop.Interp) :
    ReturnsInHanded {} Tryd.checked os 6 .any ((Rows.OpenSpec.upto Rows.propsManySpec).preRow enc Tryd.prog Tryd.f6 Rows.propsManyUptoRow.domain false Rows.propsManyUptoRow.laid) (((Rows.OpenSpec.upto Rows.propsManySpec).at F).post enc Tryd.prog Tryd.f6 false true false false) := by
  obtain ⟨places, hx⟩ := propsMany_reads os enc
  refine returnsInHanded_of_row (C := Tryd.checked) (s := (Rows.OpenSpec.upto Rows.propsManySpec)) own_knob started (by kernel_rfl) Tryd.func6
    (witness_row_at (enc := enc) (C := Tryd.checked) false (laid_world os) #[.agg #[.int .i64 0, .int .u64 0, .int .u64 0, .slice none 0 0]] rfl (by kernel_rfl) (by kernel_rfl) (by kernel_rfl)
      (OpenSpec.preRow_of_cond 8 hx (by kernel_rfl) (fun k hk => by cases hk; kernel_rfl) (by kernel_rfl) (propsMany_met os))) ?_
  intro W base args ds gs before hval hW _ hcond hsz hL _ _
  exact propsMany_contract H enc W base args ds gs before hval hW hL (hcond _ rfl)
theorem propsMany_said : Rows.PropsManyUptoSaid :=
  OpenClaim.holds_of_cond 6 Tryd.f6 rfl rfl rfl rfl rfl rfl rfl ⟨rfl, rfl, rfl, rfl, rfl⟩ rfl rfl rfl rfl rfl (by kernel_rfl) Tryd.func6 (by kernel_rfl)
    (of_decide_eq_true (by kernel_rfl)) (by unfold Func.isWrapper; first | (rw [if_pos (by decide +kernel)]; kernel_rfl) | (rw [if_neg (by decide +kernel)]; exact ⟨rfl, rfl⟩))
    (fun os started H enc _ F => by rw [OpenClaim.pre_eq_preRow]; exact propsMany_lifted os started H enc F)
theorem propsMany_plain (f : FuncId) (fn : Func) (hf : Tryd.pinned.checked.prog.funcNamed "interchange/interchangelaw07.PropsMany" = some f) (hfn : Tryd.pinned.checked.prog.funcs[f]? = some fn) :
    false = Tryd.pinned.checked.prog.looks [] ∧ ∀ (j : Nat) t, fn.params[j]? = some t → Tryd.pinned.checked.prog.wantsStandIn t = false := by
  obtain rfl : f = 6 := Option.some.inj ((show Tryd.prog.funcNamed "interchange/interchangelaw07.PropsMany" = some 6 by kernel_rfl).symm.trans hf) |>.symm
  obtain rfl : fn = Tryd.f6 := (Option.some.inj (Tryd.func6.symm.trans hfn)).symm
  refine ⟨by kernel_rfl, fun j t ht => ?_⟩
  rw [Tryd.params6] at ht
  have hm := Array.mem_of_getElem? ht
  simp only [List.mem_toArray, List.mem_cons, List.not_mem_nil, or_false] at hm
  rcases hm with rfl
  · exact (show Tryd.prog.wantsStandIn 25 = false by kernel_rfl)
theorem propsMany_holds : Rows.PropsManyUptoCardSaid :=
  Claim7.holds_tied_plain_at .later [] _ _ _ _ propsMany_said (fun _ h => by cases h) (by kernel_rfl) (fun _ h => by cases h) propsManyUpto_row_tie rfl ⟨rfl, rfl⟩ (by kernel_rfl) rfl propsMany_plain (by kernel_rfl)
#print axioms propsMany_holds
end Go.Proofs.YthpfcplhlhnfeaaDoor.F
