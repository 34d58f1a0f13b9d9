/- Bits that were put are taken, 64 at most; what is taken is put as it was, for every input. -/
import Derived.Test.YtpcfpeejbhkbdaaDoorCards
import Derived.Test.YtpcfpeejbhkbdaaDoorTie
import Derived.Test.YtpcfpeejbhkbdaaDoorFinterchangelaw01NumBitsBack
import Derived.Test.YtpcfpeejbhkbdaaDoorFHlaid
import Derived.Test.YtpcfpeejbhkbdaaDoorFPNumBitsBack
import Derived.WalkKit
import Derived.ProofKit
import Derived.OpenShut
import Derived.Deep.DeepHandedRow
import Derived.Lib.LaidTab
import Derived.SizedLaws
import Derived.Carry
import Derived.SevenTiedAt
namespace Go.Proofs.YtpcfpeejbhkbdaaDoor.F
open Go.ChangeShapes Go.WideShapes Go.ChangeAt Go.RowKit Go.Proofs.YtpcfpeejbhkbdaaDoorW.PrintWords Go.Proofs.YtpcfpeejbhkbdaaDoorW.PrintLast
set_option linter.unusedVariables false
set_option linter.unusedSimpArgs false

set_option maxHeartbeats 2000000 in
theorem numBitsBack_contract (H : Type) (enc : TypeId × Value → H) (W : World) (base : Nat) (args : Array Value) (ds gs : List (DataW H)) (before : List MemPlace)
    (hval0 : ∀ (j : Nat) t v, Tryd.f9.params[j]? = some t → args[j]? = some v → Value.okWide Tryd.prog W .any base t v)
    (hW : DataW.Whole enc Tryd.prog Tryd.f9.params.toList Rows.numBitsBackSpec.vars false W args.toList ds gs before) (hL : laidMetH Tryd.prog Rows.numBitsBackRow.laid W)
    (hsz : (DataW.weightsEach Tryd.prog (Tryd.f9.params.toList ++ (OpenSpec.ofChange Rows.numBitsBackSpec).bare.plain.varTypes Tryd.prog) (ds ++ gs)).all (· ≤ reachBytes) = true) :
    Calls Tryd.prog 9 args W fun e W' => ∃ v, e = .returned v ∧ Rows.numBitsBackSpec.post enc Tryd.prog Tryd.f9 false true false false W args v W' := by
  have hW' := hW
  obtain ⟨p, q, hA0, hV, rfl, hfz, hnd⟩ := hW
  have hA : DataW.TrodAll enc Tryd.prog W 0 (fun _ => true) true Tryd.f9.params.toList args.toList ds p := hA0
  have hval : ∀ (j : Nat) t v, Tryd.f9.params[j]? = some t → args[j]? = some v → Value.okWide Tryd.prog W .any base t v := hval0
  have hsz' : (DataW.weightsEach Tryd.prog (Tryd.f9.params.toList ++ []) (ds ++ gs)).all (· ≤ reachBytes) = true := hsz
  rw [Tryd.params9] at hA hval hsz'
  obtain ⟨v0, vs0, d0, ds0, p0, q0, hargs, rfl, rfl, h0, r0⟩ := trodAll_cons hA
  obtain ⟨rfl, rfl, rfl⟩ := trodAll_nil r0
  obtain rfl : args = #[v0] := by cases args; simp_all
  obtain ⟨rfl, rfl⟩ := trodVars_none hV
  have hg := laid_of hL
  have k0 := h0
  have lt0 : ∀ x ∈ p0, x.block < W.heap.size := by obtain ⟨m, hm⟩ := k0; exact DataW.trod_lt m _ _ _ hm
  obtain ⟨fuel0, hf0⟩ := h0
  obtain ⟨b0, e0, g0, z0, u0⟩ := (opened_struct4 (n0 := 1) (n1 := 1) (n2 := 1) (n3 := 1) Tryd.underlying48 (by kernel_rfl) (by kernel_rfl) rfl (opened_slice Tryd.underlying28 (by kernel_rfl) (opened_bool Tryd.underlying4)) (by kernel_rfl) rfl (opened_string Tryd.underlying9) (by kernel_rfl) rfl (opened_string Tryd.underlying9) (by kernel_rfl) rfl (opened_int (k := .i64) Tryd.underlying3)).out enc W fuel0 _ _ hf0
  obtain ⟨c0_0_0, c0_0_1, c0_0_2, c0_0_3, eq0_0, e0_0_0, e0_0_1, e0_0_2, e0_0_3⟩ := e0
  obtain ⟨A0_0_0, cc0_0_0, rfl, hc0_0_0, hr0_0_0⟩ := e0_0_0
  replace e0_0_1 : c0_0_1 = [.string b0.2.1] := e0_0_1
  subst e0_0_1
  replace e0_0_2 : c0_0_2 = [.string b0.2.2.1] := e0_0_2
  subst e0_0_2
  replace e0_0_3 : c0_0_3 = [.int .i64 b0.2.2.2] := e0_0_3
  subst e0_0_3
  (try subst eq0_0)
  have hvv0 := shape_struct Tryd.underlying48 (hval 0 48 v0 rfl rfl) eq0_0
  simp only [List.cons_append, List.nil_append] at hvv0
  subst hvv0
  obtain ⟨k, hpure⟩ := numBitsBack_pure b0 g0 (z0 fun n hn => of_decide_eq_true (List.all_eq_true.1 hsz' n (DataW.weights_mem_each (j := 0) rfl rfl n hn)))
  refine (interchangelaw01_NumBitsBack.calls k A0_0_0 cc0_0_0 b0.1 b0.2.1 b0.2.2.1 b0.2.2.2 true W hg hr0_0_0 hc0_0_0 hpure).mono fun e W' ⟨he, bel⟩ => ?_
  subst he
  exact ⟨_, rfl, _, _, _, [], _, [], hW', trodAll_mk1 (shut_bool Tryd.underlying4 _), (trodAll_cons_mk (Below.trod laid_out (by kernel_rfl) (of_decide_eq_true (by kernel_rfl)) k0 bel lt0) trodAll_mk0), rfl, bel.frame _, fun h => by cases h⟩

theorem numBitsBack_reads (os : Os) {H : Type} (enc : TypeId × Value → H) : ∃ places, DataW.whole enc Tryd.prog ((laid_world os).forCall (fun _ _ => 0) ⟨#[], #[.agg #[.slice none 0 0, .string ByteArray.empty, .string ByteArray.empty, .int .i64 0]], []⟩).memory Tryd.f9.params.toList Rows.numBitsBackSpec.vars false (#[.agg #[.slice none 0 0, .string ByteArray.empty, .string ByteArray.empty, .int .i64 0]] : Array Value).toList 8 = some ([.agg [.nil, .lit (.string []), .lit (.string []), .lit (.int .i64 0)]], [], places) :=
  ⟨[], by kernel_rfl⟩
theorem numBitsBack_met (os : Os) : laidMet Tryd.prog Rows.numBitsBackRow.laid ((laid_world os).forCall (fun _ _ => 0) ⟨#[], #[.agg #[.slice none 0 0, .string ByteArray.empty, .string ByteArray.empty, .int .i64 0]], []⟩).memory :=
  laidMet_of_run' 8 (by kernel_rfl) (by kernel_rfl)
set_option maxRecDepth 100000 in
theorem numBitsBack_lifted (os : Os) (started : os.Started) (H : Type) (enc : TypeId × Value → H) (F : Stop.Interp) :
    ReturnsInHanded {} Tryd.checked os 9 .any ((OpenSpec.ofChange Rows.numBitsBackSpec).preRow enc Tryd.prog Tryd.f9 Rows.numBitsBackRow.domain false Rows.numBitsBackRow.laid) (((OpenSpec.ofChange Rows.numBitsBackSpec).at F).post enc Tryd.prog Tryd.f9 false true false false) := by
  obtain ⟨places, hx⟩ := numBitsBack_reads os enc
  refine returnsInHanded_of_row (C := Tryd.checked) (s := (OpenSpec.ofChange Rows.numBitsBackSpec)) own_knob started (by kernel_rfl) Tryd.func9
    (witness_row_at (enc := enc) (C := Tryd.checked) false (laid_world os) #[.agg #[.slice none 0 0, .string ByteArray.empty, .string ByteArray.empty, .int .i64 0]] rfl (by kernel_rfl) (by kernel_rfl) (by kernel_rfl)
      (OpenSpec.preRow_of_cond 8 hx (by kernel_rfl) (fun k hk => by cases hk) (by kernel_rfl) (numBitsBack_met os))) ?_
  intro W base args ds gs before hval hW _ hcond hsz hL _ _
  exact numBitsBack_contract H enc W base args ds gs before hval hW hL hsz
theorem numBitsBack_said : Rows.NumBitsBackSaid :=
  OpenClaim.holds_of_cond 9 Tryd.f9 rfl rfl rfl rfl rfl rfl rfl ⟨rfl, rfl, rfl, rfl, rfl⟩ rfl rfl rfl rfl rfl (by kernel_rfl) Tryd.func9 (by kernel_rfl)
    (of_decide_eq_true (by kernel_rfl)) (by unfold Func.isWrapper; first | (rw [if_pos (by decide +kernel)]; kernel_rfl) | (rw [if_neg (by decide +kernel)]; exact ⟨rfl, rfl⟩))
    (fun os started H enc _ F => by rw [OpenClaim.pre_eq_preRow]; exact numBitsBack_lifted os started H enc F)
theorem numBitsBack_plain (f : FuncId) (fn : Func) (hf : Tryd.pinned.checked.prog.funcNamed "interchange/interchangelaw01.NumBitsBack" = some f) (hfn : Tryd.pinned.checked.prog.funcs[f]? = some fn) :
    false = Tryd.pinned.checked.prog.looks [] ∧ ∀ (j : Nat) t, fn.params[j]? = some t → Tryd.pinned.checked.prog.wantsStandIn t = false := by
  obtain rfl : f = 9 := Option.some.inj ((show Tryd.prog.funcNamed "interchange/interchangelaw01.NumBitsBack" = some 9 by kernel_rfl).symm.trans hf) |>.symm
  obtain rfl : fn = Tryd.f9 := (Option.some.inj (Tryd.func9.symm.trans hfn)).symm
  refine ⟨by kernel_rfl, fun j t ht => ?_⟩
  rw [Tryd.params9] at ht
  have hm := Array.mem_of_getElem? ht
  simp only [List.mem_toArray, List.mem_cons, List.not_mem_nil, or_false] at hm
  rcases hm with rfl
  · exact (show Tryd.prog.wantsStandIn 48 = false by kernel_rfl)
theorem numBitsBack_holds : Rows.NumBitsBackCardSaid :=
  Claim7.holds_tied_plain_at .later [] _ _ _ _ numBitsBack_said (fun _ h => by cases h) (by kernel_rfl) (fun _ h => by cases h) numBitsBack_row_tie rfl ⟨rfl, rfl⟩ (by kernel_rfl) rfl numBitsBack_plain (by kernel_rfl)
#print axioms numBitsBack_holds
end Go.Proofs.YtpcfpeejbhkbdaaDoor.F
