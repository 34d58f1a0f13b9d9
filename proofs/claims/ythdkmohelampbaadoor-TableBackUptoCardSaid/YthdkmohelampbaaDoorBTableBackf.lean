/- What is made is taken, whatever stands behind it; its keys are those that it was made with; the first value of each is found, for every input whose bulk is at most 1048576 (the second form). -/
import Derived.Test.YthdkmohelampbaaDoorCards
import Derived.Test.YthdkmohelampbaaDoorTie
import Derived.WalkKit
import Derived.ProofKit
import Derived.OpenShut
import Derived.Deep.DeepHandedRow
import Derived.Lib.LaidTab
import Derived.SizedLaws
import Derived.Carry
import Derived.SevenTiedAt
import Derived.Test.YthdkmohelampbaaDoorBTableBacka
import Derived.Test.YthdkmohelampbaaDoorBTableBackb
import Derived.Test.YthdkmohelampbaaDoorBTableBackc
import Derived.Test.YthdkmohelampbaaDoorBTableBackd
import Derived.Test.YthdkmohelampbaaDoorBTableBacke
namespace Go.Proofs.YthdkmohelampbaaDoor.F
open Go.RowKit Go.Proofs.YthdkmohelampbaaDoorW.PrintWords Go.Proofs.YthdkmohelampbaaDoorW.PrintLast Go.Proofs.YthdkmohelampbaaDoorW.PrintMore
set_option linter.unusedVariables false
set_option linter.unusedSimpArgs false
theorem bulk_texts (l : List ByteArray) : (l.map (fun a => a.size + 1)).sum = sumB l + l.length := by
  unfold sumB
  induction l with
  | nil => rfl
  | cons x l ih => simp only [List.map_cons, List.sum_cons, List.length_cons, ih]; omega
theorem fst_zip : ∀ (ks vs : List ByteArray), ks.length = vs.length → (ks.zip vs).map (·.1) = ks
  | [], _, _ => by simp
  | k :: ks, [], h => by simp at h
  | k :: ks, v :: vs, h => by
    simp only [List.length_cons, Nat.add_right_cancel_iff] at h
    rw [List.zip_cons_cons, List.map_cons, fst_zip ks vs h]
theorem whole_taken {t : ByteArray} (h : wholeR t = 0) (more : ByteArray) : takenR (t ++ more) (tabR (t ++ more)) = (t, more, 0) := by
  unfold wholeR at h
  by_cases e : (tabR t).2.1 = 0
  · rw [if_pos e] at h
    by_cases e0 : (tabR t).1.size = 0
    · obtain ⟨a, ha, _, hm, _⟩ := tab_pre e
      have hr := ba_empty e0
      rw [hr, app_empty] at ha
      subst ha
      have h2 := hm more
      generalize tabR (t ++ more) = T at h2 ⊢
      subst h2
      exact taken_pre rfl rfl
    · rw [if_neg e0] at h
      exact absurd h (show ¬ (3 : Int) = 0 by decide)
  · rw [if_neg e] at h
    exact absurd h e
/-- a table that is made is told again -/
theorem made_back (ks vs : List ByteArray) (hz : (flatF ks vs).size ≤ 4294967295) (h : (makeR ks vs).2 = 0) :
    ks.length = vs.length ∧ keysR (makeR ks vs).1 = (ks, 0) ∧ (∀ more, takenR ((makeR ks vs).1 ++ more) (tabR ((makeR ks vs).1 ++ more)) = ((makeR ks vs).1, more, 0)) ∧ ∀ key, findR (makeR ks vs).1 key = findF key (ks.zip vs) := by
  obtain ⟨h1, h2, _⟩ := make_iff ks vs hz
  obtain ⟨hl, ho, hw⟩ := h1.1 h
  rw [h2 h]
  have ht := lay_take (n := 4) ⟨#[]⟩ (long_zero hz)
  rw [app_empty] at ht
  have hin : inR (layR 4 (flatF ks vs)).1 = flatF ks vs := by rw [(whole_in hw).1, ht]
  have hf := fld_flat ks vs hl ho
  refine ⟨hl, ?_, whole_taken hw, fun key => ?_⟩
  · unfold keysR
    rw [if_pos hw, hin, hf, fst_zip ks vs hl]
  · unfold findR
    rw [if_pos hw, hin, hf]
theorem findF_zip (key : ByteArray) : ∀ (ks vs : List ByteArray) (i : Nat), ks.length = vs.length → i < ks.length → (∀ j, j < i → ¬ (ks.getD j ByteArray.empty).toList = key.toList) → (ks.getD i ByteArray.empty).toList = key.toList → findF key (ks.zip vs) = (vs.getD i ByteArray.empty, true)
  | [], _, i, _, h, _, _ => absurd h (Nat.not_lt_zero _)
  | k :: ks, [], i, h, _, _, _ => by simp at h
  | k :: ks, v :: vs, 0, h, _, _, e => by
    rw [List.zip_cons_cons, findF, if_pos (show (k, v).fst.toList = key.toList from e)]
    rfl
  | k :: ks, v :: vs, i + 1, h, hi, hn, e => by
    simp only [List.length_cons, Nat.add_right_cancel_iff] at h
    rw [List.zip_cons_cons, findF, if_neg (show ¬ (k, v).fst.toList = key.toList from hn 0 (Nat.zero_lt_succ _))]
    exact findF_zip key ks vs i h (by simpa using hi) (fun j hj => hn (j + 1) (by omega)) e
theorem back_loop (ks vs : List ByteArray) (t : ByteArray) (i : Nat) (hi : i < ks.length) (hl : ks.length = vs.length) (hz : ks.length ≤ 4611686018427387904) (hF : ∀ key, table_Find.f t key = some (findF key (ks.zip vs))) :
    ∀ (d k n : Nat), n + d = i → d < k → (∀ j, j < n → ¬ (ks.getD j ByteArray.empty).toList = (ks.getD i ByteArray.empty).toList) → interchangelaw03_TableBack.l0 k ks vs (i : Int) true t (n : Int) = some true := by
  intro d
  induction d with
  | zero =>
    intro k n h hk hn
    obtain ⟨k, rfl⟩ : ∃ j, k = j + 1 := ⟨k - 1, by omega⟩
    obtain rfl : n = i := by omega
    have hr : rdOf ByteArray.empty ks (n : Int) = ks.getD n ByteArray.empty := rfl
    have hr2 : rdOf ByteArray.empty vs (n : Int) = vs.getD n ByteArray.empty := rfl
    rw [interchangelaw03_TableBack.l0, if_neg (by omega), if_pos (by omega), if_pos (by omega), hr, hF, Option.bind_some, findF_zip _ ks vs n hl hi hn rfl, if_pos rfl, if_pos rfl, if_pos (by omega), hr2, beq_self_eq_true]
  | succ d ih =>
    intro k n h hk hn
    obtain ⟨k, rfl⟩ : ∃ j, k = j + 1 := ⟨k - 1, by omega⟩
    have hr : ∀ n : Nat, rdOf ByteArray.empty ks (n : Int) = ks.getD n ByteArray.empty := fun _ => rfl
    have hw : wrap64 ((n : Int) + 1) = ((n + 1 : Nat) : Int) := by rw [wrap64_of (by omega) (by omega)]; omega
    rw [interchangelaw03_TableBack.l0, if_pos (by omega), if_pos (by omega), if_pos (by omega), if_pos (by omega), if_pos (by omega), hr, hr, hw]
    by_cases e : (ks.getD n ByteArray.empty).toList = (ks.getD i ByteArray.empty).toList
    · rw [if_pos e]
    · rw [if_neg e]
      refine ih k (n + 1) (by omega) (by omega) (fun j hj => ?_)
      by_cases hj2 : j = n
      · subst hj2; exact e
      · exact hn j (by omega)
theorem tableBack_pure (b0 : List ByteArray × List ByteArray × ByteArray × Int) (g0 : (b0.1.length ≤ maxLen ∧ ∀ x ∈ b0.1, x.size ≤ maxLen) ∧ (b0.2.1.length ≤ maxLen ∧ ∀ x ∈ b0.2.1, x.size ≤ maxLen) ∧ b0.2.2.1.size ≤ maxLen ∧ (Lit.int .i64 b0.2.2.2).wf = true)
    (hb : (fun a => (fun l => (l.map (fun a => a.size + 1)).sum + 1) a.1 + (fun l => (l.map (fun a => a.size + 1)).sum + 1) a.2.1 + (fun a => a.size + 1) a.2.2.1 + (fun _ => 1) a.2.2.2) b0 ≤ 1048576) : ∃ k, interchangelaw03_TableBack.f k b0.1 b0.2.1 b0.2.2.1 b0.2.2.2 = some true := by
  obtain ⟨ks, vs, more, i⟩ := b0
  have hz : ((ks.map (fun a => a.size + 1)).sum + 1) + ((vs.map (fun a => a.size + 1)).sum + 1) + (more.size + 1) + 1 ≤ 1048576 := hb
  rw [bulk_texts, bulk_texts] at hz
  clear g0 hb
  have hfl := flat_size ks vs
  have hmk := make_iff ks vs (by omega)
  have hbk := made_back ks vs (by omega)
  have hM : table_Make.f ks vs = some (makeR ks vs) := by
    unfold table_Make.f
    rw [if_pos (by unfold makeOk; omega)]
  have hlz := lay_size 4 (flatF ks vs)
  obtain ⟨k, hk⟩ : ∃ k : Nat, ks.length + 100 ≤ k := ⟨_, Nat.le_refl _⟩
  obtain ⟨k, rfl⟩ : ∃ j, k = j + 2 := ⟨k - 2, by omega⟩
  refine ⟨k + 2, ?_⟩
  simp only
  unfold interchangelaw03_TableBack.f
  rw [shown_t, Option.bind_some]
  by_cases c : (ks.length : Int) > 60
  · rw [if_pos c]
  rw [if_neg c, hM, Option.bind_some]
  obtain ⟨-, m1, m2⟩ := hmk
  clear hM
  have hsz : (makeR ks vs).1.size ≤ 1048576 * 10 := by
    by_cases e : (makeR ks vs).2 = 0
    · rw [m1 e]; omega
    · rw [m2 e]; exact Nat.zero_le _
  generalize makeR ks vs = m at m1 m2 hbk hsz ⊢
  obtain ⟨t, q⟩ := m
  simp only at m1 m2 hbk hsz ⊢
  by_cases e : q = 0
  · obtain ⟨hl, h2, h3, h4⟩ := hbk e
    have hT : table_Take.f (t ++ more) = some (t, more, 0) := by
      unfold table_Take.f
      rw [if_pos (by rw [size_append]; omega), h3]
    have hK : table_Keys.f t = some (ks, 0) := by
      unfold table_Keys.f
      rw [if_pos (by omega), h2]
    have hF : ∀ key, table_Find.f t key = some (findF key (ks.zip vs)) := by
      intro key
      unfold table_Find.f
      rw [if_pos (by omega), h4]
    rw [if_pos e, if_pos (by omega), hT, Option.bind_some, hK, Option.bind_some]
    simp only
    rw [strings_k ks ks (by omega) (by omega), Option.bind_some, if_pos trivial, if_pos trivial, if_pos trivial, if_pos trivial, decide_eq_true (show ks = ks from rfl), interchangelaw03_TableBack.j0, if_neg (by decide)]
    by_cases c1 : i < 0
    · rw [if_pos c1, interchangelaw03_TableBack.j1, if_pos rfl, if_pos rfl, beq_iff_eq.2 (by omega)]
    rw [if_neg c1]
    by_cases c2 : i ≥ (ks.length : Int)
    · rw [if_pos c2, interchangelaw03_TableBack.j1, if_pos rfl, if_pos rfl, beq_iff_eq.2 (by omega)]
    rw [if_neg c2, interchangelaw03_TableBack.j1, bne_eq_false_iff_eq.2 (by omega), if_neg (by decide)]
    obtain ⟨n, rfl⟩ : ∃ n : Nat, i = (n : Int) := ⟨i.toNat, by omega⟩
    exact back_loop ks vs t n (by omega) hl (by omega) hF n k 0 (by omega) (by omega) (fun j hj => absurd hj (Nat.not_lt_zero _))
  · have := m2 e
    subst this
    rw [if_neg e, if_pos trivial]
    rw [toList_data]
    rfl
end Go.Proofs.YthdkmohelampbaaDoor.F
namespace Go.Proofs.YthdkmohelampbaaDoor.F
open Go.ChangeShapes Go.WideShapes Go.ChangeAt Go.RowKit Go.Proofs.YthdkmohelampbaaDoorW.PrintWords Go.Proofs.YthdkmohelampbaaDoorW.PrintLast
set_option linter.unusedVariables false
set_option linter.unusedSimpArgs false

set_option maxHeartbeats 2000000 in
theorem tableBack_contract (H : Type) (enc : TypeId × Value → H) (W : World) (base : Nat) (args : Array Value) (ds gs : List (DataW H)) (before : List MemPlace)
    (hval0 : ∀ (j : Nat) t v, Tryd.f7.params[j]? = some t → args[j]? = some v → Value.okWide Tryd.prog W .any base t v)
    (hW : DataW.Whole enc Tryd.prog Tryd.f7.params.toList Rows.tableBackSpec.vars false W args.toList ds gs before) (hL : laidMetH Tryd.prog Rows.tableBackUptoRow.laid W)
    (hk : Rows.uptoSmall H (ds ++ gs) = true) :
    Calls Tryd.prog 7 args W fun e W' => ∃ v, e = .returned v ∧ Rows.tableBackSpec.post enc Tryd.prog Tryd.f7 false true false false W args v W' := by
  have hW' := hW
  obtain ⟨p, q, hA0, hV, rfl, hfz, hnd⟩ := hW
  have hA : DataW.TrodAll enc Tryd.prog W 0 (fun _ => true) true Tryd.f7.params.toList args.toList ds p := hA0
  have hval : ∀ (j : Nat) t v, Tryd.f7.params[j]? = some t → args[j]? = some v → Value.okWide Tryd.prog W .any base t v := hval0
  rw [Tryd.params7] at hA hval
  obtain ⟨v0, vs0, d0, ds0, p0, q0, hargs, rfl, rfl, h0, r0⟩ := trodAll_cons hA
  obtain ⟨rfl, rfl, rfl⟩ := trodAll_nil r0
  obtain rfl : args = #[v0] := by cases args; simp_all
  obtain ⟨rfl, rfl⟩ := trodVars_none hV
  have hg := laid_of hL
  have k0 := h0
  have lt0 : ∀ x ∈ p0, x.block < W.heap.size := by obtain ⟨m, hm⟩ := k0; exact DataW.trod_lt m _ _ _ hm
  obtain ⟨fuel0, hf0⟩ := h0
  obtain ⟨b0, e0, g0, z0, u0⟩ := (opened_struct4 (n0 := 1) (n1 := 1) (n2 := 1) (n3 := 1) Tryd.underlying39 (by kernel_rfl) (by kernel_rfl) rfl (opened_slice Tryd.underlying27 (by kernel_rfl) (opened_string Tryd.underlying9)) (by kernel_rfl) rfl (opened_slice Tryd.underlying27 (by kernel_rfl) (opened_string Tryd.underlying9)) (by kernel_rfl) rfl (opened_string Tryd.underlying9) (by kernel_rfl) rfl (opened_int (k := .i64) Tryd.underlying3)).out enc W fuel0 _ _ hf0
  obtain ⟨c0_0_0, c0_0_1, c0_0_2, c0_0_3, eq0_0, e0_0_0, e0_0_1, e0_0_2, e0_0_3⟩ := e0
  obtain ⟨A0_0_0, cc0_0_0, rfl, hc0_0_0, hr0_0_0⟩ := e0_0_0
  obtain ⟨A0_0_1, cc0_0_1, rfl, hc0_0_1, hr0_0_1⟩ := e0_0_1
  replace e0_0_2 : c0_0_2 = [.string b0.2.2.1] := e0_0_2
  subst e0_0_2
  replace e0_0_3 : c0_0_3 = [.int .i64 b0.2.2.2] := e0_0_3
  subst e0_0_3
  (try subst eq0_0)
  have hvv0 := shape_struct Tryd.underlying39 (hval 0 39 v0 rfl rfl) eq0_0
  simp only [List.cons_append, List.nil_append] at hvv0
  subst hvv0
  have hbulk : Rows.uptoBulk d0 ≤ 1048576 := by
    have := of_decide_eq_true hk
    simp only [List.append_nil, Rows.uptoBulkAll] at this
    omega
  have hbb : (fun a => (fun l => (l.map (fun a => a.size + 1)).sum + 1) a.1 + (fun l => (l.map (fun a => a.size + 1)).sum + 1) a.2.1 + (fun a => a.size + 1) a.2.2.1 + (fun _ => 1) a.2.2.2) b0 ≤ 1048576 := by
    have y0 : (fun a => (fun l => (l.map (fun a => a.size + 1)).sum + 1) a.1 + (fun l => (l.map (fun a => a.size + 1)).sum + 1) a.2.1 + (fun a => a.size + 1) a.2.2.1 + (fun _ => 1) a.2.2.2) b0 ≤ Rows.uptoBulk d0 := u0
    omega
  obtain ⟨k, hpure⟩ := tableBack_pure b0 g0 hbb
  refine (interchangelaw03_TableBack.calls k A0_0_0 cc0_0_0 b0.1 A0_0_1 cc0_0_1 b0.2.1 b0.2.2.1 b0.2.2.2 W hg hr0_0_0 hc0_0_0 hr0_0_1 hc0_0_1 hpure).mono fun e W' ⟨he, bel⟩ => ?_
  subst he
  exact ⟨_, rfl, _, _, _, [], _, [], hW', trodAll_mk1 (shut_bool Tryd.underlying4 _), (trodAll_cons_mk (Below.trod laid_out (by kernel_rfl) (of_decide_eq_true (by kernel_rfl)) k0 bel lt0) trodAll_mk0), rfl, bel.frame _, fun h => by cases h⟩

theorem tableBack_reads (os : Os) {H : Type} (enc : TypeId × Value → H) : ∃ places, DataW.whole enc Tryd.prog ((laid_world os).forCall (fun _ _ => 0) ⟨#[], #[.agg #[.slice none 0 0, .slice none 0 0, .string ByteArray.empty, .int .i64 0]], []⟩).memory Tryd.f7.params.toList Rows.tableBackSpec.vars false (#[.agg #[.slice none 0 0, .slice none 0 0, .string ByteArray.empty, .int .i64 0]] : Array Value).toList 8 = some ([.agg [.nil, .nil, .lit (.string []), .lit (.int .i64 0)]], [], places) :=
  ⟨[], by kernel_rfl⟩
theorem tableBack_met (os : Os) : laidMet Tryd.prog Rows.tableBackUptoRow.laid ((laid_world os).forCall (fun _ _ => 0) ⟨#[], #[.agg #[.slice none 0 0, .slice none 0 0, .string ByteArray.empty, .int .i64 0]], []⟩).memory :=
  laidMet_of_run' 8 (by kernel_rfl) (by kernel_rfl)
set_option maxRecDepth 100000 in
theorem tableBack_lifted (os : Os) (started : os.Started) (H : Type) (enc : TypeId × Value → H) (F : Stop.Interp) :
    ReturnsInHanded {} Tryd.checked os 7 .any ((Rows.OpenSpec.upto Rows.tableBackSpec).preRow enc Tryd.prog Tryd.f7 Rows.tableBackUptoRow.domain false Rows.tableBackUptoRow.laid) (((Rows.OpenSpec.upto Rows.tableBackSpec).at F).post enc Tryd.prog Tryd.f7 false true false false) := by
  obtain ⟨places, hx⟩ := tableBack_reads os enc
  refine returnsInHanded_of_row (C := Tryd.checked) (s := (Rows.OpenSpec.upto Rows.tableBackSpec)) own_knob started (by kernel_rfl) Tryd.func7
    (witness_row_at (enc := enc) (C := Tryd.checked) false (laid_world os) #[.agg #[.slice none 0 0, .slice none 0 0, .string ByteArray.empty, .int .i64 0]] rfl (by kernel_rfl) (by kernel_rfl) (by kernel_rfl)
      (OpenSpec.preRow_of_cond 8 hx (by kernel_rfl) (fun k hk => by cases hk; kernel_rfl) (by kernel_rfl) (tableBack_met os))) ?_
  intro W base args ds gs before hval hW _ hcond hsz hL _ _
  exact tableBack_contract H enc W base args ds gs before hval hW hL (hcond _ rfl)
theorem tableBack_said : Rows.TableBackUptoSaid :=
  OpenClaim.holds_of_cond 7 Tryd.f7 rfl rfl rfl rfl rfl rfl rfl ⟨rfl, rfl, rfl, rfl, rfl⟩ rfl rfl rfl rfl rfl (by kernel_rfl) Tryd.func7 (by kernel_rfl)
    (of_decide_eq_true (by kernel_rfl)) (by unfold Func.isWrapper; first | (rw [if_pos (by decide +kernel)]; kernel_rfl) | (rw [if_neg (by decide +kernel)]; exact ⟨rfl, rfl⟩))
    (fun os started H enc _ F => by rw [OpenClaim.pre_eq_preRow]; exact tableBack_lifted os started H enc F)
theorem tableBack_plain (f : FuncId) (fn : Func) (hf : Tryd.pinned.checked.prog.funcNamed "interchange/interchangelaw03.TableBack" = some f) (hfn : Tryd.pinned.checked.prog.funcs[f]? = some fn) :
    false = Tryd.pinned.checked.prog.looks [] ∧ ∀ (j : Nat) t, fn.params[j]? = some t → Tryd.pinned.checked.prog.wantsStandIn t = false := by
  obtain rfl : f = 7 := Option.some.inj ((show Tryd.prog.funcNamed "interchange/interchangelaw03.TableBack" = some 7 by kernel_rfl).symm.trans hf) |>.symm
  obtain rfl : fn = Tryd.f7 := (Option.some.inj (Tryd.func7.symm.trans hfn)).symm
  refine ⟨by kernel_rfl, fun j t ht => ?_⟩
  rw [Tryd.params7] at ht
  have hm := Array.mem_of_getElem? ht
  simp only [List.mem_toArray, List.mem_cons, List.not_mem_nil, or_false] at hm
  rcases hm with rfl
  · exact (show Tryd.prog.wantsStandIn 39 = false by kernel_rfl)
theorem tableBack_holds : Rows.TableBackUptoCardSaid :=
  Claim7.holds_tied_plain_at .later [] _ _ _ _ tableBack_said (fun _ h => by cases h) (by kernel_rfl) (fun _ h => by cases h) tableBackUpto_row_tie rfl ⟨rfl, rfl⟩ (by kernel_rfl) rfl tableBack_plain (by kernel_rfl)
#print axioms tableBack_holds
end Go.Proofs.YthdkmohelampbaaDoor.F
