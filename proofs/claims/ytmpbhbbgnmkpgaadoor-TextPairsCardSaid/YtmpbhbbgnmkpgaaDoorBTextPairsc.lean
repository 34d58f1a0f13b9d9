/- A name and a word without a byte 0 are told again; a name has no other bytes than names have, for every input. -/
import Derived.Test.YtmpbhbbgnmkpgaaDoorCards
import Derived.Test.YtmpbhbbgnmkpgaaDoorTie
import Derived.WalkKit
import Derived.ProofKit
import Derived.OpenShut
import Derived.Deep.DeepHandedRow
import Derived.Lib.LaidTab
import Derived.SizedLaws
import Derived.Carry
import Derived.SevenTiedAt
import Derived.Test.YtmpbhbbgnmkpgaaDoorBTextPairsa
import Derived.Test.YtmpbhbbgnmkpgaaDoorBTextPairsb
namespace Go.Proofs.YtmpbhbbgnmkpgaaDoor.F
open Go.RowKit Go.Proofs.YtmpbhbbgnmkpgaaDoorW.PrintWords Go.Proofs.YtmpbhbbgnmkpgaaDoorW.PrintLast Go.Proofs.YtmpbhbbgnmkpgaaDoorW.PrintMore
set_option linter.unusedVariables false
set_option linter.unusedSimpArgs false
theorem nm_f (s : ByteArray) (h : s.size ≤ 4611686018427387904) : text_Name.f s = some (nameB s) := by unfold text_Name.f; rw [if_pos h]
theorem pairs_of (a b : List UInt8) : (pairsL (0 :: (a ++ 0 :: b))).2.2 = !decide (0 ∈ a ∨ 0 ∈ b) ∧ (¬ (0 ∈ a ∨ 0 ∈ b) → pairsL (0 :: (a ++ 0 :: b)) = (toBA a, toBA b, true)) := by
  by_cases ha : (0 : UInt8) ∈ a
  · have hin : (0 : UInt8) ∈ a ++ 0 :: b := by simp
    have hg := Lib.indexByte_ge (a ++ 0 :: b) 0
    have h0 : 0 ≤ Lib.indexByte (a ++ 0 :: b) 0 := by
      by_cases m : Lib.indexByte (a ++ 0 :: b) 0 = -1
      · exact absurd hin ((ib_none 0 _).1 m)
      · omega
    obtain ⟨i1, i2, i3⟩ := ib_found 0 (a ++ 0 :: b) h0
    generalize hi : (Lib.indexByte (a ++ 0 :: b) 0).toNat = i at i1 i2 i3
    have hlt : i < a.length := by
      rcases Nat.lt_or_ge i a.length with h | h
      · exact h
      · exfalso; apply i3
        rw [List.take_append]
        rw [List.take_of_length_le h]
        exact List.mem_append_left _ ha
    have hd : (0 : UInt8) ∈ (a ++ 0 :: b).drop (i + 1) := by
      rw [List.drop_append_of_le_length (by omega)]
      exact List.mem_append_right _ (List.mem_cons_self)
    refine ⟨?_, fun h => absurd (.inl ha) h⟩
    simp only [pairsL, if_true]
    rw [if_neg (by omega), hi, if_pos hd, decide_eq_true (.inl ha)]; rfl
  · have hi := ib_app 0 a b ha
    have et : a.take a.length = a := List.take_length
    have e1 : (a ++ 0 :: b).take a.length = a := by rw [List.take_append_of_le_length (Nat.le_refl _), et]
    have e2 : (a ++ 0 :: b).drop (a.length + 1) = b := by rw [← List.drop_drop, List.drop_append_of_le_length (Nat.le_refl _)]; simp
    have hp : pairsL (0 :: (a ++ 0 :: b)) = if (0 : UInt8) ∈ b then (⟨#[]⟩, ⟨#[]⟩, false) else (toBA a, toBA b, true) := by
      simp only [pairsL, if_true]
      rw [hi, if_neg (by omega), Int.toNat_natCast, e1, e2]
    rw [hp]
    by_cases hb : (0 : UInt8) ∈ b
    · rw [if_pos hb, decide_eq_true (.inr hb)]
      exact ⟨rfl, fun h => absurd (.inr hb) h⟩
    · rw [if_neg hb, decide_eq_false (fun h => h.elim ha hb)]
      exact ⟨rfl, fun _ => rfl⟩
theorem pairs_j2 {k : Nat} (hk : 1 ≤ k) (s : ByteArray) (hs : s.size ≤ 140737488351232) : interchangelaw02_TextPairs.j2 k s true false = some true := by
  obtain ⟨k, rfl⟩ : ∃ j, k = j + 1 := ⟨k - 1, by omega⟩
  simp only [interchangelaw02_TextPairs.j2]
  rw [if_neg (by decide), if_pos trivial, nm_f s (by omega), Option.bind_some]
  by_cases h : nameB s = true
  · have h' := h
    unfold nameB at h'
    rw [Bool.and_eq_true, decide_eq_true_eq] at h'
    have hw : wrap64 ((s.size : Int) / 2) = ((s.size / 2 : Nat) : Int) := by unfold wrap64; omega
    have hn : nameB (s.extract (s.size / 2) s.size) = true := by
      unfold nameB
      rw [extract_drop, toBA_list, toBA_size, List.length_drop, size_list, Bool.and_eq_true, decide_eq_true_eq]
      refine ⟨?_, by omega⟩
      rw [List.all_eq_true] at h' ⊢
      exact fun x hx => h'.1 x (List.mem_of_mem_drop hx)
    rw [if_pos h, if_pos (by omega), hw, if_pos (by omega), if_pos (by omega), Int.toNat_natCast, nm_f _ (by rw [extract_size']; omega), Option.bind_some, hn]
  · rw [if_neg h]
theorem mem_take_succ (a : ByteArray) (i : Nat) (h : i < a.size) (P : Prop) [Decidable P] : decide (P ∨ (0 : UInt8) ∈ a.data.toList.take (i + 1)) = (decide (P ∨ (0 : UInt8) ∈ a.data.toList.take i) || (bt a (i : Int) == 0)) := by
  rw [List.take_succ_eq_append_getElem (by rw [size_list]; exact h), bt_get a i h]
  rw [Bool.eq_iff_iff]
  simp only [decide_eq_true_eq, List.mem_append, List.mem_singleton, Bool.or_eq_true, beq_iff_eq]
  have : (0 : UInt8) = a.data.toList[i]'(by rw [size_list]; exact h) ↔ ((a.data.toList[i]'(by rw [size_list]; exact h)).toNat : Int) = 0 := by
    rw [← UInt8.toNat_inj]
    constructor
    · intro e; rw [← e]; rfl
    · intro e; have : (0 : UInt8).toNat = 0 := rfl; omega
  rw [← this, or_assoc]
section
variable (a b s : ByteArray) (hb : b.size ≤ 140737488351232) (hs : s.size ≤ 140737488351232) (X : ByteArray × ByteArray × Bool)
  (h1 : X.2.2 = !decide ((0 : UInt8) ∈ a.data.toList ∨ (0 : UInt8) ∈ b.data.toList)) (h2 : ¬ ((0 : UInt8) ∈ a.data.toList ∨ (0 : UInt8) ∈ b.data.toList) → X = (a, b, true))
include hb hs h1 h2
theorem pairs_l1 (d : Nat) : ∀ (k i : Nat), i + d = b.size → d + 2 ≤ k →
    interchangelaw02_TextPairs.l1 k a b s true X.1 X.2.1 X.2.2 (decide ((0 : UInt8) ∈ a.data.toList ∨ (0 : UInt8) ∈ b.data.toList.take i)) (i : Int) = some true := by
  induction d with
  | zero =>
    intro k i hi hk
    obtain ⟨k, rfl⟩ : ∃ j, k = j + 1 := ⟨k - 1, by omega⟩
    simp only [interchangelaw02_TextPairs.l1]
    rw [if_neg (by omega), List.take_of_length_le (by rw [size_list]; omega)]
    have hj := pairs_j2 (k := k) (by omega) s hs
    by_cases Z : (0 : UInt8) ∈ a.data.toList ∨ (0 : UInt8) ∈ b.data.toList
    · rw [h1, decide_eq_true Z]
      simp [hj]
    · have hx := h2 Z
      rw [decide_eq_false Z, hx]
      simp [hj]
  | succ d ih =>
    intro k i hi hk
    obtain ⟨k, rfl⟩ : ∃ j, k = j + 1 := ⟨k - 1, by omega⟩
    have hn := ih k (i + 1) (by omega) (by omega)
    rw [mem_take_succ b i (by omega)] at hn
    simp only [interchangelaw02_TextPairs.l1]
    rw [if_pos (by omega), w_succ (by omega)]
    by_cases z : decide ((0 : UInt8) ∈ a.data.toList ∨ (0 : UInt8) ∈ b.data.toList.take i) = true
    · rw [z] at hn ⊢
      rw [if_pos rfl]
      exact hn
    · rw [Bool.not_eq_true] at z
      rw [z] at hn ⊢
      rw [if_neg (by decide), if_pos (by omega)]
      rw [Bool.false_or] at hn
      exact hn
theorem pairs_l0 (ha : a.size ≤ 140737488351232) (d : Nat) : ∀ (k i : Nat), i + d = a.size → d + b.size + 4 ≤ k →
    interchangelaw02_TextPairs.l0 k a b s true X.1 X.2.1 X.2.2 (decide (False ∨ (0 : UInt8) ∈ a.data.toList.take i)) (i : Int) = some true := by
  induction d with
  | zero =>
    intro k i hi hk
    obtain ⟨k, rfl⟩ : ∃ j, k = j + 1 := ⟨k - 1, by omega⟩
    have hj := pairs_l1 a b s hb hs X h1 h2 b.size k 0 (by omega) (by omega)
    simp only [interchangelaw02_TextPairs.l0]
    rw [if_neg (by omega), List.take_of_length_le (by rw [size_list]; omega)]
    have e : decide (False ∨ (0 : UInt8) ∈ a.data.toList) = decide ((0 : UInt8) ∈ a.data.toList ∨ (0 : UInt8) ∈ b.data.toList.take 0) := by simp
    rw [e]
    exact hj
  | succ d ih =>
    intro k i hi hk
    obtain ⟨k, rfl⟩ : ∃ j, k = j + 1 := ⟨k - 1, by omega⟩
    have hn := ih k (i + 1) (by omega) (by omega)
    rw [mem_take_succ a i (by omega)] at hn
    simp only [interchangelaw02_TextPairs.l0]
    rw [if_pos (by omega), w_succ (by omega)]
    by_cases z : decide (False ∨ (0 : UInt8) ∈ a.data.toList.take i) = true
    · rw [z] at hn ⊢
      rw [if_pos rfl]
      exact hn
    · rw [Bool.not_eq_true] at z
      rw [z] at hn ⊢
      rw [if_neg (by decide), if_pos (by omega)]
      rw [Bool.false_or] at hn
      exact hn
end
theorem textPairs_pure (b0 b1 b2 : ByteArray) (g0 : b0.size ≤ maxLen) (g1 : b1.size ≤ maxLen) (g2 : b2.size ≤ maxLen) (z0 : b0.size ≤ 140737488351232) (z1 : b1.size ≤ 140737488351232) (z2 : b2.size ≤ 140737488351232) : ∃ k, interchangelaw02_TextPairs.f k b0 b1 b2 = some true := by
  obtain ⟨k, hk⟩ : ∃ k : Nat, 1000000000000000 ≤ k := ⟨1000000000000000, Nat.le_refl _⟩
  refine ⟨k, ?_⟩
  have e1 : (⟨#[0]⟩ : ByteArray).size = 1 := rfl
  have hcat : (((⟨#[0]⟩ : ByteArray) ++ b0) ++ (⟨#[0]⟩ : ByteArray)) ++ b1 = toBA (0 :: (b0.data.toList ++ 0 :: b1.data.toList)) := eq_of_list (by
    rw [append_data, append_data, append_data, toBA_list]
    show ([0] ++ b0.data.toList) ++ [0] ++ b1.data.toList = _
    simp)
  unfold interchangelaw02_TextPairs.f
  rw [shown_k (by omega), Option.bind_some, if_pos (by omega), if_pos (by rw [size_append, e1]; omega), if_pos (by rw [size_append, size_append, e1]; omega), hcat, pairs_f _ (by rw [toBA_size, List.length_cons, List.length_append, List.length_cons, size_list, size_list]; omega), Option.bind_some, toBA_list]
  obtain ⟨p1, p2⟩ := pairs_of b0.data.toList b1.data.toList
  rw [← toBA_of, ← toBA_of] at p2
  have L := pairs_l0 b0 b1 b2 (by omega) (by omega) _ p1 p2 (by omega) b0.size k 0 (by omega) (by omega)
  have e : decide (False ∨ (0 : UInt8) ∈ b0.data.toList.take 0) = false := by simp
  rw [e] at L
  exact L
end Go.Proofs.YtmpbhbbgnmkpgaaDoor.F
namespace Go.Proofs.YtmpbhbbgnmkpgaaDoor.F
open Go.ChangeShapes Go.WideShapes Go.ChangeAt Go.RowKit Go.Proofs.YtmpbhbbgnmkpgaaDoorW.PrintWords Go.Proofs.YtmpbhbbgnmkpgaaDoorW.PrintLast
set_option linter.unusedVariables false
set_option linter.unusedSimpArgs false

set_option maxHeartbeats 2000000 in
theorem textPairs_contract (H : Type) (enc : TypeId × Value → H) (W : World) (base : Nat) (args : Array Value) (ds gs : List (DataW H)) (before : List MemPlace)
    (hval0 : ∀ (j : Nat) t v, Tryd.f3.params[j]? = some t → args[j]? = some v → Value.okWide Tryd.prog W .any base t v)
    (hW : DataW.Whole enc Tryd.prog Tryd.f3.params.toList Rows.textPairsSpec.vars false W args.toList ds gs before) (hL : laidMetH Tryd.prog Rows.textPairsRow.laid W)
    (hsz : (DataW.weightsEach Tryd.prog (Tryd.f3.params.toList ++ (OpenSpec.ofChange Rows.textPairsSpec).bare.plain.varTypes Tryd.prog) (ds ++ gs)).all (· ≤ reachBytes) = true) :
    Calls Tryd.prog 3 args W fun e W' => ∃ v, e = .returned v ∧ Rows.textPairsSpec.post enc Tryd.prog Tryd.f3 false true false false W args v W' := by
  have hW' := hW
  obtain ⟨p, q, hA0, hV, rfl, hfz, hnd⟩ := hW
  have hA : DataW.TrodAll enc Tryd.prog W 0 (fun _ => true) true Tryd.f3.params.toList args.toList ds p := hA0
  have hval : ∀ (j : Nat) t v, Tryd.f3.params[j]? = some t → args[j]? = some v → Value.okWide Tryd.prog W .any base t v := hval0
  have hsz' : (DataW.weightsEach Tryd.prog (Tryd.f3.params.toList ++ []) (ds ++ gs)).all (· ≤ reachBytes) = true := hsz
  rw [Tryd.params3] at hA hval hsz'
  obtain ⟨v0, vs0, d0, ds0, p0, q0, hargs, rfl, rfl, h0, r0⟩ := trodAll_cons hA
  obtain ⟨v1, vs1, d1, ds1, p1, q1, rfl, rfl, rfl, h1, r1⟩ := trodAll_cons r0
  obtain ⟨v2, vs2, d2, ds2, p2, q2, rfl, rfl, rfl, h2, r2⟩ := trodAll_cons r1
  obtain ⟨rfl, rfl, rfl⟩ := trodAll_nil r2
  obtain rfl : args = #[v0, v1, v2] := by cases args; simp_all
  obtain ⟨rfl, rfl⟩ := trodVars_none hV
  have hg := laid_of hL
  have k0 := h0
  have lt0 : ∀ x ∈ p0, x.block < W.heap.size := by obtain ⟨m, hm⟩ := k0; exact DataW.trod_lt m _ _ _ hm
  obtain ⟨fuel0, hf0⟩ := h0
  obtain ⟨b0, e0, g0, z0, u0⟩ := (opened_string Tryd.underlying9).out enc W fuel0 _ _ hf0
  obtain rfl := shape_string Tryd.underlying9 (hval 0 9 v0 rfl rfl) e0
  have k1 := h1
  have lt1 : ∀ x ∈ p1, x.block < W.heap.size := by obtain ⟨m, hm⟩ := k1; exact DataW.trod_lt m _ _ _ hm
  obtain ⟨fuel1, hf1⟩ := h1
  obtain ⟨b1, e1, g1, z1, u1⟩ := (opened_string Tryd.underlying9).out enc W fuel1 _ _ hf1
  obtain rfl := shape_string Tryd.underlying9 (hval 1 9 v1 rfl rfl) e1
  have k2 := h2
  have lt2 : ∀ x ∈ p2, x.block < W.heap.size := by obtain ⟨m, hm⟩ := k2; exact DataW.trod_lt m _ _ _ hm
  obtain ⟨fuel2, hf2⟩ := h2
  obtain ⟨b2, e2, g2, z2, u2⟩ := (opened_string Tryd.underlying9).out enc W fuel2 _ _ hf2
  obtain rfl := shape_string Tryd.underlying9 (hval 2 9 v2 rfl rfl) e2
  obtain ⟨k, hpure⟩ := textPairs_pure b0 b1 b2 g0 g1 g2 (z0 fun n hn => of_decide_eq_true (List.all_eq_true.1 hsz' n (DataW.weights_mem_each (j := 0) rfl rfl n hn))) (z1 fun n hn => of_decide_eq_true (List.all_eq_true.1 hsz' n (DataW.weights_mem_each (j := 1) rfl rfl n hn))) (z2 fun n hn => of_decide_eq_true (List.all_eq_true.1 hsz' n (DataW.weights_mem_each (j := 2) rfl rfl n hn)))
  refine (interchangelaw02_TextPairs.calls k b0 b1 b2 W hg  hpure).mono fun e W' ⟨he, bel⟩ => ?_
  subst he
  exact ⟨_, rfl, _, _, _, [], _, [], hW', trodAll_mk1 (shut_bool Tryd.underlying4 _), (trodAll_cons_mk (Below.trod laid_out (by kernel_rfl) (of_decide_eq_true (by kernel_rfl)) k0 bel lt0) (trodAll_cons_mk (Below.trod laid_out (by kernel_rfl) (of_decide_eq_true (by kernel_rfl)) k1 bel lt1) (trodAll_cons_mk (Below.trod laid_out (by kernel_rfl) (of_decide_eq_true (by kernel_rfl)) k2 bel lt2) trodAll_mk0))), rfl, bel.frame _, fun h => by cases h⟩

theorem textPairs_reads (os : Os) {H : Type} (enc : TypeId × Value → H) : ∃ places, DataW.whole enc Tryd.prog ((laid_world os).forCall (fun _ _ => 0) ⟨#[], #[.string ByteArray.empty, .string ByteArray.empty, .string ByteArray.empty], []⟩).memory Tryd.f3.params.toList Rows.textPairsSpec.vars false (#[.string ByteArray.empty, .string ByteArray.empty, .string ByteArray.empty] : Array Value).toList 8 = some ([.lit (.string []), .lit (.string []), .lit (.string [])], [], places) :=
  ⟨[], by kernel_rfl⟩
theorem textPairs_met (os : Os) : laidMet Tryd.prog Rows.textPairsRow.laid ((laid_world os).forCall (fun _ _ => 0) ⟨#[], #[.string ByteArray.empty, .string ByteArray.empty, .string ByteArray.empty], []⟩).memory :=
  laidMet_of_run' 8 (by kernel_rfl) (by kernel_rfl)
set_option maxRecDepth 100000 in
theorem textPairs_lifted (os : Os) (started : os.Started) (H : Type) (enc : TypeId × Value → H) (F : Stop.Interp) :
    ReturnsInHanded {} Tryd.checked os 3 .any ((OpenSpec.ofChange Rows.textPairsSpec).preRow enc Tryd.prog Tryd.f3 Rows.textPairsRow.domain false Rows.textPairsRow.laid) (((OpenSpec.ofChange Rows.textPairsSpec).at F).post enc Tryd.prog Tryd.f3 false true false false) := by
  obtain ⟨places, hx⟩ := textPairs_reads os enc
  refine returnsInHanded_of_row (C := Tryd.checked) (s := (OpenSpec.ofChange Rows.textPairsSpec)) own_knob started (by kernel_rfl) Tryd.func3
    (witness_row_at (enc := enc) (C := Tryd.checked) false (laid_world os) #[.string ByteArray.empty, .string ByteArray.empty, .string ByteArray.empty] rfl (by kernel_rfl) (by kernel_rfl) (by kernel_rfl)
      (OpenSpec.preRow_of_cond 8 hx (by kernel_rfl) (fun k hk => by cases hk) (by kernel_rfl) (textPairs_met os))) ?_
  intro W base args ds gs before hval hW _ hcond hsz hL _ _
  exact textPairs_contract H enc W base args ds gs before hval hW hL hsz
theorem textPairs_said : Rows.TextPairsSaid :=
  OpenClaim.holds_of_cond 3 Tryd.f3 rfl rfl rfl rfl rfl rfl rfl ⟨rfl, rfl, rfl, rfl, rfl⟩ rfl rfl rfl rfl rfl (by kernel_rfl) Tryd.func3 (by kernel_rfl)
    (of_decide_eq_true (by kernel_rfl)) (by unfold Func.isWrapper; first | (rw [if_pos (by decide +kernel)]; kernel_rfl) | (rw [if_neg (by decide +kernel)]; exact ⟨rfl, rfl⟩))
    (fun os started H enc _ F => by rw [OpenClaim.pre_eq_preRow]; exact textPairs_lifted os started H enc F)
theorem textPairs_plain (f : FuncId) (fn : Func) (hf : Tryd.pinned.checked.prog.funcNamed "interchange/interchangelaw02.TextPairs" = some f) (hfn : Tryd.pinned.checked.prog.funcs[f]? = some fn) :
    false = Tryd.pinned.checked.prog.looks [] ∧ ∀ (j : Nat) t, fn.params[j]? = some t → Tryd.pinned.checked.prog.wantsStandIn t = false := by
  obtain rfl : f = 3 := Option.some.inj ((show Tryd.prog.funcNamed "interchange/interchangelaw02.TextPairs" = some 3 by kernel_rfl).symm.trans hf) |>.symm
  obtain rfl : fn = Tryd.f3 := (Option.some.inj (Tryd.func3.symm.trans hfn)).symm
  refine ⟨by kernel_rfl, fun j t ht => ?_⟩
  rw [Tryd.params3] at ht
  have hm := Array.mem_of_getElem? ht
  simp only [List.mem_toArray, List.mem_cons, List.not_mem_nil, or_false] at hm
  rcases hm with rfl | rfl | rfl
  · exact (show Tryd.prog.wantsStandIn 9 = false by kernel_rfl)
  · exact (show Tryd.prog.wantsStandIn 9 = false by kernel_rfl)
  · exact (show Tryd.prog.wantsStandIn 9 = false by kernel_rfl)
theorem textPairs_holds : Rows.TextPairsCardSaid :=
  Claim7.holds_tied_plain_at .later [] _ _ _ _ textPairs_said (fun _ h => by cases h) (by kernel_rfl) (fun _ h => by cases h) textPairs_row_tie rfl ⟨rfl, rfl⟩ (by kernel_rfl) rfl textPairs_plain (by kernel_rfl)
#print axioms textPairs_holds
end Go.Proofs.YtmpbhbbgnmkpgaaDoor.F
