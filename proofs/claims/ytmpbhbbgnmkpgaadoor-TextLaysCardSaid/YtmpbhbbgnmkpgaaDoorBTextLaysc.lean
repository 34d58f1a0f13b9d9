/- Texts' bytes, and the texts of bytes, are as the document says, for every input. -/
import Derived.Test.YtmpbhbbgnmkpgaaDoorCards
import Derived.Test.YtmpbhbbgnmkpgaaDoorTie
import Derived.WalkKit
import Derived.ProofKit
import Derived.OpenShut
import Derived.Deep.DeepHandedRow
import Derived.Lib.LaidTab
import Derived.SizedLaws
import Derived.Carry
import Derived.SevenTiedAt
import Derived.Test.YtmpbhbbgnmkpgaaDoorBTextLaysa
import Derived.Test.YtmpbhbbgnmkpgaaDoorBTextLaysb
namespace Go.Proofs.YtmpbhbbgnmkpgaaDoor.F
open Go.RowKit Go.Proofs.YtmpbhbbgnmkpgaaDoorW.PrintWords Go.Proofs.YtmpbhbbgnmkpgaaDoorW.PrintLast Go.Proofs.YtmpbhbbgnmkpgaaDoorW.PrintMore
set_option linter.unusedVariables false
set_option linter.unusedSimpArgs false

theorem rtake_loop (s : ByteArray) (n : Nat) (hn : n ≤ 8) (hs : n ≤ s.size) (d : Nat) : ∀ (k i : Nat), n = i + d → d < k →
    interchangeref01_Take.l0 k s n ((beNum (s.data.toList.take i) : Nat) : Int) i = some (((beNum (s.data.toList.take n) : Nat) : Int), s.extract n s.size, 0) := by
  induction d with
  | zero =>
    intro k i hi hk
    obtain ⟨k, rfl⟩ : ∃ m, k = m + 1 := ⟨k - 1, by omega⟩
    obtain rfl : n = i := by omega
    simp only [interchangeref01_Take.l0]
    rw [if_neg (by omega), if_pos (by omega), if_pos (by omega)]
    simp
  | succ d ih =>
    intro k i hi hk
    obtain ⟨k, rfl⟩ : ∃ m, k = m + 1 := ⟨k - 1, by omega⟩
    simp only [interchangeref01_Take.l0]
    rw [if_pos (by omega), if_pos (by omega), if_pos (by omega), bt_get s i (by omega)]
    have hx : beNum (s.data.toList.take i) < 72057594037927936 := by
      have h1 := beNum_lt (s.data.toList.take i)
      have h2 : (s.data.toList.take i).length ≤ 7 := by rw [List.length_take]; omega
      have h3 : 256 ^ (s.data.toList.take i).length ≤ 256 ^ 7 := Nat.pow_le_pow_right (by decide) h2
      omega
    have hb := (s.data.toList[i]'(by simp only [Array.length_toList]; show i < s.size; omega)).toNat_lt
    rw [wrapU (x := 256 * _) (by omega) (by omega), wrapU (x := ((s.data.toList[i]'(by simp only [Array.length_toList]; show i < s.size; omega)).toNat : Int)) (by omega) (by omega), wrapU (by omega) (by omega)]
    have e3 : wrap64 ((i : Int) + 1) = ((i + 1 : Nat) : Int) := by rw [wrap64_of (by omega) (by omega)]; omega
    have e4 : (256 * ((beNum (s.data.toList.take i) : Nat) : Int) + ((s.data.toList[i]'(by simp only [Array.length_toList]; show i < s.size; omega)).toNat : Int)) = ((beNum (s.data.toList.take (i + 1)) : Nat) : Int) := by
      rw [take_succ_num s i (by omega)]; omega
    rw [e3, e4]
    exact ih k (i + 1) (by omega) (by omega)
theorem rtake_flag (k : Nat) (s : ByteArray) (a0 : Int) : interchangeref01_Take.f k s a0 = interchangeref01_Take.j0 k s a0 (decide (¬ isW a0)) := by
  unfold interchangeref01_Take.f isW
  by_cases h1 : a0 = 1
  · rw [if_pos h1]; simp [h1]
  by_cases h2 : a0 = 2
  · rw [if_neg h1, if_pos h2]; simp [h2]
  by_cases h4 : a0 = 4
  · rw [if_neg h1, if_neg h2, if_pos h4]; simp [h4]
  rw [if_neg h1, if_neg h2, if_neg h4]
  by_cases h8 : a0 = 8
  · simp [h8]
  · have : (a0 != 8) = true := by simp [h8]
    rw [this]
    simp [h1, h2, h4, h8]
theorem rtake_at (s : ByteArray) (n : Int) : interchangeref01_Take.f 11 s n = some (takeR s n) := by
  rw [rtake_flag]
  unfold takeR
  simp only [interchangeref01_Take.j0]
  by_cases hw : isW n
  · rw [if_pos hw, if_neg (by simp [hw])]
    by_cases hl : (s.size : Int) < n
    · rw [if_pos hl, if_pos hl]
    · rw [if_neg hl, if_neg hl]
      obtain ⟨m, rfl⟩ : ∃ m : Nat, n = m := ⟨n.toNat, by rcases hw with h | h | h | h <;> omega⟩
      have hm : m ≤ 8 := by rcases hw with h | h | h | h <;> omega
      have := rtake_loop s m hm (by omega) m 10 0 (by omega) (by omega)
      simpa [beNum] using this
  · rw [if_neg hw, if_pos (by simp [hw])]
theorem rtake_ev (s : ByteArray) (n : Int) : Ev (fun k => interchangeref01_Take.f k s n) (takeR s n) := Ev.of (interchangeref01_Take.mono s n) (rtake_at s n)
theorem rtake_k {k : Nat} (hk : 12 ≤ k) (s : ByteArray) (n : Int) : interchangeref01_Take.f k s n = some (takeR s n) := at_rounds (interchangeref01_Take.mono s n) (Nat.le_trans (by decide) hk) (rtake_at s n)
end Go.Proofs.YtmpbhbbgnmkpgaaDoor.F
namespace Go.Proofs.YtmpbhbbgnmkpgaaDoor.F
open Go.RowKit Go.Proofs.YtmpbhbbgnmkpgaaDoorW.PrintWords Go.Proofs.YtmpbhbbgnmkpgaaDoorW.PrintLast Go.Proofs.YtmpbhbbgnmkpgaaDoorW.PrintMore
set_option linter.unusedVariables false
set_option linter.unusedSimpArgs false

theorem rshort_f (s : ByteArray) (hz : s.size ≤ 4611686018427387904) : interchangeref02_Short.f s = some (layR 1 s) := by
  unfold interchangeref02_Short.f
  by_cases h : s.size ≤ 255
  · rw [if_neg (by omega), short_ok h, Option.bind_some, strOfNums_toBA]
    have e : ((s.size : Int) % 256).toNat = s.size % 256 := by omega
    simp only [List.map_cons, List.map_nil, e]
    rw [if_pos (by rw [toBA_size]; simp; omega)]
    rfl
  · rw [if_pos (by omega), short_bad h]
theorem rlong_k {k : Nat} (hk : 12 ≤ k) (s : ByteArray) (hz : s.size ≤ 4611686018427387904) : interchangeref02_Long.f k s = some (layR 4 s) := by
  unfold interchangeref02_Long.f layR
  rw [wrapU (by omega) (by omega), rput_k hk 4 _ (by omega) (by omega), Option.bind_some]
  by_cases e : (putR 4 s.size).2 = 0
  · have := put_size 4 s.size
    rw [if_pos e, if_pos e, if_pos (by omega)]
  · rw [if_neg e, if_neg e]
theorem take_four (s : ByteArray) : (takeR s 4).2.2 = 0 ∨ (takeR s 4).2.2 = 2 := by
  unfold takeR
  rw [if_pos isW4]
  split
  · exact .inr rfl
  · exact .inl rfl
theorem rtlong_k {k : Nat} (hk : 12 ≤ k) (s : ByteArray) (hz : s.size ≤ 4611686018427387904) : interchangeref02_TakeLong.f k s = some (ltakeR 4 s) := by
  unfold interchangeref02_TakeLong.f ltakeR
  rw [rtake_k hk, Option.bind_some]
  have hr := take_rest s 4
  have hb := (take_bound s 4).1
  have h4 := take_four s
  by_cases e : (takeR s 4).2.2 = 0
  · rw [if_pos e, if_pos e, wrapU (by omega) (by omega)]
    by_cases l : (takeR s 4).1 ≤ ((takeR s 4).2.1.size : Int)
    · rw [if_neg (by omega), if_pos (by omega), if_pos l, if_pos l]
    · rw [if_pos (by omega), if_neg l]
  · rw [if_neg e, if_neg e]
    rcases h4 with h | h
    · exact absurd h e
    · rw [h]
theorem bt_zero (s : ByteArray) (h : 0 < s.size) : bt s 0 = ((s.data.toList.headD 0).toNat : Int) := by
  rw [show (0 : Int) = ((0 : Nat) : Int) from rfl, bt_get s 0 h]
  have : ∀ (l : List UInt8) (hl : 0 < l.length), ((l[0].toNat : Nat) : Int) = ((l.headD 0).toNat : Int) := by
    intro l hl
    cases l with
    | nil => simp at hl
    | cons b r => rfl
  exact this _ _
theorem take_one (s : ByteArray) (h : 0 < s.size) : takeR s 1 = (((s.data.toList.headD 0).toNat : Int), s.extract 1 s.size, 0) := by
  unfold takeR
  rw [if_pos isW1, if_neg (by omega)]
  have : beNum (s.data.toList.take 1) = (s.data.toList.headD 0).toNat := by
    cases e : s.data.toList with
    | nil => rw [← size_list, e] at h; simp at h
    | cons b r => simp [beNum]
  show (((beNum (s.data.toList.take 1) : Nat) : Int), s.extract 1 s.size, (0 : Int)) = _
  rw [this]
theorem rtshort_f (s : ByteArray) (hz : s.size ≤ 4611686018427387904) : interchangeref02_TakeShort.f s = some (ltakeR 1 s) := by
  unfold interchangeref02_TakeShort.f
  by_cases h : s.size = 0
  · rw [if_pos (by omega)]
    have ht : takeR s 1 = (0, ⟨#[]⟩, 2) := by
      unfold takeR
      rw [if_pos isW1, if_pos (by omega)]
    unfold ltakeR
    rw [ht]
    rfl
  · have hp : 0 < s.size := by omega
    have t1 := take_one s hp
    have hv := (s.data.toList.headD 0).toNat_lt
    rw [if_neg (by omega), if_pos (by omega), bt_zero s hp]
    unfold ltakeR
    rw [t1]
    generalize (s.data.toList.headD 0).toNat = v at hv
    have w1 : wrap64 (1 + wrap64 (v : Int)) = ((1 + v : Nat) : Int) := by unfold wrap64; omega
    have hrs : (s.extract 1 s.size).size = s.size - 1 := by rw [extract_drop, toBA_size, List.length_drop, size_list]
    rw [w1]
    simp only
    rw [if_pos trivial, hrs]
    by_cases l : s.size < 1 + v
    · rw [if_pos (by omega), if_neg (by omega)]
    · rw [if_neg (by omega), if_pos (by omega), if_pos (by omega), if_pos (by omega), if_pos (by omega)]
      rw [Int.toNat_natCast, Int.toNat_natCast]
      have a1 : s.extract 1 (1 + v) = (s.extract 1 s.size).extract 0 v := eq_of_list (by
        rw [Lib.extract_data, extract_take, toBA_list, extract_drop, toBA_list]; congr 1; omega)
      have a2 : s.extract (1 + v) s.size = (s.extract 1 s.size).extract v (s.size - 1) := eq_of_list (by
        conv => rhs; rw [← hrs]
        rw [extract_drop, toBA_list, extract_drop, toBA_list, extract_drop, toBA_list, List.drop_drop])
      rw [a1, a2]
end Go.Proofs.YtmpbhbbgnmkpgaaDoor.F
namespace Go.Proofs.YtmpbhbbgnmkpgaaDoor.F
open Go.RowKit Go.Proofs.YtmpbhbbgnmkpgaaDoorW.PrintWords Go.Proofs.YtmpbhbbgnmkpgaaDoorW.PrintLast Go.Proofs.YtmpbhbbgnmkpgaaDoorW.PrintMore
set_option linter.unusedVariables false
set_option linter.unusedSimpArgs false
theorem textLays_pure (b0 : ByteArray) (g0 : b0.size ≤ maxLen) (z0 : b0.size ≤ 140737488351232) : ∃ k, interchangelaw02_TextLays.f k b0 = some true := by
  obtain ⟨k, hk⟩ : ∃ k : Nat, 100 ≤ k := ⟨100, Nat.le_refl _⟩
  refine ⟨k, ?_⟩
  unfold interchangelaw02_TextLays.f
  rw [shown_k (by omega), Option.bind_some, short_k (by omega) b0 (by omega), Option.bind_some, rshort_f b0 (by omega), Option.bind_some, long_k (by omega) b0 (by omega), Option.bind_some, rlong_k (by omega) b0 (by omega), Option.bind_some,
    tshort_k (by omega) b0 (by omega), Option.bind_some, rtshort_f b0 (by omega), Option.bind_some, tlong_k (by omega) b0 (by omega), Option.bind_some, rtlong_k (by omega) b0 (by omega), Option.bind_some]
  generalize layR 1 b0 = A
  generalize layR 4 b0 = B
  generalize ltakeR 1 b0 = C
  generalize ltakeR 4 b0 = D
  simp
end Go.Proofs.YtmpbhbbgnmkpgaaDoor.F
namespace Go.Proofs.YtmpbhbbgnmkpgaaDoor.F
open Go.ChangeShapes Go.WideShapes Go.ChangeAt Go.RowKit Go.Proofs.YtmpbhbbgnmkpgaaDoorW.PrintWords Go.Proofs.YtmpbhbbgnmkpgaaDoorW.PrintLast
set_option linter.unusedVariables false
set_option linter.unusedSimpArgs false

set_option maxHeartbeats 2000000 in
theorem textLays_contract (H : Type) (enc : TypeId × Value → H) (W : World) (base : Nat) (args : Array Value) (ds gs : List (DataW H)) (before : List MemPlace)
    (hval0 : ∀ (j : Nat) t v, Tryd.f8.params[j]? = some t → args[j]? = some v → Value.okWide Tryd.prog W .any base t v)
    (hW : DataW.Whole enc Tryd.prog Tryd.f8.params.toList Rows.textLaysSpec.vars false W args.toList ds gs before) (hL : laidMetH Tryd.prog Rows.textLaysRow.laid W)
    (hsz : (DataW.weightsEach Tryd.prog (Tryd.f8.params.toList ++ (OpenSpec.ofChange Rows.textLaysSpec).bare.plain.varTypes Tryd.prog) (ds ++ gs)).all (· ≤ reachBytes) = true) :
    Calls Tryd.prog 8 args W fun e W' => ∃ v, e = .returned v ∧ Rows.textLaysSpec.post enc Tryd.prog Tryd.f8 false true false false W args v W' := by
  have hW' := hW
  obtain ⟨p, q, hA0, hV, rfl, hfz, hnd⟩ := hW
  have hA : DataW.TrodAll enc Tryd.prog W 0 (fun _ => true) true Tryd.f8.params.toList args.toList ds p := hA0
  have hval : ∀ (j : Nat) t v, Tryd.f8.params[j]? = some t → args[j]? = some v → Value.okWide Tryd.prog W .any base t v := hval0
  have hsz' : (DataW.weightsEach Tryd.prog (Tryd.f8.params.toList ++ []) (ds ++ gs)).all (· ≤ reachBytes) = true := hsz
  rw [Tryd.params8] at hA hval hsz'
  obtain ⟨v0, vs0, d0, ds0, p0, q0, hargs, rfl, rfl, h0, r0⟩ := trodAll_cons hA
  obtain ⟨rfl, rfl, rfl⟩ := trodAll_nil r0
  obtain rfl : args = #[v0] := by cases args; simp_all
  obtain ⟨rfl, rfl⟩ := trodVars_none hV
  have hg := laid_of hL
  have k0 := h0
  have lt0 : ∀ x ∈ p0, x.block < W.heap.size := by obtain ⟨m, hm⟩ := k0; exact DataW.trod_lt m _ _ _ hm
  obtain ⟨fuel0, hf0⟩ := h0
  obtain ⟨b0, e0, g0, z0, u0⟩ := (opened_string Tryd.underlying9).out enc W fuel0 _ _ hf0
  obtain rfl := shape_string Tryd.underlying9 (hval 0 9 v0 rfl rfl) e0
  obtain ⟨k, hpure⟩ := textLays_pure b0 g0 (z0 fun n hn => of_decide_eq_true (List.all_eq_true.1 hsz' n (DataW.weights_mem_each (j := 0) rfl rfl n hn)))
  refine (interchangelaw02_TextLays.calls k b0 W hg  hpure).mono fun e W' ⟨he, bel⟩ => ?_
  subst he
  exact ⟨_, rfl, _, _, _, [], _, [], hW', trodAll_mk1 (shut_bool Tryd.underlying4 _), (trodAll_cons_mk (Below.trod laid_out (by kernel_rfl) (of_decide_eq_true (by kernel_rfl)) k0 bel lt0) trodAll_mk0), rfl, bel.frame _, fun h => by cases h⟩

theorem textLays_reads (os : Os) {H : Type} (enc : TypeId × Value → H) : ∃ places, DataW.whole enc Tryd.prog ((laid_world os).forCall (fun _ _ => 0) ⟨#[], #[.string ByteArray.empty], []⟩).memory Tryd.f8.params.toList Rows.textLaysSpec.vars false (#[.string ByteArray.empty] : Array Value).toList 8 = some ([.lit (.string [])], [], places) :=
  ⟨[], by kernel_rfl⟩
theorem textLays_met (os : Os) : laidMet Tryd.prog Rows.textLaysRow.laid ((laid_world os).forCall (fun _ _ => 0) ⟨#[], #[.string ByteArray.empty], []⟩).memory :=
  laidMet_of_run' 8 (by kernel_rfl) (by kernel_rfl)
set_option maxRecDepth 100000 in
theorem textLays_lifted (os : Os) (started : os.Started) (H : Type) (enc : TypeId × Value → H) (F : Stop.Interp) :
    ReturnsInHanded {} Tryd.checked os 8 .any ((OpenSpec.ofChange Rows.textLaysSpec).preRow enc Tryd.prog Tryd.f8 Rows.textLaysRow.domain false Rows.textLaysRow.laid) (((OpenSpec.ofChange Rows.textLaysSpec).at F).post enc Tryd.prog Tryd.f8 false true false false) := by
  obtain ⟨places, hx⟩ := textLays_reads os enc
  refine returnsInHanded_of_row (C := Tryd.checked) (s := (OpenSpec.ofChange Rows.textLaysSpec)) own_knob started (by kernel_rfl) Tryd.func8
    (witness_row_at (enc := enc) (C := Tryd.checked) false (laid_world os) #[.string ByteArray.empty] rfl (by kernel_rfl) (by kernel_rfl) (by kernel_rfl)
      (OpenSpec.preRow_of_cond 8 hx (by kernel_rfl) (fun k hk => by cases hk) (by kernel_rfl) (textLays_met os))) ?_
  intro W base args ds gs before hval hW _ hcond hsz hL _ _
  exact textLays_contract H enc W base args ds gs before hval hW hL hsz
theorem textLays_said : Rows.TextLaysSaid :=
  OpenClaim.holds_of_cond 8 Tryd.f8 rfl rfl rfl rfl rfl rfl rfl ⟨rfl, rfl, rfl, rfl, rfl⟩ rfl rfl rfl rfl rfl (by kernel_rfl) Tryd.func8 (by kernel_rfl)
    (of_decide_eq_true (by kernel_rfl)) (by unfold Func.isWrapper; first | (rw [if_pos (by decide +kernel)]; kernel_rfl) | (rw [if_neg (by decide +kernel)]; exact ⟨rfl, rfl⟩))
    (fun os started H enc _ F => by rw [OpenClaim.pre_eq_preRow]; exact textLays_lifted os started H enc F)
theorem textLays_plain (f : FuncId) (fn : Func) (hf : Tryd.pinned.checked.prog.funcNamed "interchange/interchangelaw02.TextLays" = some f) (hfn : Tryd.pinned.checked.prog.funcs[f]? = some fn) :
    false = Tryd.pinned.checked.prog.looks [] ∧ ∀ (j : Nat) t, fn.params[j]? = some t → Tryd.pinned.checked.prog.wantsStandIn t = false := by
  obtain rfl : f = 8 := Option.some.inj ((show Tryd.prog.funcNamed "interchange/interchangelaw02.TextLays" = some 8 by kernel_rfl).symm.trans hf) |>.symm
  obtain rfl : fn = Tryd.f8 := (Option.some.inj (Tryd.func8.symm.trans hfn)).symm
  refine ⟨by kernel_rfl, fun j t ht => ?_⟩
  rw [Tryd.params8] at ht
  have hm := Array.mem_of_getElem? ht
  simp only [List.mem_toArray, List.mem_cons, List.not_mem_nil, or_false] at hm
  rcases hm with rfl
  · exact (show Tryd.prog.wantsStandIn 9 = false by kernel_rfl)
theorem textLays_holds : Rows.TextLaysCardSaid :=
  Claim7.holds_tied_plain_at .later [] _ _ _ _ textLays_said (fun _ h => by cases h) (by kernel_rfl) (fun _ h => by cases h) textLays_row_tie rfl ⟨rfl, rfl⟩ (by kernel_rfl) rfl textLays_plain (by kernel_rfl)
#print axioms textLays_holds
end Go.Proofs.YtmpbhbbgnmkpgaaDoor.F
