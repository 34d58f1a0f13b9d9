/- The tables and values that bytes begin with, keys, and how deep a table is, are as the document says, for every input. -/
import Derived.Test.YthdkmohelampbaaDoorCards
import Derived.Test.YthdkmohelampbaaDoorTie
import Derived.WalkKit
import Derived.ProofKit
import Derived.OpenShut
import Derived.Deep.DeepHandedRow
import Derived.Lib.LaidTab
import Derived.SizedLaws
import Derived.Carry
import Derived.SevenTiedAt
import Derived.Test.YthdkmohelampbaaDoorBTableTakesa
import Derived.Test.YthdkmohelampbaaDoorBTableTakesb
import Derived.Test.YthdkmohelampbaaDoorBTableTakesc
import Derived.Test.YthdkmohelampbaaDoorBTableTakesd
namespace Go.Proofs.YthdkmohelampbaaDoor.F
open Go.RowKit Go.Proofs.YthdkmohelampbaaDoorW.PrintWords Go.Proofs.YthdkmohelampbaaDoorW.PrintLast Go.Proofs.YthdkmohelampbaaDoorW.PrintMore
set_option linter.unusedVariables false
set_option linter.unusedSimpArgs false
/-- a table, by the reference -/
def rTab (s : ByteArray) : Rk := if (ltakeR 4 s).2.2 = 0 then ((ltakeR 4 s).2.1, (rRow (rVal ((ltakeR 4 s).1.size + 1)) (ltakeR 4 s).1 1 true).1, (rRow (rVal ((ltakeR 4 s).1.size + 1)) (ltakeR 4 s).1 1 true).2) else (⟨#[]⟩, 0, 2)
theorem rtab_k {k : Nat} (hk : 12 ≤ k) (s : ByteArray) (hz : s.size ≤ 4611686018427387904) : interchangeref03_table.f k s = some (rTab s) := by
  unfold interchangeref03_table.f rTab
  rw [rinside_k hk s hz, Option.bind_some]
  by_cases e : (ltakeR 4 s).2.2 = 0
  · have := (ltake_size 4 s).1
    rw [if_pos e, if_pos e]
    have hr : interchangeref03_row.f (ltakeR 4 s).1 1 true = some (rRow (rVal ((ltakeR 4 s).1.size + 1)) (ltakeR 4 s).1 1 true) := by
      unfold interchangeref03_row.f
      rw [if_pos ⟨by omega, by decide, by decide⟩]
    rw [hr, Option.bind_some]
  · rw [if_neg e, if_neg e, ltake_fail e isW4]
theorem tab_alike (s : ByteArray) : Alike 0 (tabR s) (rTab s) := by
  rw [tabR_eq]
  have h := within_alike (one := fieldR valT) (val := rVal ((ltakeR 4 s).1.size + 1)) (fields := true) (field_less valT_less) (s := s) (dep := 0) (d := 0) (Int.le_refl _)
    (fun i d' hi hd' => one_alike (fun i2 hi2 => val_alike _ _ i2 _ d' (Nat.lt_succ_self _) (by omega) hd'))
  unfold rTab
  rw [if_neg (show ¬ (32 : Int) ≤ 0 by decide), Int.zero_add] at h
  exact h
theorem rcut {s : ByteArray} {t : Tk} {r : Rk} {d : Int} (ha : Alike d t r) (hl : t.2.1 = 0 → t.1.size ≤ s.size) (hz : s.size ≤ 4611686018427387904) :
    (if r.2.2 = 0 then (if 0 ≤ (wrap64 ((s.size : Int) - (r.1.size : Int))) then (if (wrap64 ((s.size : Int) - (r.1.size : Int))) ≤ (s.size : Int) then (some (s.extract 0 ((wrap64 ((s.size : Int) - (r.1.size : Int))) : Int).toNat, r.1, 0)) else (none)) else (none)) else (some ((⟨#[]⟩ : ByteArray), (⟨#[]⟩ : ByteArray), r.2.2))) = some (takenR s t) := by
  obtain ⟨a1, a2⟩ := ha
  unfold takenR
  rw [← a1]
  by_cases e : t.2.1 = 0
  · have h1 := (a2 e).1
    have h2 := hl e
    rw [if_pos e, if_pos e, ← h1, wrap64_of (by omega) (by omega), if_pos (by omega), if_pos (by omega)]
    have : ((s.size : Int) - (t.1.size : Int)).toNat = s.size - t.1.size := by omega
    rw [this]
  · rw [if_neg e, if_neg e]
theorem rTake_k {k : Nat} (hk : 12 ≤ k) (s : ByteArray) (hz : s.size ≤ 4611686018427387904) : interchangeref03_Take.f k s = some (takenR s (tabR s)) := by
  unfold interchangeref03_Take.f
  rw [rtab_k hk s hz, Option.bind_some]
  exact rcut (tab_alike s) (fun e => Nat.le_of_lt (tabR_less s e)) hz
theorem rValue_f (s : ByteArray) (hz : s.size ≤ 4611686018427387904) : interchangeref03_Value.f s = some (takenR s (tvalR s)) := by
  unfold interchangeref03_Value.f
  have hv : interchangeref03_value.f s 0 = some (rVal (s.size + 1) s 0) := by
    unfold interchangeref03_value.f
    rw [if_pos ⟨hz, by decide, by decide⟩]
  rw [hv, Option.bind_some]
  exact rcut (val_alike _ _ s 0 0 (Nat.lt_succ_self _) (Nat.lt_succ_self _) (Int.le_refl _)) (fun e => Nat.le_of_lt (tvalR_less s e)) hz
/-- where a table is taken, it is one deep at least -/
theorem tab_deep {s : ByteArray} (h : (tabR s).2.1 = 0) : (tabR s).2.2 = (rTab s).2.1 := by
  obtain ⟨a1, a2⟩ := tab_alike s
  have h1 := (a2 h).2
  have h2 : 1 ≤ (rTab s).2.1 := by
    rw [a1] at h
    unfold rTab at h ⊢
    by_cases e : (ltakeR 4 s).2.2 = 0
    · rw [if_pos e] at h ⊢
      have hi := items_alike (one := fieldR valT) (val := rVal ((ltakeR 4 s).1.size + 1)) (fields := true) (field_less valT_less) (ltakeR 4 s).1.size (ltakeR 4 s).1 1 1 (Int.le_refl _) (Int.le_refl _)
        (fun i d' hi hd' => one_alike (fun i2 hi2 => val_alike _ _ i2 _ d' (Nat.lt_succ_self _) (by omega) hd'))
      exact (hi.2 (hi.1.trans h)).1
    · rw [if_neg e] at h
      exact absurd h (show ¬ (2 : Int) = 0 by decide)
  omega
theorem rDeep_k {k : Nat} (hk : 12 ≤ k) (s : ByteArray) (hz : s.size ≤ 4611686018427387904) : interchangeref03_Deep.f k s = some (deepR s) := by
  unfold interchangeref03_Deep.f
  rw [rtab_k hk s hz, Option.bind_some]
  obtain ⟨a1, a2⟩ := tab_alike s
  unfold deepR wholeR
  rw [← a1]
  by_cases e : (tabR s).2.1 = 0
  · have hd := tab_deep e
    rw [if_pos e, if_pos e, ← (a2 e).1, ← hd]
    by_cases e0 : (tabR s).1.size = 0
    · rw [if_neg (by omega), if_pos e0, if_pos rfl]
    · rw [if_pos (by omega), if_neg e0]
      rfl
  · rw [if_neg e, if_neg e, if_neg e]
theorem both_l : ∀ (n : Nat) (s : ByteArray) (k : Nat) (a b : List ByteArray), s.size ≤ n → n < k → s.size ≤ 4611686018427387904 → a.length + n < 8796093022208 → b.length + n < 8796093022208 →
    interchangeref03_both.l0 k s a b = some (a ++ (fldR s).map (·.1), b ++ (fldR s).map (·.2)) := by
  intro n
  induction n with
  | zero =>
    intro s k a b hn hk _ _ _
    obtain ⟨k, rfl⟩ : ∃ j, k = j + 1 := ⟨k - 1, by omega⟩
    rw [interchangeref03_both.l0, if_neg (by omega), fldR_eq, if_pos (by omega)]
    simp
  | succ n ih =>
    intro s k a b hn hk hz ha hb
    obtain ⟨k, rfl⟩ : ∃ j, k = j + 1 := ⟨k - 1, by omega⟩
    rw [interchangeref03_both.l0]
    by_cases e : s.size = 0
    · rw [if_neg (by omega), fldR_eq, if_pos e]
      simp
    · have hl := left_less e
      have h2 := (ltake_size 1 s).2
      rw [if_pos (by omega), rtshort_f s hz, Option.bind_some, rValue_f _ (by omega), Option.bind_some, if_pos (by omega), if_pos (by omega)]
      have hh := ih (leftAt s) k (a ++ [keyAt s]) (b ++ [valAt s]) (by omega) (by omega) (by omega) (by simp only [List.length_append, List.length_singleton]; omega) (by simp only [List.length_append, List.length_singleton]; omega)
      unfold leftAt valAt taken1 keyAt at hh
      rw [hh, fldR_eq s, if_neg e]
      unfold leftAt valAt taken1 keyAt
      simp only [List.map_cons, List.append_assoc, List.singleton_append]
theorem whole_four {s : ByteArray} (h : wholeR s = 0) : 4 ≤ s.size ∧ inR s = s.extract 4 s.size := by
  obtain ⟨_, h1, _⟩ := whole_in h
  have ht : (takeR s 4).2.2 = 0 := by
    unfold ltakeR at h1
    by_cases e : (takeR s 4).2.2 = 0
    · exact e
    · rw [if_neg e] at h1; exact absurd h1 e
  unfold inR
  unfold takeR at ht ⊢
  rw [if_pos isW4] at ht ⊢
  by_cases c : (s.size : Int) < 4
  · rw [if_pos c] at ht
    exact absurd ht (show ¬ (2 : Int) = 0 by decide)
  · rw [if_neg c]
    exact ⟨by omega, rfl⟩
theorem both_k {k : Nat} {s : ByteArray} (h : wholeR s = 0) (hz : s.size ≤ 4294967299) (hk : s.size < k) : interchangeref03_both.f k s = some ((fldR (inR s)).map (·.1), (fldR (inR s)).map (·.2)) := by
  obtain ⟨h4, hi⟩ := whole_four h
  have hs := extract_size' s 4
  unfold interchangeref03_both.f
  rw [if_pos (by omega), ← hi]
  rw [← hi] at hs
  have := both_l s.size (inR s) k [] [] (by omega) hk (by omega) (by simp only [List.length_nil]; omega) (by simp only [List.length_nil]; omega)
  rw [this]
  rfl
theorem rKeys_k {k : Nat} (s : ByteArray) (hz : s.size ≤ 4611686018427387904) (hk : s.size + 12 < k) : interchangeref03_Keys.f k s = some (keysR s) := by
  unfold interchangeref03_Keys.f
  rw [rDeep_k (by omega) s (by omega), Option.bind_some]
  unfold deepR keysR
  by_cases e : wholeR s = 0
  · rw [if_pos e, if_pos e]
    simp only
    rw [if_pos trivial, both_k e (whole_small e) (by omega), Option.bind_some]
  · rw [if_neg e, if_neg e]
    simp only
    rw [if_neg e]
theorem find_l (key : ByteArray) (F : Fds) (hl : F.length ≤ 4611686018427387904) : ∀ (n i k : Nat), F.length = i + n → n < k →
    interchangeref03_Find.l0 k key (F.map (·.1)) (F.map (·.2)) (i : Int) = some (findF key (F.drop i)) := by
  intro n
  induction n with
  | zero =>
    intro i k h hk
    obtain ⟨k, rfl⟩ : ∃ j, k = j + 1 := ⟨k - 1, by omega⟩
    rw [interchangeref03_Find.l0, if_neg (by rw [List.length_map]; omega), List.drop_of_length_le (by omega)]
    rfl
  | succ n ih =>
    intro i k h hk
    obtain ⟨k, rfl⟩ : ∃ j, k = j + 1 := ⟨k - 1, by omega⟩
    have hd : F.drop i = F[i]'(by omega) :: F.drop (i + 1) := List.drop_eq_getElem_cons (by omega)
    have h1 : rdOf ByteArray.empty (F.map (·.1)) (i : Int) = (F[i]'(by omega)).1 := by
      unfold rdOf
      rw [Int.toNat_natCast]
      simp [show i < F.length by omega]
    have h2 : rdOf ByteArray.empty (F.map (·.2)) (i : Int) = (F[i]'(by omega)).2 := by
      unfold rdOf
      rw [Int.toNat_natCast]
      simp [show i < F.length by omega]
    have hw : wrap64 ((i : Int) + 1) = ((i + 1 : Nat) : Int) := by rw [wrap64_of (by omega) (by omega)]; omega
    rw [interchangeref03_Find.l0, if_pos (by rw [List.length_map]; omega), if_pos (by omega), h1, h2, hw, hd, findF]
    by_cases e : (F[i]'(by omega)).1.toList = key.toList
    · rw [if_pos e, if_pos e, if_pos (by rw [List.length_map]; omega)]
    · rw [if_neg e, if_neg e]
      exact ih (i + 1) k (by omega) (by omega)
theorem fld_len : ∀ (n : Nat) (s : ByteArray), s.size ≤ n → (fldR s).length ≤ n
  | 0, s, h => by rw [fldR_eq, if_pos (by omega)]; exact Nat.le_refl _
  | n + 1, s, h => by
    rw [fldR_eq]
    by_cases e : s.size = 0
    · rw [if_pos e]; exact Nat.zero_le _
    · rw [if_neg e, List.length_cons]
      have := fld_len n (leftAt s) (by have := left_less e; omega)
      omega
theorem rFind_k {k : Nat} (s key : ByteArray) (hz : s.size ≤ 4611686018427387904) (hk : s.size + 12 < k) : interchangeref03_Find.f k s key = some (findR s key) := by
  unfold interchangeref03_Find.f
  rw [rDeep_k (by omega) s (by omega), Option.bind_some]
  unfold deepR findR
  by_cases e : wholeR s = 0
  · rw [if_pos e, if_pos e]
    simp only
    have hi := take_rest s 4
    have hfl := fld_len s.size (inR s) hi
    rw [if_pos trivial, both_k e (whole_small e) (by omega), Option.bind_some]
    exact find_l key (fldR (inR s)) (by omega) (fldR (inR s)).length 0 k (by omega) (by omega)
  · rw [if_neg e, if_neg e]
    first | rfl | rw [if_neg e] | (simp only; rw [if_neg e])
theorem strings_l (a b : List ByteArray) (hl : a.length = b.length) (hz : a.length ≤ 4611686018427387904) : ∀ (n i k : Nat), a.length = i + n → n < k → interchangeref02_Strings.l0 k a b (i : Int) = some (decide (a.drop i = b.drop i)) := by
  intro n
  induction n with
  | zero =>
    intro i k h hk
    obtain ⟨k, rfl⟩ : ∃ j, k = j + 1 := ⟨k - 1, by omega⟩
    rw [interchangeref02_Strings.l0, if_neg (by omega), List.drop_of_length_le (by omega), List.drop_of_length_le (by omega)]
    rfl
  | succ n ih =>
    intro i k h hk
    obtain ⟨k, rfl⟩ : ∃ j, k = j + 1 := ⟨k - 1, by omega⟩
    have hd : ∀ (l : List ByteArray), i < l.length → l.drop i = rdOf ByteArray.empty l (i : Int) :: l.drop (i + 1) := by
      intro l hi
      rw [List.drop_eq_getElem_cons hi]
      congr 1
      unfold rdOf
      rw [Int.toNat_natCast]
      simp [hi]
    have hw : wrap64 ((i : Int) + 1) = ((i + 1 : Nat) : Int) := by rw [wrap64_of (by omega) (by omega)]; omega
    rw [interchangeref02_Strings.l0, if_pos (by omega), if_pos (by omega), if_pos (by omega), hw, hd a (by omega), hd b (by omega), ih (i + 1) k (by omega) (by omega)]
    by_cases e : (rdOf ByteArray.empty a (i : Int)).toList = (rdOf ByteArray.empty b (i : Int)).toList
    · rw [if_pos e]
      rw [toList_data, toList_data] at e
      have e' := eq_of_list e
      rw [e']
      congr 1
      simp
    · rw [if_neg e]
      have : ¬ rdOf ByteArray.empty a (i : Int) = rdOf ByteArray.empty b (i : Int) := fun h => e (by rw [h])
      congr 1
      simp [this]
theorem strings_k {k : Nat} (a b : List ByteArray) (hz : a.length ≤ 4611686018427387904) (hk : a.length < k) : interchangeref02_Strings.f k a b = some (decide (a = b)) := by
  unfold interchangeref02_Strings.f
  by_cases e : a.length = b.length
  · rw [if_pos (by omega)]
    exact strings_l a b e hz a.length 0 k (by omega) hk
  · rw [if_neg (by omega)]
    have : ¬ a = b := fun h => e (by rw [h])
    simp [this]
end Go.Proofs.YthdkmohelampbaaDoor.F
namespace Go.Proofs.YthdkmohelampbaaDoor.F
open Go.RowKit Go.Proofs.YthdkmohelampbaaDoorW.PrintWords Go.Proofs.YthdkmohelampbaaDoorW.PrintLast Go.Proofs.YthdkmohelampbaaDoorW.PrintMore
set_option linter.unusedVariables false
set_option linter.unusedSimpArgs false
theorem tableTakes_pure (b0 b1 : ByteArray) (g0 : b0.size ≤ maxLen) (g1 : b1.size ≤ maxLen) (z0 : b0.size ≤ 140737488351232) (z1 : b1.size ≤ 140737488351232) : ∃ k, interchangelaw03_TableTakes.f k b0 b1 = some true := by
  have hlen : (keysR b0).1.length ≤ b0.size := by
    unfold keysR
    split
    · have hi := take_rest b0 4
      have := fld_len b0.size (inR b0) hi
      simp only [List.length_map]
      exact this
    · exact Nat.zero_le _
  obtain ⟨k, hk⟩ : ∃ k : Nat, b0.size + 100 ≤ k := ⟨_, Nat.le_refl _⟩
  refine ⟨k, ?_⟩
  have h1 : table_Take.f b0 = some (takenR b0 (tabR b0)) := by unfold table_Take.f; rw [if_pos (by omega)]
  have h2 : table_Value.f b0 = some (takenR b0 (tvalR b0)) := by unfold table_Value.f; rw [if_pos (by omega)]
  have h3 : table_Keys.f b0 = some (keysR b0) := by unfold table_Keys.f; rw [if_pos (by omega)]
  have h4 : table_Deep.f b0 = some (deepR b0) := by unfold table_Deep.f; rw [if_pos (by omega)]
  have h5 : table_Find.f b0 b1 = some (findR b0 b1) := by unfold table_Find.f; rw [if_pos (by omega)]
  unfold interchangelaw03_TableTakes.f
  rw [shown_t, Option.bind_some, h1, Option.bind_some, rTake_k (by omega) b0 (by omega), Option.bind_some, h2, Option.bind_some, rValue_f b0 (by omega), Option.bind_some, h3, Option.bind_some,
    rKeys_k b0 (by omega) (by omega), Option.bind_some, h4, Option.bind_some, rDeep_k (by omega) b0 (by omega), Option.bind_some, h5, Option.bind_some, rFind_k b0 b1 (by omega) (by omega), Option.bind_some,
    strings_k _ _ (by omega) (by omega), Option.bind_some]
  generalize takenR b0 (tabR b0) = a
  generalize takenR b0 (tvalR b0) = b
  generalize keysR b0 = c
  generalize deepR b0 = d
  generalize findR b0 b1 = e
  simp
end Go.Proofs.YthdkmohelampbaaDoor.F
namespace Go.Proofs.YthdkmohelampbaaDoor.F
open Go.ChangeShapes Go.WideShapes Go.ChangeAt Go.RowKit Go.Proofs.YthdkmohelampbaaDoorW.PrintWords Go.Proofs.YthdkmohelampbaaDoorW.PrintLast
set_option linter.unusedVariables false
set_option linter.unusedSimpArgs false

set_option maxHeartbeats 2000000 in
theorem tableTakes_contract (H : Type) (enc : TypeId × Value → H) (W : World) (base : Nat) (args : Array Value) (ds gs : List (DataW H)) (before : List MemPlace)
    (hval0 : ∀ (j : Nat) t v, Tryd.f8.params[j]? = some t → args[j]? = some v → Value.okWide Tryd.prog W .any base t v)
    (hW : DataW.Whole enc Tryd.prog Tryd.f8.params.toList Rows.tableTakesSpec.vars false W args.toList ds gs before) (hL : laidMetH Tryd.prog Rows.tableTakesRow.laid W)
    (hsz : (DataW.weightsEach Tryd.prog (Tryd.f8.params.toList ++ (OpenSpec.ofChange Rows.tableTakesSpec).bare.plain.varTypes Tryd.prog) (ds ++ gs)).all (· ≤ reachBytes) = true) :
    Calls Tryd.prog 8 args W fun e W' => ∃ v, e = .returned v ∧ Rows.tableTakesSpec.post enc Tryd.prog Tryd.f8 false true false false W args v W' := by
  have hW' := hW
  obtain ⟨p, q, hA0, hV, rfl, hfz, hnd⟩ := hW
  have hA : DataW.TrodAll enc Tryd.prog W 0 (fun _ => true) true Tryd.f8.params.toList args.toList ds p := hA0
  have hval : ∀ (j : Nat) t v, Tryd.f8.params[j]? = some t → args[j]? = some v → Value.okWide Tryd.prog W .any base t v := hval0
  have hsz' : (DataW.weightsEach Tryd.prog (Tryd.f8.params.toList ++ []) (ds ++ gs)).all (· ≤ reachBytes) = true := hsz
  rw [Tryd.params8] at hA hval hsz'
  obtain ⟨v0, vs0, d0, ds0, p0, q0, hargs, rfl, rfl, h0, r0⟩ := trodAll_cons hA
  obtain ⟨v1, vs1, d1, ds1, p1, q1, rfl, rfl, rfl, h1, r1⟩ := trodAll_cons r0
  obtain ⟨rfl, rfl, rfl⟩ := trodAll_nil r1
  obtain rfl : args = #[v0, v1] := by cases args; simp_all
  obtain ⟨rfl, rfl⟩ := trodVars_none hV
  have hg := laid_of hL
  have k0 := h0
  have lt0 : ∀ x ∈ p0, x.block < W.heap.size := by obtain ⟨m, hm⟩ := k0; exact DataW.trod_lt m _ _ _ hm
  obtain ⟨fuel0, hf0⟩ := h0
  obtain ⟨b0, e0, g0, z0, u0⟩ := (opened_string Tryd.underlying9).out enc W fuel0 _ _ hf0
  obtain rfl := shape_string Tryd.underlying9 (hval 0 9 v0 rfl rfl) e0
  have k1 := h1
  have lt1 : ∀ x ∈ p1, x.block < W.heap.size := by obtain ⟨m, hm⟩ := k1; exact DataW.trod_lt m _ _ _ hm
  obtain ⟨fuel1, hf1⟩ := h1
  obtain ⟨b1, e1, g1, z1, u1⟩ := (opened_string Tryd.underlying9).out enc W fuel1 _ _ hf1
  obtain rfl := shape_string Tryd.underlying9 (hval 1 9 v1 rfl rfl) e1
  obtain ⟨k, hpure⟩ := tableTakes_pure b0 b1 g0 g1 (z0 fun n hn => of_decide_eq_true (List.all_eq_true.1 hsz' n (DataW.weights_mem_each (j := 0) rfl rfl n hn))) (z1 fun n hn => of_decide_eq_true (List.all_eq_true.1 hsz' n (DataW.weights_mem_each (j := 1) rfl rfl n hn)))
  refine (interchangelaw03_TableTakes.calls k b0 b1 W hg  hpure).mono fun e W' ⟨he, bel⟩ => ?_
  subst he
  exact ⟨_, rfl, _, _, _, [], _, [], hW', trodAll_mk1 (shut_bool Tryd.underlying4 _), (trodAll_cons_mk (Below.trod laid_out (by kernel_rfl) (of_decide_eq_true (by kernel_rfl)) k0 bel lt0) (trodAll_cons_mk (Below.trod laid_out (by kernel_rfl) (of_decide_eq_true (by kernel_rfl)) k1 bel lt1) trodAll_mk0)), rfl, bel.frame _, fun h => by cases h⟩

theorem tableTakes_reads (os : Os) {H : Type} (enc : TypeId × Value → H) : ∃ places, DataW.whole enc Tryd.prog ((laid_world os).forCall (fun _ _ => 0) ⟨#[], #[.string ByteArray.empty, .string ByteArray.empty], []⟩).memory Tryd.f8.params.toList Rows.tableTakesSpec.vars false (#[.string ByteArray.empty, .string ByteArray.empty] : Array Value).toList 8 = some ([.lit (.string []), .lit (.string [])], [], places) :=
  ⟨[], by kernel_rfl⟩
theorem tableTakes_met (os : Os) : laidMet Tryd.prog Rows.tableTakesRow.laid ((laid_world os).forCall (fun _ _ => 0) ⟨#[], #[.string ByteArray.empty, .string ByteArray.empty], []⟩).memory :=
  laidMet_of_run' 8 (by kernel_rfl) (by kernel_rfl)
set_option maxRecDepth 100000 in
theorem tableTakes_lifted (os : Os) (started : os.Started) (H : Type) (enc : TypeId × Value → H) (F : Stop.Interp) :
    ReturnsInHanded {} Tryd.checked os 8 .any ((OpenSpec.ofChange Rows.tableTakesSpec).preRow enc Tryd.prog Tryd.f8 Rows.tableTakesRow.domain false Rows.tableTakesRow.laid) (((OpenSpec.ofChange Rows.tableTakesSpec).at F).post enc Tryd.prog Tryd.f8 false true false false) := by
  obtain ⟨places, hx⟩ := tableTakes_reads os enc
  refine returnsInHanded_of_row (C := Tryd.checked) (s := (OpenSpec.ofChange Rows.tableTakesSpec)) own_knob started (by kernel_rfl) Tryd.func8
    (witness_row_at (enc := enc) (C := Tryd.checked) false (laid_world os) #[.string ByteArray.empty, .string ByteArray.empty] rfl (by kernel_rfl) (by kernel_rfl) (by kernel_rfl)
      (OpenSpec.preRow_of_cond 8 hx (by kernel_rfl) (fun k hk => by cases hk) (by kernel_rfl) (tableTakes_met os))) ?_
  intro W base args ds gs before hval hW _ hcond hsz hL _ _
  exact tableTakes_contract H enc W base args ds gs before hval hW hL hsz
theorem tableTakes_said : Rows.TableTakesSaid :=
  OpenClaim.holds_of_cond 8 Tryd.f8 rfl rfl rfl rfl rfl rfl rfl ⟨rfl, rfl, rfl, rfl, rfl⟩ rfl rfl rfl rfl rfl (by kernel_rfl) Tryd.func8 (by kernel_rfl)
    (of_decide_eq_true (by kernel_rfl)) (by unfold Func.isWrapper; first | (rw [if_pos (by decide +kernel)]; kernel_rfl) | (rw [if_neg (by decide +kernel)]; exact ⟨rfl, rfl⟩))
    (fun os started H enc _ F => by rw [OpenClaim.pre_eq_preRow]; exact tableTakes_lifted os started H enc F)
theorem tableTakes_plain (f : FuncId) (fn : Func) (hf : Tryd.pinned.checked.prog.funcNamed "interchange/interchangelaw03.TableTakes" = some f) (hfn : Tryd.pinned.checked.prog.funcs[f]? = some fn) :
    false = Tryd.pinned.checked.prog.looks [] ∧ ∀ (j : Nat) t, fn.params[j]? = some t → Tryd.pinned.checked.prog.wantsStandIn t = false := by
  obtain rfl : f = 8 := Option.some.inj ((show Tryd.prog.funcNamed "interchange/interchangelaw03.TableTakes" = some 8 by kernel_rfl).symm.trans hf) |>.symm
  obtain rfl : fn = Tryd.f8 := (Option.some.inj (Tryd.func8.symm.trans hfn)).symm
  refine ⟨by kernel_rfl, fun j t ht => ?_⟩
  rw [Tryd.params8] at ht
  have hm := Array.mem_of_getElem? ht
  simp only [List.mem_toArray, List.mem_cons, List.not_mem_nil, or_false] at hm
  rcases hm with rfl | rfl
  · exact (show Tryd.prog.wantsStandIn 9 = false by kernel_rfl)
  · exact (show Tryd.prog.wantsStandIn 9 = false by kernel_rfl)
theorem tableTakes_holds : Rows.TableTakesCardSaid :=
  Claim7.holds_tied_plain_at .later [] _ _ _ _ tableTakes_said (fun _ h => by cases h) (by kernel_rfl) (fun _ h => by cases h) tableTakes_row_tie rfl ⟨rfl, rfl⟩ (by kernel_rfl) rfl tableTakes_plain (by kernel_rfl)
#print axioms tableTakes_holds
end Go.Proofs.YthdkmohelampbaaDoor.F
