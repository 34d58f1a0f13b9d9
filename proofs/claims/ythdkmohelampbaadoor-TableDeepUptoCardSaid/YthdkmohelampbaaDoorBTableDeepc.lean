/- A table that has another one as a value is one deeper than that; up to 32, for every input whose bulk is at most 1048576 (the second form). -/
import Derived.Shelf.RegionOpen
import Derived.Maps.AppendAt
import Derived.Test.YthdkmohelampbaaDoorCards
import Derived.Test.YthdkmohelampbaaDoorTie
import Derived.WalkKit
import Derived.ProofKit
import Derived.OpenShut
import Derived.Deep.DeepHandedRow
import Derived.Lib.LaidTab
import Derived.SizedLaws
import Derived.Carry
import Derived.SevenTiedAt
import Derived.Test.YthdkmohelampbaaDoorBTableDeepa
import Derived.Test.YthdkmohelampbaaDoorBTableDeepb
namespace Go.Proofs.YthdkmohelampbaaDoor.F
open Go.RowKit Go.Proofs.YthdkmohelampbaaDoorW.PrintWords Go.Proofs.YthdkmohelampbaaDoorW.PrintLast Go.Proofs.YthdkmohelampbaaDoorW.PrintMore
set_option linter.unusedVariables false
set_option linter.unusedSimpArgs false
theorem items_congr {one one' : ByteArray → Int → Int → Tk} (hl : Less one) (dep : Int) : ∀ (k : Nat) (s : ByteArray) (d : Int), (∀ i d, i.size ≤ s.size → one i dep d = one' i dep d) → itemsR one k s dep d = itemsR one' k s dep d
  | 0, _, _, _ => rfl
  | k + 1, s, d, h => by
    rw [itemsR, itemsR, ← h s d (Nat.le_refl _)]
    by_cases e : s.size = 0
    · rw [if_pos e, if_pos e]
    · rw [if_neg e, if_neg e]
      have hs := hl s dep d
      by_cases e2 : (one s dep d).2.1 = 2
      · rw [if_pos e2]; rfl
      · rw [if_neg e2]
        by_cases e0 : (one s dep d).2.1 = 0
        · rw [if_pos e0, if_pos e0]
          have := hs e0
          exact items_congr hl dep k _ _ fun i d hi => h i d (by omega)
        · rw [if_neg e0, if_neg e0]
theorem within_congr {one one' : ByteArray → Int → Int → Tk} (hl : Less one) (s : ByteArray) (dep d : Int) (h : ∀ i d, i.size < s.size → one i dep d = one' i dep d) : withinR one s dep d = withinR one' s dep d := by
  unfold withinR
  have hs := ltake_less (n := 4) (t := s)
  by_cases e : (ltakeR 4 s).2.2 = 0
  · rw [if_pos e, if_pos e]
    replace hs := hs e (by decide) isW4
    by_cases hd : dep ≤ 32
    · rw [if_pos hd, if_pos hd, items_congr hl dep _ _ _ fun i d hi => h i d (by omega)]
    · rw [if_neg hd, if_neg hd]
  · rw [if_neg e, if_neg e]
theorem field_congr {val val' : ByteArray → Int → Int → Tk} (s : ByteArray) (dep d : Int) (h : ∀ i d, i.size ≤ s.size → val i dep d = val' i dep d) : fieldR val s dep d = fieldR val' s dep d := by
  unfold fieldR
  rw [h _ d (ltake_size 1 s).2]
theorem val_fuel : ∀ (k j : Nat) (s : ByteArray) (dep d : Int), s.size < k → s.size < j → valR k s dep d = valR j s dep d := by
  intro k
  induction k with
  | zero => intro j s dep d h; omega
  | succ k ih =>
    intro j s dep d hk hj
    obtain ⟨j, rfl⟩ : ∃ i, j = i + 1 := ⟨j - 1, by omega⟩
    rw [valR, valR]
    by_cases e : s.size = 0
    · rw [if_pos e, if_pos e]
    · have ht := tail_size e
      rw [if_neg e, if_neg e, within_congr (one' := valR j) (val_less k) _ _ _ fun i d hi => ih j i _ d (by omega) (by omega),
        within_congr (one' := fieldR (valR j)) (field_less (val_less k)) _ _ _ fun i d hi => field_congr i _ d fun i2 d2 hi2 => ih j i2 _ d2 (by omega) (by omega)]
/-- a value, taken with rounds enough -/
def valT (s : ByteArray) (dep d : Int) : Tk := valR (s.size + 1) s dep d
theorem valT_less : Less valT := fun s dep d h => val_less _ s dep d h
theorem valT_eq (s : ByteArray) (dep d : Int) : valT s dep d = if s.size = 0 then (⟨#[]⟩, 2, d) else
      match sizeU (kindOf s) with
      | some n => ((skipR (tailOf s) n).2.1, (skipR (tailOf s) n).2.2, d)
      | none => if kindOf s = 83 ∨ kindOf s = 120 then ((ltakeR 4 (tailOf s)).2.1, (ltakeR 4 (tailOf s)).2.2, d)
        else if kindOf s = 65 then withinR valT (tailOf s) (dep + 1) d
        else if kindOf s = 70 then withinR (fieldR valT) (tailOf s) (dep + 1) d
        else (⟨#[]⟩, 3, d) := by
  unfold valT
  rw [valR]
  by_cases e : s.size = 0
  · rw [if_pos e, if_pos e]
  · have ht := tail_size e
    rw [if_neg e, if_neg e, within_congr (one' := fun s dep d => valR (s.size + 1) s dep d) (val_less _) _ _ _ fun i d hi => val_fuel _ _ i _ d (by omega) (by omega),
      within_congr (one' := fieldR fun s dep d => valR (s.size + 1) s dep d) (field_less (val_less _)) _ _ _ fun i d hi => field_congr i _ d fun i2 d2 hi2 => val_fuel _ _ i2 _ d2 (by omega) (by omega)]
    rfl
/-- a table's taking, with rounds enough -/
theorem tabR_eq (s : ByteArray) : tabR s = withinR (fieldR valT) s 1 0 := by
  unfold tabR
  exact within_congr (field_less (val_less _)) s 1 0 fun i d hi => field_congr i _ d fun i2 d2 hi2 => val_fuel _ _ i2 _ d2 (by omega) (by omega)
/-- within: what stands behind it changes nothing -/
theorem within_pre {one : ByteArray → Int → Int → Tk} {s : ByteArray} {dep d : Int} (h : (withinR one s dep d).2.1 = 0) :
    ∃ a, s = a ++ (withinR one s dep d).1 ∧ ∀ more, withinR one (a ++ more) dep d = (more, 0, (withinR one s dep d).2.2) := by
  unfold withinR at h ⊢
  by_cases e : (ltakeR 4 s).2.2 = 0
  · rw [if_pos e] at h ⊢
    obtain ⟨h1, h2⟩ := take_lay e
    by_cases hd : dep ≤ 32
    · rw [if_pos hd] at h ⊢
      refine ⟨(layR 4 (ltakeR 4 s).1).1, h2.symm, fun more => ?_⟩
      rw [lay_take more h1]
      simp only at h ⊢
      rw [if_pos trivial, if_pos hd, h]
    · rw [if_neg hd] at h
      exact absurd h (show ¬ (5 : Int) = 0 by decide)
  · rw [if_neg e] at h
    exact absurd h e
/-- the kind's byte -/
def headOf (s : ByteArray) : ByteArray := s.extract 0 1
theorem head_tail {s : ByteArray} (h : ¬ s.size = 0) : headOf s ++ tailOf s = s := extract_join s 1 (by omega)
theorem head_size {s : ByteArray} (h : ¬ s.size = 0) : (headOf s).size = 1 := extract_size s 1 (by omega)
theorem head_kind {s : ByteArray} (h : ¬ s.size = 0) (y : ByteArray) : kindOf (headOf s ++ y) = kindOf s := by
  unfold kindOf
  have h1 := head_tail h
  have h2 := head_size h
  generalize headOf s = a at h1 h2
  rw [← h1]
  rw [append_data, append_data]
  cases hl : a.data.toList with
  | nil => rw [← size_list, hl] at h2; simp at h2
  | cons b l => rfl
theorem tail_head {s : ByteArray} (h : ¬ s.size = 0) (y : ByteArray) : tailOf (headOf s ++ y) = y := by
  have h2 := head_size h
  unfold tailOf
  rw [← h2]
  exact extract_app_right _ _
theorem skip_pre {s : ByteArray} {n : Nat} (h : (skipR s n).2.2 = 0) : ∃ a, s = a ++ (skipR s n).2.1 ∧ ∀ more, (skipR (a ++ more) n).2 = (more, 0) := by
  unfold skipR at h ⊢
  by_cases e : (n : Int) ≤ (s.size : Int)
  · rw [if_pos e]
    have ha := extract_size s n (by omega)
    refine ⟨s.extract 0 n, (extract_join s n (by omega)).symm, fun more => ?_⟩
    rw [if_pos (by rw [size_append]; omega)]
    simp only [Int.toNat_natCast]
    have := extract_app_right (s.extract 0 n) more
    rw [ha] at this
    rw [this]
  · rw [if_neg e] at h
    exact absurd h (show ¬ (2 : Int) = 0 by decide)
theorem ltake_pre {s : ByteArray} (h : (ltakeR 4 s).2.2 = 0) : ∃ a, s = a ++ (ltakeR 4 s).2.1 ∧ ∀ more, (ltakeR 4 (a ++ more)).2 = (more, 0) := by
  obtain ⟨h1, h2⟩ := take_lay h
  exact ⟨_, h2.symm, fun more => by rw [lay_take more h1]⟩
/-- A value: what stands behind it changes nothing. -/
theorem val_pre {s : ByteArray} {dep d : Int} (h : (valT s dep d).2.1 = 0) :
    ∃ a, s = a ++ (valT s dep d).1 ∧ ∀ more, valT (a ++ more) dep d = (more, 0, (valT s dep d).2.2) := by
  rw [valT_eq] at h ⊢
  by_cases e : s.size = 0
  · rw [if_pos e] at h; exact absurd h (show ¬ (2 : Int) = 0 by decide)
  rw [if_neg e] at h ⊢
  have hs := head_size e
  have step : ∀ (x : ByteArray) (more : ByteArray), valT ((headOf s ++ x) ++ more) dep d = match sizeU (kindOf s) with
      | some n => ((skipR (x ++ more) n).2.1, (skipR (x ++ more) n).2.2, d)
      | none => if kindOf s = 83 ∨ kindOf s = 120 then ((ltakeR 4 (x ++ more)).2.1, (ltakeR 4 (x ++ more)).2.2, d)
        else if kindOf s = 65 then withinR valT (x ++ more) (dep + 1) d
        else if kindOf s = 70 then withinR (fieldR valT) (x ++ more) (dep + 1) d
        else (⟨#[]⟩, 3, d) := by
    intro x more
    rw [valT_eq, app_assoc, if_neg (by rw [size_append]; omega), head_kind e, tail_head e]
  have hj := head_tail e
  have close : ∀ x r, tailOf s = x ++ r → s = (headOf s ++ x) ++ r := by
    intro x r hx
    rw [app_assoc, ← hx, hj]
  cases hk : sizeU (kindOf s) with
  | some n =>
    rw [hk] at h step
    simp only at h step ⊢
    obtain ⟨a, h1, h2⟩ := skip_pre h
    refine ⟨headOf s ++ a, close _ _ h1, fun more => ?_⟩
    rw [step, h2 more]
  | none =>
    rw [hk] at h step
    simp only at h step ⊢
    by_cases c1 : kindOf s = 83 ∨ kindOf s = 120
    · simp only [if_pos c1] at h step ⊢
      obtain ⟨a, h1, h2⟩ := ltake_pre h
      refine ⟨headOf s ++ a, close _ _ h1, fun more => ?_⟩
      rw [step, h2 more]
    · simp only [if_neg c1] at h step ⊢
      by_cases c2 : kindOf s = 65
      · simp only [if_pos c2] at h step ⊢
        obtain ⟨a, h1, h2⟩ := within_pre h
        exact ⟨headOf s ++ a, close _ _ h1, fun more => by rw [step, h2 more]⟩
      · simp only [if_neg c2] at h step ⊢
        by_cases c3 : kindOf s = 70
        · simp only [if_pos c3] at h step ⊢
          obtain ⟨a, h1, h2⟩ := within_pre h
          exact ⟨headOf s ++ a, close _ _ h1, fun more => by rw [step, h2 more]⟩
        · simp only [if_neg c3] at h
          exact absurd h (show ¬ (3 : Int) = 0 by decide)
end Go.Proofs.YthdkmohelampbaaDoor.F
namespace Go.Proofs.YthdkmohelampbaaDoor.F
open Go.RowKit Go.Proofs.YthdkmohelampbaaDoorW.PrintWords Go.Proofs.YthdkmohelampbaaDoorW.PrintLast Go.Proofs.YthdkmohelampbaaDoorW.PrintMore
set_option linter.unusedVariables false
set_option linter.unusedSimpArgs false
attribute [local go_sem] Oper.semAt_some

/-! ### the fields, by definition -/
def keyAt (s : ByteArray) : ByteArray := (ltakeR 1 s).1
def taken1 (s : ByteArray) : ByteArray × ByteArray × Int := takenR (ltakeR 1 s).2.1 (tvalR (ltakeR 1 s).2.1)
def valAt (s : ByteArray) : ByteArray := (taken1 s).1
def leftAt (s : ByteArray) : ByteArray := (taken1 s).2.1
abbrev Fds := List (ByteArray × ByteArray)
def fldN : Nat → ByteArray → Fds
  | 0, _ => []
  | k + 1, s => if s.size = 0 then [] else (keyAt s, valAt s) :: fldN k (leftAt s)
def fldR (s : ByteArray) : Fds := fldN s.size s
theorem left_less {s : ByteArray} (h : ¬ s.size = 0) : (leftAt s).size < s.size := by
  unfold leftAt taken1 takenR
  have h1 := (ltake_size 1 s).2
  by_cases e : (tvalR (ltakeR 1 s).2.1).2.1 = 0
  · rw [if_pos e]
    have := tvalR_less _ e
    show (tvalR (ltakeR 1 s).2.1).1.size < s.size
    omega
  · rw [if_neg e]
    show 0 < s.size
    omega
theorem fldN_fuel : ∀ (k j : Nat) (s : ByteArray), s.size ≤ k → s.size ≤ j → fldN k s = fldN j s := by
  intro k
  induction k with
  | zero => intro j s h _; cases j with
    | zero => rfl
    | succ j => simp only [fldN]; rw [if_pos (by omega)]
  | succ k ih =>
    intro j s hk hj
    cases j with
    | zero => simp only [fldN]; rw [if_pos (by omega)]
    | succ j =>
      simp only [fldN]
      by_cases e : s.size = 0
      · rw [if_pos e, if_pos e]
      · have := left_less e
        rw [if_neg e, if_neg e, ih j _ (by omega) (by omega)]
theorem fldR_eq (s : ByteArray) : fldR s = if s.size = 0 then [] else (keyAt s, valAt s) :: fldR (leftAt s) := by
  by_cases e : s.size = 0
  · rw [if_pos e]; unfold fldR; rw [e]; rfl
  · rw [if_neg e]
    unfold fldR
    have := left_less e
    obtain ⟨k, hk⟩ : ∃ k, s.size = k + 1 := ⟨s.size - 1, by omega⟩
    rw [fldN_fuel s.size (k + 1) s (Nat.le_refl _) (by omega)]
    conv => lhs; simp only [fldN]
    rw [if_neg e, fldN_fuel k _ _ (by omega) (Nat.le_refl _)]

theorem fields_calls (s : ByteArray) (w : World) :
    Calls Tryd.prog 34 #[.string s] w fun e w' =>
      e = .returned (.func (.func 45) #[] #[.pointer (some ⟨w.heap.size, 0, none⟩)]) ∧ w' = w.alloc (.cells #[.string s] 9) := by
  go_enter Tryd.func34, Tryd.ntmps34
  go_wp2
  go_ret
  exact ⟨by simp, rfl⟩

/-- as yield is called -/
def FdJ (H : Fds → World → Prop) (tot : Fds) (big : Nat) (x : Fds × ByteArray) (W : World) : Prop :=
  H x.1 W ∧ x.2.size ≠ 0 ∧ tot = x.1 ++ fldR x.2 ∧ x.1.length + x.2.size ≤ big
/-- behind the round -/
def FdJ2 (H : Fds → World → Prop) (tot : Fds) (big : Nat) (x : Fds × ByteArray) (W : World) : Prop :=
  H (x.1 ++ [(keyAt x.2, valAt x.2)]) W ∧ x.2.size ≠ 0 ∧ tot = x.1 ++ fldR x.2 ∧ x.1.length + x.2.size ≤ big
def fdencs (x : Fds × ByteArray) : Array Value := #[.string (keyAt x.2), .string (valAt x.2)]
set_option maxHeartbeats 4000000 in
set_option maxRecDepth 100000 in
theorem fields_iter (f : Nat) (t : ByteArray) (b : Nat) (H : Fds → World → Prop) (hH : ∀ x W W', Below W.heap.size W W' → H x W → H x W') (hHt : ∀ x W, H x W → Boxed W b 9 (.string t)) (hHL : ∀ x W, H x W → Laid W)
    (tot : Fds) (big : Nat) (hbig : big ≤ 4611686018427387904) (l D : Nat) (B : World → Prop) (X : Fds × ByteArray → World → Prop) (W1 : World)
    (hB : ∀ W W', KeepsFrom D W W' → B W → B W') (h1 : B W1)
    (hY : ∀ s W, FdJ H tot big s W → B W → YieldAt Fence.wide f Tryd.prog l (fdencs s) W fun e W' =>
      (e = .returned (.bool true) ∧ FdJ2 H tot big s W' ∧ B W') ∨ (e = .returned (.bool false) ∧ X s W'))
    (h0 : H [] W1) (ht : tot = fldR (takeR t 4).2.1) (hz : t.size ≤ big) :
    CallsIn Fence.wide (f + 1) Tryd.prog 45 #[.func (.yield l) #[] #[], .pointer (some ⟨b, 0, none⟩)] W1
      fun e W' => (∃ v, e = .returned v) ∧ ((H tot W' ∧ B W') ∨ ∃ s, X s W') := by
  refine callsIn_of_wp Tryd.func45 rfl trivial ?_ rfl
  simp only [Tryd.ntmps45, List.size_toArray, List.length_cons, List.length_nil, Nat.reduceAdd, Nat.reduceSub, Array.replicate_succ, Array.replicate_zero, List.push_toArray, List.append_toArray, List.nil_append, List.cons_append]
  have c0 := (hHt _ _ h0).cell
  have hL0 := Aside0.mk (hHL _ _ h0)
  have htk := Aside0.mk (take_k (k := 12) (by decide) t 4)
  have hr := take_rest t 4
  generalize takeR t 4 = t4 at htk hr ht
  obtain ⟨n4, in0, e4⟩ := t4
  simp only at hr ht
  replace ht := Aside0.mk ht
  gi_wp2_with (refine ⟨trivial, ?_⟩; gi_at_call 37; refine (callsIn_wide.2 (num_Take.calls 12 t 4 n4 in0 e4 _ hL0.out htk.out)).mono ?_; rintro e w' ⟨rfl, ⟨nd, rfl⟩⟩)
  have hbd : ∀ (W : World) nd, Below W.heap.size W (W.drewN nd) := fun W nd => pw_below_drewN (Below.refl _ _) nd
  gi_loopw [4] (fun v4 wr => ∃ (pre : Fds) (s : ByteArray), v4 = .string s ∧ H pre wr ∧ Aside0 (tot = pre ++ fldR s) ∧ Aside0 (pre.length + s.size ≤ big) ∧ B wr) (fun v4 _ => match v4 with | .string s => s.size | _ => 0)
  case atStart =>
    exact ⟨[], in0, rfl, hH _ _ _ (hbd _ nd) h0, ht, ⟨by simp; omega⟩, hB _ _ (keepsFrom_below (hbd _ nd)) h1⟩
  case round =>
    obtain ⟨pre, s, rfl, hF, htot, hlen, hBw⟩ := hrel
    clear h0 h1 c0 ht htk hr
    by_cases he : s.size = 0
    · have hs0 : s = ⟨#[]⟩ := ba_empty he
      subst hs0
      have et : tot = pre := by rw [htot.out, fldR_eq, if_pos he, List.append_nil]
      gi_wp2
      go_end0
      rw [et]
      exact ⟨⟨_, rfl⟩, .inl ⟨hF, hBw⟩⟩
    · have hne2 : (!s.toList.isEmpty) = true := not_empty he
      have hEE := Aside0.mk (fldR_eq s)
      have hlf := Aside0.mk (left_less he)
      have htk := Aside0.mk (tshort_k (k := 12) (by decide) s (by have := hlen.out; omega))
      have hvl : table_Value.f (ltakeR 1 s).2.1 = some (valAt s, leftAt s, (taken1 s).2.2) := by
        unfold table_Value.f
        rw [if_pos (by have := (ltake_size 1 s).2; have := hlen.out; omega)]
        rfl
      have hYY := fun (W : World) (hw : H pre W) => hY (pre, s) W ⟨hw, he, htot.out, hlen.out⟩
      unfold FdJ2 fdencs at hYY
      unfold keyAt at hYY hEE
      simp only [] at hYY
      generalize valAt s = v at hvl hYY hEE
      generalize leftAt s = left at hvl hEE hlf
      generalize (taken1 s).2.2 = e3 at hvl
      generalize ltakeR 1 s = t at htk hYY hEE hvl
      obtain ⟨t1, t2, t3⟩ := t
      simp only at hYY hvl
      replace hvl := Aside0.mk hvl
      clear hY
      gi_wp2_with (first | (refine ⟨trivial, ?_⟩; gi_at_call 39; refine (callsIn_wide.2 (text_TakeShort.calls 12 s t1 t2 t3 _ (hHL _ _ hF) htk.out)).mono ?_; rintro e w' ⟨rfl, ⟨nd2, rfl⟩⟩) | (refine ⟨trivial, ?_⟩; gi_at_call 15; refine (callsIn_wide.2 (table_Value.calls t2 v left e3 _ ((hHL _ _ hF).below (hbd _ _)) hvl.out)).mono ?_; rintro e w2 ⟨rfl, hb⟩; have hb2 := (hbd wr nd2).trans hb; obtain ⟨yf, yt, ya, yb, hy, hR⟩ := hYY _ (hH _ _ _ hb2 hF) (hB _ _ (keepsFrom_below hb2) hBw)))
      refine hR.mono ?_
      rintro e W2 (⟨rfl, ⟨hF2, _, _, _⟩, hB2⟩ | ⟨rfl, hx⟩)
      · gi_wp2
        exact ⟨⟨pre ++ [(t1, v)], left, rfl, hF2, ⟨by rw [htot.out, hEE.out, if_neg he]; simp⟩, ⟨by rw [List.length_append, List.length_singleton]; have := hlen.out; have := hlf.out; omega⟩, hB2⟩, hlf.out⟩
      · gi_wp2
        refine bodyPost_ret (results_none rfl _ _ _) rfl ?_
        exact ⟨⟨_, rfl⟩, .inr ⟨_, hx⟩⟩
end Go.Proofs.YthdkmohelampbaaDoor.F
namespace Go.Proofs.YthdkmohelampbaaDoor.F
open Go.RowKit Go.Proofs.YthdkmohelampbaaDoorW.PrintWords Go.Proofs.YthdkmohelampbaaDoorW.PrintLast Go.Proofs.YthdkmohelampbaaDoorW.PrintMore
set_option linter.unusedVariables false
set_option linter.unusedSimpArgs false
attribute [local go_sem] Oper.semAt_some
def inR (t : ByteArray) : ByteArray := (takeR t 4).2.1
def keysR (t : ByteArray) : List ByteArray × Int := if wholeR t = 0 then ((fldR (inR t)).map (·.1), 0) else ([], wholeR t)
def table_Keys.f (a0 : ByteArray) : Option (List ByteArray × Int) := if a0.size ≤ 4294967296 then some (keysR a0) else none
/-- What the blocks of a call of Keys hold between two rounds. -/
def KHeld (w0 : World) (t : ByteArray) (pre : Fds) (W : World) : Prop :=
  Boxed W (w0.heap.size + 1) 9 (.string t) ∧ (∃ v, Boxed W w0.heap.size 27 v ∧ W.ownsRow (w0.heap.size + 2) 9 1 v pre.length (pre.map fun p => Value.string p.1)) ∧ Below w0.heap.size w0 W
theorem KHeld.below {w0 : World} {t : ByteArray} {pre : Fds} {W W' : World} (hb : Below W.heap.size W W') (h : KHeld w0 t pre W) : KHeld w0 t pre W' := by
  obtain ⟨h1, ⟨v, h6, h7⟩, h8⟩ := h
  exact ⟨boxed_below h1 hb, ⟨v, boxed_below h6 hb, row_below h7 hb⟩, h8.trans (hb.mono (by have := h1.lt; omega))⟩
theorem KHeld.own {β : Type} {w0 : World} {B : Nat} {t : ByteArray} (hB : w0.heap.size ≤ B) (pre : β → Fds) : OwnFrom B (fun (x : β) W => KHeld w0 t (pre x) W) := by
  rintro x W W' row ⟨h1, ⟨v, h6, h7⟩, h8⟩ hg hr
  have hr' : ∀ r, row = some r → ∃ o : Obj, W.heap[r]? = some o ∧ o.isCells = false := fun r e => (hr r e).2
  exact ⟨boxed_other h1 hg hr', ⟨v, boxed_other h6 hg hr', row_other h7 hg hr'⟩, ownFrom_below (β := β) (Nat.le_refl _) hB x W W' row h8 hg hr⟩
theorem FdJ.own {H : Fds → World → Prop} {B : Nat} {tot : Fds} {big : Nat} (hH : OwnFrom B H) : OwnFrom B (FdJ H tot big) :=
  fun x W W' row h hg hr => ⟨hH x.1 W W' row h.1 hg hr, h.2⟩
theorem FdJ2.own {H : Fds → World → Prop} {B : Nat} {tot : Fds} {big : Nat} (hH : OwnFrom B H) : OwnFrom B (FdJ2 H tot big) :=
  fun x W W' row h hg hr => ⟨hH _ W W' row h.1 hg hr, h.2⟩
/-- behind the assignment -/
def FdJ1 (H : Fds → World → Prop) (tot : Fds) (big : Nat) (tm : Value → Value → Array Value) (x : (Fds × ByteArray) × Act) (W : World) : Prop :=
  x.2 = { tmps := tm (.string (keyAt x.1.2)) (.string (valAt x.1.2)), defers := [] } ∧ FdJ H tot big x.1 W
theorem FdJ1.own {H : Fds → World → Prop} {B : Nat} {tot : Fds} {big : Nat} {tm : Value → Value → Array Value} (hH : OwnFrom B H) : OwnFrom B (FdJ1 H tot big tm) :=
  fun x W W' row h hg hr => ⟨h.1, FdJ.own hH x.1 W W' row h.2 hg hr⟩
set_option maxHeartbeats 4000000 in
set_option maxRecDepth 100000 in
theorem table_Keys.calls (a0 : ByteArray) (r1 : List ByteArray) (r2 : Int) (w : World) (hg : Laid w) (h : table_Keys.f a0 = some (r1, r2)) :
    Calls Tryd.prog 17 #[.string a0] w fun e w' => ∃ v0_ : Value, e = .returned (.tuple #[v0_, .int .i64 r2]) ∧ Kd.R Kd.string 9 w' w.heap.size (fun _ => True) v0_ r1 ∧ Below w.heap.size w w' := by
  have hz : a0.size ≤ 4294967296 := by
    unfold table_Keys.f at h
    split at h
    · assumption
    · cases h
  unfold table_Keys.f at h
  rw [if_pos hz] at h
  replace h := Option.some.inj h
  unfold keysR at h
  have ht := Aside0.mk (whole_f a0 (by omega))
  generalize wholeR a0 = q at ht h
  have HG := Aside0.mk hg
  clear hg
  by_cases e : q = 0
  · subst e
    rw [if_pos rfl] at h
    obtain ⟨hs, rfl⟩ := Prod.mk.inj h
    clear h
    have HS := Aside0.mk hs
    have HZ := Aside0.mk hz
    clear hs hz
    refine (callsIn_wide (n := 4)).1 ?_
    refine callsIn_of_wp_marks Tryd.func17 rfl trivial ?_ rfl
    simp only [Tryd.ntmps17, List.size_toArray, List.length_cons, List.length_nil, Nat.reduceAdd, Nat.reduceSub, Array.replicate_succ, Array.replicate_zero, List.push_toArray, List.append_toArray, List.nil_append, List.cons_append]
    gi_wp2_with (first | (refine ⟨trivial, ?_⟩; gi_at_call 31; refine (callsIn_wide.2 (table_whole.calls _ _ _ HG.out ht.out)).mono ?_; rintro e w1 ⟨rfl, hb1⟩) | (refine ⟨trivial, ?_⟩; gi_at_call 34; refine (callsIn_wide.2 (fields_calls _ _)).mono ?_; rintro e w' ⟨rfl, rfl⟩))
    have hn2 : ∀ (o1 o2 : Obj), ((w1.alloc o1).alloc o2).heap.size = w1.heap.size + 2 := by intros; simp
    have hF0 : KHeld w1 a0 [] ((w1.alloc (.cells #[.slice none 0 0] 27)).alloc (.cells #[.string a0] 9)) := by
      refine ⟨boxed_at _ _ _ _ (by simp), ⟨.slice none 0 0, (Boxed.new w1 _ _).alloc _, ⟨rfl, .inl ⟨rfl, rfl⟩⟩⟩, ?_⟩
      exact ((Below.refl _ w1).alloc (Nat.le_refl _) _).alloc (by simp) _
    have hown : OwnFrom ((w1.alloc (.cells #[.slice none 0 0] 27)).alloc (.cells #[.string a0] 9)).heap.size (KHeld w1 a0) := KHeld.own (β := Fds) (by rw [hn2]; omega) (fun x => x)
    refine wpIn_rangeFunc_shared rfl (by decide) (gf := 45) (lb := #[.pointer (some ⟨w1.heap.size + 1, 0, none⟩)]) rfl trivial (enters_of Tryd.func45 (by kernel_rfl) rfl)
      fdencs (fun _ => rfl) (FdJ (KHeld w1 a0) (fldR (inR a0)) a0.size)
      (FdJ1 (KHeld w1 a0) (fldR (inR a0)) a0.size fun x y => #[.string a0, undef, .slice none 0 0, .int .i64 0, .int .i64 0, .pointer (some ⟨w1.heap.size, 0, none⟩), x, .string a0, .int .i64 0, .int .i64 0, .bool false, undef, .string a0,
        .func (.func 45) #[] #[.pointer (some ⟨w1.heap.size + 1, 0, none⟩)], x, y, undef, undef, undef, undef, undef])
      (FdJ2 (KHeld w1 a0) (fldR (inR a0)) a0.size) (fun _ _ _ => False) (fun _ W => KHeld w1 a0 (fldR (inR a0)) W)
      (FdJ1.own hown) (FdJ2.own hown) (fun _ _ _ _ _ hs _ _ => hs) (fun _ => hown _) ?seq ?assign ?body ?done ?stop
    case stop =>
      rintro D c s W _ h _
      exact h.elim
    case seq =>
      rintro l B X o1 o2 W1 hW1 _ hB h1 hY
      have hF1 : KHeld w1 a0 [] W1 := by
        rw [← hW1]
        exact hF0.below (((Below.refl _ _).alloc (Nat.le_refl _) _).alloc (by simp) _)
      exact fields_iter 2 a0 (w1.heap.size + 1) (KHeld w1 a0) (fun _ _ _ hb h => h.below hb) (fun _ _ h => h.1) (fun _ _ h => (HG.out.below hb1).below h.2.2) (fldR (inR a0)) a0.size (Nat.le_trans HZ.out (by decide)) l _ B X W1 hB h1 hY hF1 rfl (Nat.le_refl _)
    case assign =>
      rintro l s W K hlt hJ hK
      unfold fdencs
      gi_wp2
      apply hK
      · exact (KeepsOthers.refl _).from _
      · exact ⟨by simp, hJ⟩
    case done =>
      rintro D W hD ⟨e2, ⟨v, e3, e4⟩, e5⟩ hK
      have c3 := e3.cell
      gi_wp2
      rw [hn2] at hD
      refine ⟨by simp, .inl ⟨_, _, rfl, run_takeDeferred hK, ?_⟩⟩
      have hR := row_other e4 (grownBy_putObj' W D (.deferred none)) (fun r e => by cases e; exact ⟨_, hK, rfl⟩)
      have hBd := e5.trans (belowK_b (w := w1) (Nat.le_refl _) W D _ (.deferred none) (by omega) hK rfl rfl)
      have hR2 : (W.putObj D (.deferred none)).ownsRow (w1.heap.size + 2) 9 1 v r1.length (r1.map Value.string) := by
        rw [← HS.out, List.length_map, List.map_map]; exact hR
      exact ⟨_, results_tmp2 rfl _ _ _, v, rfl, row_strs (row_lower hR2 (by have := hb1.size; omega)), hb1.trans (hBd.mono hb1.size)⟩
    case body =>
      rintro l s a' W hlt ⟨ha', hJ⟩
      obtain ⟨⟨h1, ⟨v, h6, hrow0⟩, h8⟩, hJ'⟩ := hJ
      have hrow : W.ownsRow (w1.heap.size + 2) 9 1 v s.1.length (s.1.map fun p => Value.string p.1) := hrow0
      clear hrow0
      dsimp only at ha'
      subst ha'
      have hv := h6.cell
      have hvf := h6.frozen
      obtain ⟨i0, hi, hz0, hz1, hz2⟩ := info_parts info9
      have hle : w1.heap.size ≤ W.heap.size := h8.size
      have hle3 : w1.heap.size + 2 ≤ W.heap.size := h1.lt
      have hlen : s.1.length ≤ 4294967296 := Nat.le_trans (Nat.le_trans (Nat.le_add_right _ _) hJ'.2.2) HZ.out
      replace hJ' := Aside0.mk hJ'
      gi_wp2_with (gi_at_builtin; refine wpListIn_append_own _ rfl _ _ 27 rfl (w1.heap.size + 2) 9 i0 _ 1 16 Tryd.underlying27 hi hz0 hz1 hz2 rfl (by decide) _ _ _ rfl (hrow.alloc _) ⟨W.heap.size, 0, none⟩ 1 1 [.string (keyAt s.2)] rfl rfl (cell_one_new _ _ _) (by simp [Value.oneCell']) (by show _ ≤ 9223372036854775807; omega) (by omega) (by simp; omega) ?_; intro v' w3 hown' hgrow _; obtain ⟨g', cap', rfl⟩ := ownsRow_succ hown'; obtain ⟨hv1, hv2, hr2, hk2, hb2⟩ := h6.appended (by decide) (row_lower hrow (by omega : w1.heap.size ≤ w1.heap.size + 2)) hle (by omega) (row_lower hown' (by omega)) hgrow; have hc1 := hv1.cell; have hf1 := hv1.frozen)
      have kp : ∀ {B : Nat} {t : TypeId} {u : Value}, Boxed W B t u → B < w1.heap.size + 2 → some B ≠ some w1.heap.size → Boxed (w3.setCell ⟨w1.heap.size, 0, none⟩ (.slice (some ⟨g', 0, none⟩) (s.1.length + 1) cap')) B t u :=
        fun h ht hne => ((h.alloc _).kept hgrow (row_ne hrow ht)).kept (grownBy_setCell' w3 _ _) hne
      refine ⟨hk2.from _, ⟨⟨kp h1 (by omega) (by simp), ⟨_, hv2, ?_⟩, h8.trans hb2⟩, hJ'.out⟩⟩
      have := hown'.kept (grownBy_setCell' w3 w1.heap.size (.slice (some ⟨g', 0, none⟩) (s.1.length + 1) cap')) (.inr (row_ne hown' (by omega)).symm)
      rw [List.length_append, List.length_singleton, List.map_append]
      exact this
  · rw [if_neg e] at h
    obtain ⟨rfl, rfl⟩ := Prod.mk.inj h
    clear h
    have e1 : (q != 0) = true := by simpa using e
    go_enter Tryd.func17, Tryd.ntmps17
    go_wp2_with (first | (go_at_call 31; refine (table_whole.calls _ _ _ HG.out ht.out).mono ?_; rintro e w1 ⟨rfl, hb1⟩))
    go_ret2
    exact ⟨_, rfl, row_strs ⟨rfl, .inl ⟨rfl, rfl⟩⟩, hb1⟩
end Go.Proofs.YthdkmohelampbaaDoor.F
namespace Go.Proofs.YthdkmohelampbaaDoor.F
open Go.RowKit Go.Proofs.YthdkmohelampbaaDoorW.PrintWords Go.Proofs.YthdkmohelampbaaDoorW.PrintLast Go.Proofs.YthdkmohelampbaaDoorW.PrintMore
set_option linter.unusedVariables false
set_option linter.unusedSimpArgs false
attribute [local go_sem] Oper.semAt_some
def findF (key : ByteArray) : Fds → ByteArray × Bool
  | [] => (⟨#[]⟩, false)
  | p :: l => if p.1.toList = key.toList then (p.2, true) else findF key l
def findR (t key : ByteArray) : ByteArray × Bool := if wholeR t = 0 then findF key (fldR (inR t)) else (⟨#[]⟩, false)
def table_Find.f (a0 a1 : ByteArray) : Option (ByteArray × Bool) := if a0.size ≤ 4294967296 then some (findR a0 a1) else none
theorem findF_app {key : ByteArray} : ∀ {pre : Fds} (l : Fds), (∀ p ∈ pre, ¬ p.1.toList = key.toList) → findF key (pre ++ l) = findF key l
  | [], _, _ => rfl
  | p :: pre, l, h => by
    rw [List.cons_append, findF, if_neg (h p (List.mem_cons_self ..)), findF_app l (fun q hq => h q (List.mem_cons_of_mem _ hq))]
theorem results_cell2 {P : Program} {fn : Func} {p q : Tmp} {ty ty2 : TypeId} {d d2 : TypeDesc} {v u : Value} (h : fn.results = #[.cell p ty, .cell q ty2]) (tmps : Array Value) (w : World) (a b : Addr) (hp : tmps.getD p undef = .pointer (some a)) (hq : tmps.getD q undef = .pointer (some b)) (hu : P.underlying ty = some d) (hu2 : P.underlying ty2 = some d2)
    (hd : (match d with | .struct _ | .array _ _ => true | _ => false) = false) (hd2 : (match d2 with | .struct _ | .array _ _ => true | _ => false) = false) (hc : w.cell? a = some v) (hc2 : w.cell? b = some u) : (results fn tmps).run P w = .ok (.tuple #[v, u]) w := by
  have hp' : tmps[p]?.getD undef = .pointer (some a) := by simpa using hp
  have hq' : tmps[q]?.getD undef = .pointer (some b) := by simpa using hq
  have ha : (isAgg ty).run P w = .ok false w := by cases d <;> simp_all [isAgg, run_underlying hu]
  have hb : (isAgg ty2).run P w = .ok false w := by cases d2 <;> simp_all [isAgg, run_underlying hu2]
  simp [results, h, hp', hq', asAddr, loadVar, ha, hb, go_sem, hc, hc2]
/-- What the blocks of a call of Find hold between two rounds. -/
def NHeld (w0 : World) (b : Nat) (t key : ByteArray) (pre : Fds) (W : World) : Prop :=
  Boxed W b 9 (.string t) ∧ Boxed W w0.heap.size 9 (.string key) ∧ Boxed W (w0.heap.size + 1) 9 (.string ⟨#[]⟩) ∧ Boxed W (w0.heap.size + 1 + 1) 4 (.bool false) ∧ (∀ p ∈ pre, ¬ p.1.toList = key.toList) ∧ Below w0.heap.size w0 W
theorem NHeld.below {w0 : World} {b : Nat} {t key : ByteArray} {pre : Fds} {W W' : World} (hb : Below W.heap.size W W') (h : NHeld w0 b t key pre W) : NHeld w0 b t key pre W' := by
  obtain ⟨h1, h2, h3, h4, h5, h8⟩ := h
  exact ⟨boxed_below h1 hb, boxed_below h2 hb, boxed_below h3 hb, boxed_below h4 hb, h5, h8.trans (hb.mono (by have := h2.lt; omega))⟩
theorem NHeld.own {w0 : World} {B b : Nat} {t key : ByteArray} (hB : w0.heap.size ≤ B) : OwnFrom B (NHeld w0 b t key) := by
  rintro x W W' row ⟨h1, h2, h3, h4, h5, h8⟩ hg hr
  have hr' : ∀ r, row = some r → ∃ o : Obj, W.heap[r]? = some o ∧ o.isCells = false := fun r e => (hr r e).2
  exact ⟨boxed_other h1 hg hr', boxed_other h2 hg hr', boxed_other h3 hg hr', boxed_other h4 hg hr', h5, ownFrom_below (β := Fds) (Nat.le_refl _) hB x W W' row h8 hg hr⟩
/-- where it was found -/
def NX (w0 : World) (key : ByteArray) (tot : Fds) (c : Code) (_ : Fds × ByteArray) (W : World) : Prop :=
  c = .ret ∧ (∃ v, Boxed W (w0.heap.size + 1) 9 (.string v) ∧ findF key tot = (v, true)) ∧ Boxed W (w0.heap.size + 1 + 1) 4 (.bool true) ∧ Below w0.heap.size w0 W
theorem NX.own {w0 : World} {B : Nat} {key : ByteArray} {tot : Fds} (hB : w0.heap.size ≤ B) (c : Code) : OwnFrom B (NX w0 key tot c) := by
  rintro x W W' row ⟨h1, ⟨v, h2, h3⟩, h4, h8⟩ hg hr
  have hr' : ∀ r, row = some r → ∃ o : Obj, W.heap[r]? = some o ∧ o.isCells = false := fun r e => (hr r e).2
  exact ⟨h1, ⟨v, boxed_other h2 hg hr', h3⟩, boxed_other h4 hg hr', ownFrom_below (β := Fds × ByteArray) (Nat.le_refl _) hB x W W' row h8 hg hr⟩
set_option maxHeartbeats 4000000 in
set_option maxRecDepth 100000 in
theorem table_Find.calls (a0 a1 : ByteArray) (r1 : ByteArray) (r2 : Bool) (w : World) (hg : Laid w) (h : table_Find.f a0 a1 = some (r1, r2)) :
    Calls Tryd.prog 16 #[.string a0, .string a1] w fun e w' => e = .returned (.tuple #[.string r1, .bool r2]) ∧ Below w.heap.size w w' := by
  have hz : a0.size ≤ 4294967296 := by
    unfold table_Find.f at h
    split at h
    · assumption
    · cases h
  unfold table_Find.f at h
  rw [if_pos hz] at h
  replace h := Option.some.inj h
  unfold findR at h
  have ht := fun w hg => table_whole.calls a0 _ w hg (whole_f a0 (by omega))
  generalize wholeR a0 = q at ht h
  have HG := Aside0.mk hg
  clear hg
  by_cases e : q = 0
  · subst e
    rw [if_pos rfl] at h
    have HS := Aside0.mk h
    have HZ := Aside0.mk hz
    clear h hz
    refine (callsIn_wide (n := 4)).1 ?_
    refine callsIn_of_wp_marks Tryd.func16 rfl trivial ?_ rfl
    simp only [Tryd.ntmps16, List.size_toArray, List.length_cons, List.length_nil, Nat.reduceAdd, Nat.reduceSub, Array.replicate_succ, Array.replicate_zero, List.push_toArray, List.append_toArray, List.nil_append, List.cons_append]
    gi_wp2_with (first | (refine ⟨trivial, ?_⟩; gi_at_call 31; refine (callsIn_wide.2 (ht _ (HG.out.below (by repeat (first | exact Below.refl _ _ | refine Below.alloc ?_ (by simp; try omega) _))))).mono ?_; rintro e w1 ⟨rfl, hb1⟩) | (refine ⟨trivial, ?_⟩; gi_at_call 34; refine (callsIn_wide.2 (fields_calls _ _)).mono ?_; rintro e w' ⟨rfl, rfl⟩))
    have hB3 : Below w.heap.size w (((w.alloc (.cells #[.string a1] 9)).alloc (.cells #[.string ⟨#[]⟩] 9)).alloc (.cells #[.bool false] 4)) :=
      (((Below.refl _ w).alloc (Nat.le_refl _) _).alloc (by simp) _).alloc (by simp; omega) _
    have hn3 : ∀ (o1 o2 o3 : Obj), (((w.alloc o1).alloc o2).alloc o3).heap.size = w.heap.size + 3 := by intros; simp
    have hs1 : w.heap.size + 3 ≤ w1.heap.size := by have := hb1.size; rw [hn3] at this; exact this
    have hBw : Below w.heap.size w w1 := hB3.trans (hb1.mono (by rw [hn3]; omega))
    have hA : Below w1.heap.size w1 (w1.alloc (.cells #[.string a0] 9)) := (Below.refl _ _).alloc (Nat.le_refl _) _
    have hF0 : NHeld w w1.heap.size a0 a1 [] (w1.alloc (.cells #[.string a0] 9)) := by
      refine ⟨Boxed.new w1 _ _, boxed_below (boxed_below (((Boxed.new w _ _).alloc _).alloc _) hb1) hA, boxed_below (boxed_below ((boxed_at _ _ _ _ (by simp)).alloc _) hb1) hA, boxed_below (boxed_below (boxed_at _ _ _ _ (by simp)) hb1) hA, fun _ h => absurd h (List.not_mem_nil), ?_⟩
      exact hBw.trans (hA.mono (by omega))
    have hsz : (w1.alloc (.cells #[.string a0] 9)).heap.size = w1.heap.size + 1 := by simp
    have hown : OwnFrom (w1.alloc (.cells #[.string a0] 9)).heap.size (NHeld w w1.heap.size a0 a1) := NHeld.own (by rw [hsz]; omega)
    clear hB3 hb1
    refine wpIn_rangeFunc_shared rfl (by decide) (gf := 45) (lb := #[.pointer (some ⟨w1.heap.size, 0, none⟩)]) rfl trivial (enters_of Tryd.func45 (by kernel_rfl) rfl)
      fdencs (fun _ => rfl) (FdJ (NHeld w w1.heap.size a0 a1) (fldR (inR a0)) a0.size)
      (FdJ1 (NHeld w w1.heap.size a0 a1) (fldR (inR a0)) a0.size fun x y => #[.string a0, .string a1, undef, .pointer (some ⟨w.heap.size, 0, none⟩), .pointer (some ⟨w.heap.size + 1, 0, none⟩), .pointer (some ⟨w.heap.size + 1 + 1, 0, none⟩), x, y, .string a0, .int .i64 0, .bool false, .string a0,
        .func (.func 45) #[] #[.pointer (some ⟨w1.heap.size, 0, none⟩)], x, y, undef, undef, undef, undef])
      (FdJ2 (NHeld w w1.heap.size a0 a1) (fldR (inR a0)) a0.size) (NX w a1 (fldR (inR a0))) (fun _ W => NHeld w w1.heap.size a0 a1 (fldR (inR a0)) W)
      (FdJ1.own hown) (FdJ2.own hown) (fun c => NX.own (by rw [hsz]; omega) c) (fun _ => hown _) ?seq ?assign ?body ?done ?stop
    case stop =>
      rintro D c s W hD ⟨rfl, ⟨v, e2, hfd⟩, e3, e5⟩ hK
      rw [hsz] at hD
      have hBd := e5.trans (belowK_b (w := w) (Nat.le_refl _) W D _ (.deferred none) (by omega) hK rfl rfl)
      obtain ⟨rfl, rfl⟩ := Prod.mk.inj (HS.out.symm.trans hfd)
      gi_wp2
      refine ⟨by simp, .inl ⟨_, _, rfl, run_takeDeferred hK, ?_⟩⟩
      have d2 := (boxed_other e2 (grownBy_putObj' W D (.deferred none)) (fun r e => by cases e; exact ⟨_, hK, rfl⟩)).cell
      have d3 := (boxed_other e3 (grownBy_putObj' W D (.deferred none)) (fun r e => by cases e; exact ⟨_, hK, rfl⟩)).cell
      exact ⟨_, results_cell2 rfl _ _ _ _ rfl rfl Tryd.underlying9 Tryd.underlying4 rfl rfl d2 d3, rfl, hBd⟩
    case seq =>
      rintro l B X o1 o2 W1 hW1 _ hB h1 hY
      have hF1 : NHeld w w1.heap.size a0 a1 [] W1 := by
        rw [← hW1]
        exact hF0.below (((Below.refl _ _).alloc (Nat.le_refl _) _).alloc (by simp) _)
      exact fields_iter 2 a0 w1.heap.size (NHeld w w1.heap.size a0 a1) (fun _ _ _ hb h => h.below hb) (fun _ _ h => h.1) (fun _ _ h => HG.out.below h.2.2.2.2.2) (fldR (inR a0)) a0.size (Nat.le_trans HZ.out (by decide)) l _ B X W1 hB h1 hY hF1 rfl (Nat.le_refl _)
    case assign =>
      rintro l s W K hlt hJ hK
      unfold fdencs
      gi_wp2
      apply hK
      · exact (KeepsOthers.refl _).from _
      · exact ⟨by simp, hJ⟩
    case done =>
      rintro D W hD ⟨e1, e2, e3, e4, hni, e5⟩ hK
      have hfd := findF_app [] hni
      rw [List.append_nil] at hfd
      obtain ⟨rfl, rfl⟩ := Prod.mk.inj (HS.out.symm.trans hfd)
      rw [hsz] at hD
      obtain ⟨W2, hW2⟩ : ∃ W2, (W.setCell ⟨w.heap.size + 1, 0, none⟩ (.string ⟨#[]⟩)).setCell ⟨w.heap.size + 1 + 1, 0, none⟩ (.bool false) = W2 := ⟨_, rfl⟩
      have g1 := grownBy_setCell' W (w.heap.size + 1) (.string ⟨#[]⟩)
      have g2 := grownBy_setCell' (W.setCell ⟨w.heap.size + 1, 0, none⟩ (.string ⟨#[]⟩)) (w.heap.size + 1 + 1) (.bool false)
      have a3 := e3.set (.string ⟨#[]⟩)
      have a4 := e4.kept g1 (by simp)
      have b4 := a4.set (.bool false)
      have b3 := a3.kept g2 (by simp)
      have f3 := e3.frozen
      have f4 := a4.frozen
      have c3 := e3.cell
      have c4 := a4.cell
      have hK2 : W2.heap[D]? = some (.deferred (some [])) := by
        rw [← hW2]
        exact (KeepsOthers.setCell _ _ _).same D _ ((KeepsOthers.setCell _ _ _).same D _ hK rfl) rfl
      have hB2 : Below w.heap.size w W2 := by
        rw [← hW2]
        exact (e5.setCell (p := ⟨w.heap.size + 1, 0, none⟩) (by simp) (.string ⟨#[]⟩)).setCell (p := ⟨w.heap.size + 1 + 1, 0, none⟩) (by simp; omega) (.bool false)
      have hBd := hB2.trans (belowK_b (w := w) (Nat.le_refl _) W2 D _ (.deferred none) (by omega) hK2 rfl rfl)
      rw [hW2] at b3 b4
      clear g1 g2 a3 a4 e3 e4
      gi_wp2
      refine ⟨by simp, .inl ⟨_, _, rfl, run_takeDeferred hK2, ?_⟩⟩
      have d3 := (boxed_other b3 (grownBy_putObj' W2 D (.deferred none)) (fun r e => by cases e; exact ⟨_, hK2, rfl⟩)).cell
      have d4 := (boxed_other b4 (grownBy_putObj' W2 D (.deferred none)) (fun r e => by cases e; exact ⟨_, hK2, rfl⟩)).cell
      exact ⟨_, results_cell2 rfl _ _ _ _ rfl rfl Tryd.underlying9 Tryd.underlying4 rfl rfl d3 d4, rfl, hBd⟩
    case body =>
      rintro l s a' W hlt ⟨ha', hJ⟩
      obtain ⟨⟨h1, h2, h3, h4, h5, h8⟩, hne, hT, hlen⟩ := hJ
      dsimp only at ha'
      subst ha'
      have hv := h2.cell
      have hEE := fldR_eq s.2
      rw [if_neg hne] at hEE
      have hTT := Aside0.mk hT
      clear hT
      by_cases e1 : (keyAt s.2).toList = a1.toList
      · have d1 : ((keyAt s.2).toList == a1.toList) = true := beq_iff_eq.2 e1
        have hfd : findF a1 (fldR (inR a0)) = (valAt s.2, true) := by rw [hTT.out, findF_app _ h5, hEE, findF, if_pos e1]
        have HFD := Aside0.mk hfd
        have g1 := grownBy_setCell' W (w.heap.size + 1) (.string (valAt s.2))
        have g2 := grownBy_setCell' (W.setCell ⟨w.heap.size + 1, 0, none⟩ (.string (valAt s.2))) (w.heap.size + 1 + 1) (.bool true)
        have a3 := h3.set (.string (valAt s.2))
        have a4 := h4.kept g1 (by simp)
        have b4 := a4.set (.bool true)
        have b3 := a3.kept g2 (by simp)
        have f3 := h3.frozen
        have f4 := a4.frozen
        have c3 := h3.cell
        have c4 := a4.cell
        clear e1 hfd hEE
        gi_wp2
        exact ⟨((KeepsOthers.setCell _ _ _).from _).trans ((KeepsOthers.setCell _ _ _).from _), rfl, ⟨_, b3, HFD.out⟩, b4, (h8.setCell (p := ⟨w.heap.size + 1, 0, none⟩) (by simp) _).setCell (p := ⟨w.heap.size + 1 + 1, 0, none⟩) (by simp; omega) _⟩
      · have d1 : ((keyAt s.2).toList == a1.toList) = false := beq_eq_false_iff_ne.2 e1
        have h5' : ∀ p ∈ s.1 ++ [(keyAt s.2, valAt s.2)], ¬ p.1.toList = a1.toList := by
          intro p hp
          rcases List.mem_append.1 hp with h | h
          · exact h5 p h
          · rw [List.mem_singleton.1 h]; exact e1
        have H5 := Aside0.mk h5'
        clear e1 h5' hEE
        gi_wp2
        exact ⟨(KeepsOthers.refl _).from _, ⟨h1, h2, h3, h4, H5.out, h8⟩, hne, hTT.out, hlen⟩
  · rw [if_neg e] at h
    obtain ⟨rfl, rfl⟩ := Prod.mk.inj h
    clear h
    have e1 : (q != 0) = true := by simpa using e
    refine (callsIn_wide (n := 4)).1 ?_
    refine callsIn_of_wp_marks Tryd.func16 rfl trivial ?_ rfl
    simp only [Tryd.ntmps16, List.size_toArray, List.length_cons, List.length_nil, Nat.reduceAdd, Nat.reduceSub, Array.replicate_succ, Array.replicate_zero, List.push_toArray, List.append_toArray, List.nil_append, List.cons_append]
    have hB3 : Below w.heap.size w (((w.alloc (.cells #[.string a1] 9)).alloc (.cells #[.string ⟨#[]⟩] 9)).alloc (.cells #[.bool false] 4)) :=
      (((Below.refl _ w).alloc (Nat.le_refl _) _).alloc (by simp) _).alloc (by simp; omega) _
    have hn3 : ∀ (o1 o2 o3 : Obj), (((w.alloc o1).alloc o2).alloc o3).heap.size = w.heap.size + 3 := by intros; simp
    have x3 : Boxed (((w.alloc (.cells #[.string a1] 9)).alloc (.cells #[.string ⟨#[]⟩] 9)).alloc (.cells #[.bool false] 4)) (w.heap.size + 1) 9 (.string ⟨#[]⟩) := (boxed_at _ _ _ _ (by simp)).alloc _
    have x4 : Boxed (((w.alloc (.cells #[.string a1] 9)).alloc (.cells #[.string ⟨#[]⟩] 9)).alloc (.cells #[.bool false] 4)) (w.heap.size + 1 + 1) 4 (.bool false) := boxed_at _ _ _ _ (by simp)
    gi_wp2_with (first | (refine ⟨trivial, ?_⟩; gi_at_call 31; refine (callsIn_wide.2 (ht _ (HG.out.below (by repeat (first | exact Below.refl _ _ | refine Below.alloc ?_ (by simp; try omega) _))))).mono ?_; rintro e w1 ⟨rfl, hb1⟩; have e3 := boxed_below x3 hb1; have g1 := grownBy_setCell' w1 (w.heap.size + 1) (.string ⟨#[]⟩); have a4 := (boxed_below x4 hb1).kept g1 (by simp); have f3 := e3.frozen; have f4 := a4.frozen; have c3 := e3.cell; have c4 := a4.cell))
    have a3 := e3.set (.string ⟨#[]⟩)
    have g2 := grownBy_setCell' (w1.setCell ⟨w.heap.size + 1, 0, none⟩ (.string ⟨#[]⟩)) (w.heap.size + 1 + 1) (.bool false)
    have b4 := (a4.set (.bool false)).cell
    have b3 := (a3.kept g2 (by simp)).cell
    have hBw : Below w.heap.size w w1 := hB3.trans (hb1.mono (by rw [hn3]; omega))
    exact ⟨_, results_cell2 rfl _ _ _ _ rfl rfl Tryd.underlying9 Tryd.underlying4 rfl rfl b3 b4, rfl, (hBw.setCell (p := ⟨w.heap.size + 1, 0, none⟩) (by simp) (.string ⟨#[]⟩)).setCell (p := ⟨w.heap.size + 1 + 1, 0, none⟩) (by simp; omega) (.bool false)⟩
end Go.Proofs.YthdkmohelampbaaDoor.F
namespace Go.Proofs.YthdkmohelampbaaDoor.F
open Go.RowKit Go.Proofs.YthdkmohelampbaaDoorW.PrintWords Go.Proofs.YthdkmohelampbaaDoorW.PrintLast Go.Proofs.YthdkmohelampbaaDoorW.PrintMore
set_option linter.unusedVariables false
set_option linter.unusedSimpArgs false
theorem items_shal {one : ByteArray → Int → Int → Tk} (hl : Less one) {dep dep' : Int} : ∀ (k : Nat) (s : ByteArray) (d d' : Int), (∀ i d d', i.size ≤ s.size → (one i dep d).2.1 = 0 → (one i dep' d').2.1 = 0 ∧ (one i dep' d').1 = (one i dep d).1) →
    (itemsR one k s dep d).1 = 0 → (itemsR one k s dep' d').1 = 0
  | 0, _, _, _, _, _ => rfl
  | k + 1, s, d, d', h, h0 => by
    rw [itemsR] at h0 ⊢
    by_cases e : s.size = 0
    · rw [if_pos e]
    · rw [if_neg e] at h0 ⊢
      by_cases e1 : (one s dep d).2.1 = 0
      · obtain ⟨a1, a2⟩ := h s d d' (Nat.le_refl _) e1
        have := hl _ _ _ e1
        rw [e1, if_pos (show (if (0 : Int) = 2 then (3 : Int) else 0) = 0 by decide)] at h0
        rw [a1, if_pos (show (if (0 : Int) = 2 then (3 : Int) else 0) = 0 by decide), a2]
        exact items_shal hl k _ _ _ (fun i d d' hi => h i d d' (by omega)) h0
      · exfalso
        by_cases e2 : (one s dep d).2.1 = 2
        · rw [if_pos e2] at h0
          exact absurd h0 (show ¬ (3 : Int) = 0 by decide)
        · rw [if_neg e2, if_neg e1] at h0
          exact e1 h0
theorem within_shal {one : ByteArray → Int → Int → Tk} (hl : Less one) {dep dep' : Int} (hd : dep' ≤ dep) {s : ByteArray} {d d' : Int} (h : ∀ i d d', i.size < s.size → (one i dep d).2.1 = 0 → (one i dep' d').2.1 = 0 ∧ (one i dep' d').1 = (one i dep d).1)
    (h0 : (withinR one s dep d).2.1 = 0) : (withinR one s dep' d').2.1 = 0 ∧ (withinR one s dep' d').1 = (withinR one s dep d).1 := by
  unfold withinR at h0 ⊢
  by_cases e : (ltakeR 4 s).2.2 = 0
  · have hs := ltake_less e (by decide) isW4
    rw [if_pos e] at h0 ⊢
    rw [if_pos e]
    by_cases c : dep ≤ 32
    · rw [if_pos c] at h0 ⊢
      rw [if_pos (by omega)]
      exact ⟨items_shal hl _ _ _ _ (fun i d d' hi => h i d d' (by omega)) h0, rfl⟩
    · rw [if_neg c] at h0
      exact absurd h0 (show ¬ (5 : Int) = 0 by decide)
  · rw [if_neg e] at h0
    exact absurd h0 e
theorem field_shal {val : ByteArray → Int → Int → Tk} {dep dep' : Int} {s : ByteArray} {d d' : Int} (h : ∀ i d d', i.size ≤ s.size → (val i dep d).2.1 = 0 → (val i dep' d').2.1 = 0 ∧ (val i dep' d').1 = (val i dep d).1)
    (h0 : (fieldR val s dep d).2.1 = 0) : (fieldR val s dep' d').2.1 = 0 ∧ (fieldR val s dep' d').1 = (fieldR val s dep d).1 := by
  unfold fieldR at h0 ⊢
  by_cases e : (ltakeR 1 s).2.2 = 0
  · rw [if_pos e] at h0 ⊢
    rw [if_pos e]
    exact h _ d d' (ltake_size 1 s).2 h0
  · rw [if_neg e] at h0
    exact absurd h0 e
theorem val_shal : ∀ (n : Nat) (s : ByteArray) (dep dep' d d' : Int), s.size < n → dep' ≤ dep → (valT s dep d).2.1 = 0 → (valT s dep' d').2.1 = 0 ∧ (valT s dep' d').1 = (valT s dep d).1 := by
  intro n
  induction n with
  | zero => intro s dep dep' d d' h; omega
  | succ n ih =>
    intro s dep dep' d d' hn hd h
    rw [valT_eq] at h ⊢
    rw [valT_eq]
    by_cases e : s.size = 0
    · rw [if_pos e] at h; exact absurd h (show ¬ (2 : Int) = 0 by decide)
    have ht := tail_size e
    rw [if_neg e] at h ⊢
    rw [if_neg e]
    cases hk : sizeU (kindOf s) with
    | some m =>
      rw [hk] at h
      exact ⟨h, rfl⟩
    | none =>
      rw [hk] at h
      simp only at h ⊢
      by_cases c1 : kindOf s = 83 ∨ kindOf s = 120
      · simp only [if_pos c1] at h ⊢
        exact ⟨h, trivial⟩
      · simp only [if_neg c1] at h ⊢
        by_cases c2 : kindOf s = 65
        · simp only [if_pos c2] at h ⊢
          exact within_shal valT_less (by omega) (fun i d d' hi => ih i _ _ d d' (by omega) (by omega)) h
        · simp only [if_neg c2] at h ⊢
          by_cases c3 : kindOf s = 70
          · simp only [if_pos c3] at h ⊢
            exact within_shal (field_less valT_less) (by omega) (fun i d d' hi => field_shal fun i2 d2 d3 hi2 => ih i2 _ _ d2 d3 (by omega) (by omega)) h
          · simp only [if_neg c3] at h
            exact absurd h (show ¬ (3 : Int) = 0 by decide)
/-- a value, and nothing else -/
def IsVal (v : ByteArray) : Prop := ∃ d, tvalR v = (⟨#[]⟩, 0, d)
theorem tval_eq (s : ByteArray) : tvalR s = valT s 0 0 := rfl
/-- a field that is taken -/
theorem fld_one {x : ByteArray} {d : Int} (h : (fieldR valT x 1 d).2.1 = 0) : (ltakeR 1 x).2.2 = 0 ∧ IsVal (valAt x) ∧ leftAt x = (fieldR valT x 1 d).1 := by
  unfold fieldR at h ⊢
  by_cases e : (ltakeR 1 x).2.2 = 0
  · rw [if_pos e] at h ⊢
    refine ⟨e, ?_⟩
    unfold valAt leftAt taken1
    generalize (ltakeR 1 x).2.1 = r at h ⊢
    obtain ⟨h1, h2⟩ := val_shal (r.size + 1) r 1 0 d 0 (by omega) (by decide) h
    obtain ⟨a, ha, hm⟩ := val_pre h1
    have hp := hm ⟨#[]⟩
    rw [app_empty] at hp
    have ht : takenR r (tvalR r) = (a, (valT r 0 0).1, 0) := by
      unfold takenR
      rw [tval_eq, if_pos h1]
      have hs : r.size - (valT r 0 0).1.size = a.size := by
        have := congrArg ByteArray.size ha
        rw [size_append] at this
        omega
      rw [hs]
      have := extract_app_left a (valT r 0 0).1
      rw [← ha] at this
      rw [this]
    rw [ht]
    exact ⟨⟨_, hp⟩, h2⟩
  · rw [if_neg e] at h
    exact absurd h e
theorem fld_ok : ∀ (k : Nat) (x : ByteArray) (d : Int), x.size ≤ k → (itemsR (fieldR valT) k x 1 d).1 = 0 → ∀ p ∈ fldR x, IsVal p.2 := by
  intro k
  induction k with
  | zero =>
    intro x d hx _ p hp
    rw [fldR_eq, if_pos (by omega)] at hp
    exact absurd hp (List.not_mem_nil)
  | succ k ih =>
    intro x d hx h p hp
    rw [fldR_eq] at hp
    by_cases e : x.size = 0
    · rw [if_pos e] at hp; exact absurd hp (List.not_mem_nil)
    · rw [if_neg e] at hp
      rw [itemsR, if_neg e] at h
      by_cases e1 : (fieldR valT x 1 d).2.1 = 0
      · obtain ⟨_, h2, h3⟩ := fld_one e1
        have hl := left_less e
        rw [e1, if_pos (show (if (0 : Int) = 2 then (3 : Int) else 0) = 0 by decide), ← h3] at h
        rcases List.mem_cons.1 hp with rfl | hp
        · exact h2
        · exact ih _ _ (by omega) h p hp
      · exfalso
        by_cases e2 : (fieldR valT x 1 d).2.1 = 2
        · rw [if_pos e2] at h
          exact absurd h (show ¬ (3 : Int) = 0 by decide)
        · rw [if_neg e2, if_neg e1] at h
          exact e1 h
/-- a table, and nothing else: what stands within it -/
theorem whole_in {s : ByteArray} (h : wholeR s = 0) : inR s = (ltakeR 4 s).1 ∧ (ltakeR 4 s).2.2 = 0 ∧ (itemsR (fieldR valT) (inR s).size (inR s) 1 1).1 = 0 := by
  unfold wholeR at h
  by_cases e : (tabR s).2.1 = 0
  · rw [if_pos e] at h
    by_cases e0 : (tabR s).1.size = 0
    · rw [tabR_eq] at e e0
      unfold withinR at e e0
      by_cases el : (ltakeR 4 s).2.2 = 0
      · rw [if_pos el, if_pos (show (1 : Int) ≤ 32 by decide), if_pos (show (0 : Int) < 1 by decide)] at e e0
        simp only at e e0
        have hx : inR s = (ltakeR 4 s).1 := by
          unfold inR
          unfold ltakeR at el e0 ⊢
          by_cases et : (takeR s 4).2.2 = 0
          · rw [if_pos et] at el e0 ⊢
            by_cases en : (takeR s 4).1 ≤ ((takeR s 4).2.1.size : Int)
            · rw [if_pos en] at el e0 ⊢
              simp only at e0 ⊢
              rw [extract_size'] at e0
              have hb := (take_bound s 4).1
              have : (takeR s 4).1.toNat = (takeR s 4).2.1.size := by omega
              rw [this, extract_take, List.take_of_length_le (by rw [size_list]; omega), ← toBA_of]
            · rw [if_neg en] at el
              exact absurd el (show ¬ (2 : Int) = 0 by decide)
          · rw [if_neg et] at el
            exact absurd el et
        exact ⟨hx, el, by rw [hx]; exact e⟩
      · rw [if_neg el] at e
        exact absurd e el
    · rw [if_neg e0] at h
      exact absurd h (show ¬ (3 : Int) = 0 by decide)
  · rw [if_neg e] at h
    exact absurd h e
end Go.Proofs.YthdkmohelampbaaDoor.F
namespace Go.Proofs.YthdkmohelampbaaDoor.F
open Go.RowKit Go.Proofs.YthdkmohelampbaaDoorW.PrintWords Go.Proofs.YthdkmohelampbaaDoorW.PrintLast Go.Proofs.YthdkmohelampbaaDoorW.PrintMore
set_option linter.unusedVariables false
set_option linter.unusedSimpArgs false
/-- h: how many depths it has within it -/
def Ht (one : ByteArray → Int → Int → Tk) (s rest : ByteArray) (h : Nat) : Prop :=
  ∀ dep d : Int, dep ≤ d → dep ≤ 32 → (dep + h ≤ 32 → one s dep d = (rest, 0, max d (dep + h))) ∧ (32 < dep + h → (one s dep d).2.1 = 5)
def HtI (one : ByteArray → Int → Int → Tk) (k : Nat) (s : ByteArray) (h : Nat) : Prop :=
  ∀ dep d : Int, dep ≤ d → dep ≤ 32 → (dep + h ≤ 32 → itemsR one k s dep d = (0, max d (dep + h))) ∧ (32 < dep + h → (itemsR one k s dep d).1 = 5)
theorem items_ht {one : ByteArray → Int → Int → Tk} (hl : Less one) {dep0 : Int} : ∀ (k : Nat) (s : ByteArray) (d0 : Int), (∀ i d, i.size ≤ s.size → (one i dep0 d).2.1 = 0 → ∃ h, Ht one i (one i dep0 d).1 h) →
    (itemsR one k s dep0 d0).1 = 0 → ∃ h, HtI one k s h
  | 0, s, d0, _, _ => ⟨0, fun dep d h1 h2 => ⟨fun _ => by simp only [itemsR]; congr 1; omega, fun h => by omega⟩⟩
  | k + 1, s, d0, H, h0 => by
    by_cases e : s.size = 0
    · exact ⟨0, fun dep d h1 h2 => ⟨fun _ => by rw [itemsR, if_pos e]; congr 1; omega, fun h => by omega⟩⟩
    · rw [itemsR, if_neg e] at h0
      by_cases e1 : (one s dep0 d0).2.1 = 0
      · obtain ⟨h, hh⟩ := H s d0 (Nat.le_refl _) e1
        have hls := hl _ _ _ e1
        rw [e1, if_pos (show (if (0 : Int) = 2 then (3 : Int) else 0) = 0 by decide)] at h0
        obtain ⟨h', hh'⟩ := items_ht hl k _ _ (fun i d hi => H i d (by omega)) h0
        refine ⟨max h h', fun dep d h1 h2 => ?_⟩
        obtain ⟨p1, p2⟩ := hh dep d h1 h2
        rw [itemsR, if_neg e]
        by_cases c : dep + h ≤ 32
        · have p3 := p1 c
          rw [p3]
          simp only
          rw [if_pos (show (if (0 : Int) = 2 then (3 : Int) else 0) = 0 by decide)]
          obtain ⟨q1, q2⟩ := hh' dep (max d (dep + h)) (by omega) h2
          refine ⟨fun hc => ?_, fun hc => q2 (by omega)⟩
          rw [q1 (by omega)]
          congr 1
          omega
        · have p3 := p2 (by omega)
          refine ⟨fun hc => by omega, fun _ => ?_⟩
          rw [p3]
          rfl
      · exfalso
        by_cases e2 : (one s dep0 d0).2.1 = 2
        · rw [if_pos e2] at h0
          exact absurd h0 (show ¬ (3 : Int) = 0 by decide)
        · rw [if_neg e2, if_neg e1] at h0
          exact e1 h0
theorem within_ht {one : ByteArray → Int → Int → Tk} (hl : Less one) {s : ByteArray} {dep0 d0 : Int} (H : ∀ i d, i.size < s.size → (one i dep0 d).2.1 = 0 → ∃ h, Ht one i (one i dep0 d).1 h)
    (h0 : (withinR one s dep0 d0).2.1 = 0) : ∃ h : Nat, ∀ dep d : Int, (dep ≤ 32 → dep + h ≤ 32 → withinR one s dep d = ((withinR one s dep0 d0).1, 0, max d (dep + h))) ∧ (dep ≤ 33 → 32 < dep + h → (withinR one s dep d).2.1 = 5) := by
  unfold withinR at h0 ⊢
  by_cases e : (ltakeR 4 s).2.2 = 0
  · have hs := ltake_less e (by decide) isW4
    simp only [if_pos e] at h0 ⊢
    by_cases c : dep0 ≤ 32
    · rw [if_pos c] at h0
      obtain ⟨h, hh⟩ := items_ht hl _ _ _ (fun i d hi => H i d (by omega)) h0
      refine ⟨h, fun dep d => ?_⟩
      by_cases c1 : dep ≤ 32
      · obtain ⟨p1, p2⟩ := hh dep (if d < dep then dep else d) (by split <;> omega) c1
        rw [if_pos c1, if_pos c]
        refine ⟨fun _ hc => ?_, fun _ hc => p2 hc⟩
        rw [p1 hc]
        simp only
        congr 2
        split <;> omega
      · rw [if_neg c1]
        exact ⟨fun h => absurd h c1, fun _ _ => rfl⟩
    · rw [if_neg c] at h0
      exact absurd h0 (show ¬ (5 : Int) = 0 by decide)
  · rw [if_neg e] at h0
    exact absurd h0 e
end Go.Proofs.YthdkmohelampbaaDoor.F
namespace Go.Proofs.YthdkmohelampbaaDoor.F
open Go.RowKit Go.Proofs.YthdkmohelampbaaDoorW.PrintWords Go.Proofs.YthdkmohelampbaaDoorW.PrintLast Go.Proofs.YthdkmohelampbaaDoorW.PrintMore
set_option linter.unusedVariables false
set_option linter.unusedSimpArgs false
theorem shown_t : interchangelaw03_shown.f = some true := by
  unfold interchangelaw03_shown.f
  decide +kernel
end Go.Proofs.YthdkmohelampbaaDoor.F
namespace Go.Proofs.YthdkmohelampbaaDoor.F
open Go.RowKit Go.Proofs.YthdkmohelampbaaDoorW.PrintWords Go.Proofs.YthdkmohelampbaaDoorW.PrintLast Go.Proofs.YthdkmohelampbaaDoorW.PrintMore
set_option linter.unusedVariables false
set_option linter.unusedSimpArgs false
theorem field_ht {s : ByteArray} {dep0 d0 : Int} (H : ∀ i d, i.size ≤ s.size → (valT i dep0 d).2.1 = 0 → ∃ h, Ht valT i (valT i dep0 d).1 h) (h0 : (fieldR valT s dep0 d0).2.1 = 0) : ∃ h, Ht (fieldR valT) s (fieldR valT s dep0 d0).1 h := by
  unfold fieldR at h0 ⊢
  by_cases e : (ltakeR 1 s).2.2 = 0
  · simp only [if_pos e] at h0 ⊢
    obtain ⟨h, hh⟩ := H _ d0 (ltake_size 1 s).2 h0
    refine ⟨h, fun dep d h1 h2 => ?_⟩
    simp only [if_pos e]
    exact hh dep d h1 h2
  · rw [if_neg e] at h0
    exact absurd h0 e
theorem val_ht : ∀ (n : Nat) (s : ByteArray) (dep0 d0 : Int), s.size < n → (valT s dep0 d0).2.1 = 0 → ∃ h, Ht valT s (valT s dep0 d0).1 h := by
  intro n
  induction n with
  | zero => intro s _ _ h; omega
  | succ n ih =>
    intro s dep0 d0 hn h
    have hE := valT_eq s
    rw [hE] at h ⊢
    by_cases e : s.size = 0
    · rw [if_pos e] at h; exact absurd h (show ¬ (2 : Int) = 0 by decide)
    have ht := tail_size e
    simp only [if_neg e] at h hE ⊢
    cases hk : sizeU (kindOf s) with
    | some m =>
      simp only [hk] at h hE ⊢
      refine ⟨0, fun dep d h1 h2 => ⟨fun _ => ?_, fun h => by omega⟩⟩
      rw [hE, h]
      congr 2
      omega
    | none =>
      simp only [hk] at h hE ⊢
      by_cases c1 : kindOf s = 83 ∨ kindOf s = 120
      · simp only [if_pos c1] at h hE ⊢
        refine ⟨0, fun dep d h1 h2 => ⟨fun _ => ?_, fun h => by omega⟩⟩
        rw [hE, h]
        congr 2
        omega
      · simp only [if_neg c1] at h hE ⊢
        by_cases c2 : kindOf s = 65
        · simp only [if_pos c2] at h hE ⊢
          obtain ⟨w, hw⟩ := within_ht valT_less (fun i d hi => ih i _ d (by omega)) h
          refine ⟨w + 1, fun dep d h1 h2 => ?_⟩
          rw [hE]
          obtain ⟨p1, p2⟩ := hw (dep + 1) d
          refine ⟨fun hc => ?_, fun hc => p2 (by omega) (by omega)⟩
          rw [p1 (by omega) (by omega)]
          congr 2
          omega
        · simp only [if_neg c2] at h hE ⊢
          by_cases c3 : kindOf s = 70
          · simp only [if_pos c3] at h hE ⊢
            obtain ⟨w, hw⟩ := within_ht (field_less valT_less) (fun i d hi => field_ht fun i2 d2 hi2 => ih i2 _ d2 (by omega)) h
            refine ⟨w + 1, fun dep d h1 h2 => ?_⟩
            rw [hE]
            obtain ⟨p1, p2⟩ := hw (dep + 1) d
            refine ⟨fun hc => ?_, fun hc => p2 (by omega) (by omega)⟩
            rw [p1 (by omega) (by omega)]
            congr 2
            omega
          · simp only [if_neg c3] at h
            exact absurd h (show ¬ (3 : Int) = 0 by decide)
/-- a table, and nothing else, that has h depths below its own -/
def TabH (t : ByteArray) (h : Nat) : Prop := 1 + h ≤ 32 ∧ tabR t = (⟨#[]⟩, 0, ((1 + h : Nat) : Int)) ∧ ∀ dep d : Int, (dep ≤ 32 → dep + h ≤ 32 → withinR (fieldR valT) t dep d = (⟨#[]⟩, 0, max d (dep + h))) ∧ (dep ≤ 33 → 32 < dep + h → (withinR (fieldR valT) t dep d).2.1 = 5)
theorem tab_h {t : ByteArray} (h : wholeR t = 0) : ∃ n, TabH t n := by
  unfold wholeR at h
  by_cases e : (tabR t).2.1 = 0
  · rw [if_pos e] at h
    by_cases e0 : (tabR t).1.size = 0
    · rw [tabR_eq] at e e0
      obtain ⟨w, hw⟩ := within_ht (field_less valT_less) (fun i d hi => field_ht fun i2 d2 hi2 => val_ht _ i2 _ d2 (Nat.lt_succ_self _)) e
      have hem := ba_empty e0
      rw [hem] at hw
      obtain ⟨p1, p2⟩ := hw 1 0
      have hle : 1 + w ≤ 32 := by
        by_cases c : 1 + w ≤ 32
        · exact c
        · rw [p2 (by decide) (by omega)] at e; exact absurd e (show ¬ (5 : Int) = 0 by decide)
      refine ⟨w, hle, ?_, hw⟩
      rw [tabR_eq, p1 (by decide) (by omega)]
      have hm : max (0 : Int) (1 + (w : Int)) = ((1 + w : Nat) : Int) := by omega
      rw [hm]
    · rw [if_neg e0] at h; exact absurd h (show ¬ (3 : Int) = 0 by decide)
  · rw [if_neg e] at h; exact absurd h e
theorem TabH.whole {t : ByteArray} {n : Nat} (h : TabH t n) : wholeR t = 0 := by
  unfold wholeR
  rw [h.2.1]
  rfl
theorem TabH.deep {t : ByteArray} {n : Nat} (h : TabH t n) : deepR t = (((1 + n : Nat) : Int), 0) := by
  unfold deepR
  rw [h.whole, if_pos rfl, h.2.1]
def fV (t : ByteArray) : ByteArray := (⟨#[70]⟩ : ByteArray) ++ t
theorem fV_val (t : ByteArray) (dep d : Int) : valT (fV t) dep d = withinR (fieldR valT) t (dep + 1) d := by
  have hk : kindOf (fV t) = 70 := by unfold kindOf fV; rw [append_data]; rfl
  have ht : tailOf (fV t) = t := extract_app_right (⟨#[70]⟩ : ByteArray) t
  have hs : ¬ (fV t).size = 0 := by unfold fV; rw [size_append]; have : (⟨#[70]⟩ : ByteArray).size = 1 := rfl; omega
  rw [valT_eq, if_neg hs, hk, ht]
  rfl
/-- a table with another one as its one field's value -/
def accK (t : ByteArray) : ByteArray := (layR 1 (⟨#[107]⟩ : ByteArray)).1 ++ fV t
theorem accK_size (t : ByteArray) : (accK t).size = t.size + 3 := by
  unfold accK fV
  rw [size_append, size_append, short_size (by decide)]
  have h1 : (⟨#[70]⟩ : ByteArray).size = 1 := rfl
  have h2 : (⟨#[107]⟩ : ByteArray).size = 1 := rfl
  omega
theorem make_k {t : ByteArray} {n : Nat} (h : TabH t n) (hz : t.size ≤ 4294967000) : (2 + n ≤ 32 → makeR [(⟨#[107]⟩ : ByteArray)] [fV t] = ((layR 4 (accK t)).1, 0) ∧ TabH (layR 4 (accK t)).1 (n + 1)) ∧ (32 < 2 + n → makeR [(⟨#[107]⟩ : ByteArray)] [fV t] = (⟨#[]⟩, 5)) := by
  have hsz := accK_size t
  have hl1 : (layR 1 (⟨#[107]⟩ : ByteArray)).2 = 0 := (short_iff _).2 (by decide)
  have hl4 : (layR 4 (accK t)).2 = 0 := long_zero (by omega)
  have hv : tvalR (fV t) = (⟨#[]⟩, 0, ((1 + n : Nat) : Int)) := by
    rw [tval_eq, fV_val, ← h.2.1, tabR_eq]; rfl
  have hg : mkGo [(⟨#[107]⟩ : ByteArray)] [fV t] ⟨#[]⟩ = (accK t, 0) := by
    rw [mkGo_cons, if_pos hl1, hv]
    unfold takenR
    rw [if_pos rfl]
    simp only
    rw [if_pos trivial, if_pos (show (⟨#[]⟩ : ByteArray).size = 0 from rfl), mkGo]
    congr 1
  have htk : ltakeR 4 (layR 4 (accK t)).1 = (accK t, ⟨#[]⟩, 0) := by
    have := lay_take ⟨#[]⟩ hl4
    rwa [app_empty] at this
  have htk1 : ltakeR 1 (accK t) = (⟨#[107]⟩, fV t, 0) := lay_take (fV t) hl1
  have hw : ∀ dep d : Int, dep ≤ 32 → withinR (fieldR valT) (layR 4 (accK t)).1 dep d = (⟨#[]⟩, (itemsR (fieldR valT) (t.size + 3) (accK t) dep (if d < dep then dep else d)).1, (itemsR (fieldR valT) (t.size + 3) (accK t) dep (if d < dep then dep else d)).2) := by
    intro dep d hd
    unfold withinR
    rw [htk]
    simp only
    rw [if_pos trivial, if_pos hd, hsz]
  have hi : ∀ dep d : Int, itemsR (fieldR valT) (t.size + 3) (accK t) dep d = if (if (withinR (fieldR valT) t (dep + 1) d).2.1 = 2 then 3 else (withinR (fieldR valT) t (dep + 1) d).2.1) = 0 then itemsR (fieldR valT) (t.size + 2) (withinR (fieldR valT) t (dep + 1) d).1 dep (withinR (fieldR valT) t (dep + 1) d).2.2 else ((if (withinR (fieldR valT) t (dep + 1) d).2.1 = 2 then 3 else (withinR (fieldR valT) t (dep + 1) d).2.1), (withinR (fieldR valT) t (dep + 1) d).2.2) := by
    intro dep d
    have hf : fieldR valT (accK t) dep d = withinR (fieldR valT) t (dep + 1) d := by
      unfold fieldR
      rw [htk1]
      simp only
      rw [if_pos trivial, fV_val]
      rfl
    rw [itemsR, if_neg (by omega), hf]
  have hall : ∀ dep d : Int, (dep ≤ 32 → dep + ((n + 1 : Nat) : Int) ≤ 32 → withinR (fieldR valT) (layR 4 (accK t)).1 dep d = (⟨#[]⟩, 0, max d (dep + ((n + 1 : Nat) : Int)))) ∧ (dep ≤ 33 → 32 < dep + ((n + 1 : Nat) : Int) → (withinR (fieldR valT) (layR 4 (accK t)).1 dep d).2.1 = 5) := by
    intro dep d
    obtain ⟨p1, p2⟩ := h.2.2 (dep + 1) (if d < dep then dep else d)
    refine ⟨fun h1 h2 => ?_, fun h1 h2 => ?_⟩
    · rw [hw dep d h1, hi, p1 (by omega) (by omega)]
      simp only
      rw [if_pos (show (if (0 : Int) = 2 then (3 : Int) else 0) = 0 by decide)]
      have : ∀ k (dd : Int), itemsR (fieldR valT) (k + 1) ⟨#[]⟩ dep dd = (0, dd) := fun k dd => by rw [itemsR, if_pos (show (⟨#[]⟩ : ByteArray).size = 0 from rfl)]
      rw [this]
      simp only
      have hm : max (if d < dep then dep else d) (dep + 1 + (n : Int)) = max d (dep + ((n + 1 : Nat) : Int)) := by split <;> omega
      rw [hm]
    · by_cases c : dep ≤ 32
      · rw [hw dep d c, hi, p2 (by omega) (by omega)]
        rfl
      · unfold withinR
        rw [htk]
        simp only
        rw [if_pos trivial, if_neg c]
  have hmk : makeR [(⟨#[107]⟩ : ByteArray)] [fV t] = closeR (layR 4 (accK t)) := by
    unfold makeR
    rw [if_pos (show [(⟨#[107]⟩ : ByteArray)].length = [fV t].length from rfl), hg]
    simp only
    rw [if_pos trivial]
  rw [hmk]
  unfold closeR
  rw [if_pos hl4]
  refine ⟨fun hc => ?_, fun hc => ?_⟩
  · have hT : TabH (layR 4 (accK t)).1 (n + 1) := by
      refine ⟨by omega, ?_, hall⟩
      rw [tabR_eq, (hall 1 0).1 (by decide) (by omega)]
      have hm : max (0 : Int) (1 + ((n + 1 : Nat) : Int)) = ((1 + (n + 1) : Nat) : Int) := by omega
      rw [hm]
    exact ⟨by rw [if_pos hT.whole], hT⟩
  · have h5 : wholeR (layR 4 (accK t)).1 = 5 := by
      have := (hall 1 0).2 (by decide) (by omega)
      unfold wholeR
      rw [tabR_eq, this]
      rfl
    rw [h5]
    rfl
theorem make_f (t : ByteArray) (hz : t.size ≤ 4294967000) : table_Make.f [(⟨#[107]⟩ : ByteArray)] [fV t] = some (makeR [(⟨#[107]⟩ : ByteArray)] [fV t]) := by
  unfold table_Make.f
  rw [if_pos]
  unfold makeOk sumB fV
  simp only [List.map_cons, List.map_nil, List.sum_cons, List.sum_nil, List.length_cons, List.length_nil, size_append]
  have e1 : (⟨#[107]⟩ : ByteArray).size = 1 := rfl
  have e2 : (⟨#[70]⟩ : ByteArray).size = 1 := rfl
  omega
theorem deep_f (x1 x6 : Int) (k : Nat) (t : ByteArray) (i : Int) (hi : i ≤ x1) (hz : t.size ≤ 4294967000) : interchangelaw03_TableDeep.l0 (k + 1) x1 true x6 t i = (table_Make.f [(⟨#[107]⟩ : ByteArray)] [fV t]).bind fun bt188 => (if bt188.2 = 0 then ((table_Deep.f bt188.1).bind fun bt190 => (if bt190.2 = 0 then (if bt190.1 = (wrap64 (x6 + i)) then (if bt190.1 > 32 then (some false) else (interchangelaw03_TableDeep.l0 k x1 true x6 bt188.1 (wrap64 (i + 1)))) else (some false)) else (some false))) else (if true = true then (if bt188.2 = 5 then (some (decide ((wrap64 (x6 + i)) > 32))) else (some false)) else (some false))) := by
  rw [interchangelaw03_TableDeep.l0, if_pos hi, if_pos (Nat.le_trans (Nat.add_le_add_left hz 1) (by decide))]
  rfl
theorem deep_step (x1 x6 i : Int) (k : Nat) (m : ByteArray) (q : Int) (hi : 1 ≤ i) (h6' : x6 ≤ 32) (hi2 : i ≤ x1) (hx : i ≤ 40) (h6 : 1 ≤ x6) (hD : table_Deep.f m = some (q, 0)) (hq : q = x6 + i) (h32 : ¬ q > 32) (hrec : interchangelaw03_TableDeep.l0 k x1 true x6 m (i + 1) = some true) :
    (if ((m, 0) : ByteArray × Int).2 = 0 then ((table_Deep.f ((m, 0) : ByteArray × Int).1).bind fun bt190 => (if bt190.2 = 0 then (if bt190.1 = (wrap64 (x6 + i)) then (if bt190.1 > 32 then (some false) else (interchangelaw03_TableDeep.l0 k x1 true x6 ((m, 0) : ByteArray × Int).1 (wrap64 (i + 1)))) else (some false)) else (some false))) else (if true = true then (if ((m, 0) : ByteArray × Int).2 = 5 then (some (decide ((wrap64 (x6 + i)) > 32))) else (some false)) else (some false))) = some true := by
  have hw : wrap64 (x6 + i) = x6 + i := wrap64_of (by omega) (by omega)
  have hw2 : wrap64 (i + 1) = i + 1 := wrap64_of (by omega) (by omega)
  simp only
  rw [if_pos trivial, hD, Option.bind_some]
  simp only
  rw [if_pos trivial, hw, if_pos hq, if_neg h32, hw2]
  exact hrec
theorem deep_loop (S : Nat) (hS : S ≤ 1048576) (x1 x6 : Int) (h6 : 1 ≤ x6) (h6' : x6 ≤ 32) (h1 : x1 ≤ 40) : ∀ (d k : Nat) (i : Int) (t : ByteArray) (n : Nat), 1 ≤ i → x1 + 1 = i + d → d < k → TabH t n → ((1 + n : Nat) : Int) = x6 + (i - 1) → (t.size : Int) ≤ (S : Int) + 100 * i →
    interchangelaw03_TableDeep.l0 k x1 true x6 t i = some true := by
  intro d
  induction d with
  | zero =>
    intro k i t n hi hd hk hT hn hz
    obtain ⟨k, rfl⟩ : ∃ j, k = j + 1 := ⟨k - 1, by omega⟩
    have := hT.1
    rw [interchangelaw03_TableDeep.l0, if_neg (by omega), if_pos rfl, wrap64_of (by omega) (by omega), decide_eq_true (by omega)]
  | succ d ih =>
    intro k i t n hi hd hk hT hn hz
    obtain ⟨k, rfl⟩ : ∃ j, k = j + 1 := ⟨k - 1, by omega⟩
    have hm := make_k hT (by omega)
    have hs := accK_size t
    have hls := lay_size 4 (accK t)
    have hM := make_f t (by omega)
    have hw : wrap64 (x6 + i) = x6 + i := wrap64_of (by omega) (by omega)
    have hdf := deep_f x1 x6 k t i (by omega) (by omega)
    rw [hM, Option.bind_some] at hdf
    rw [hdf]
    clear hM hdf
    generalize makeR [(⟨#[107]⟩ : ByteArray)] [fV t] = mk at hm
    generalize (layR 4 (accK t)).1 = m at hm hls
    by_cases c : 2 + n ≤ 32
    · obtain ⟨e1, hT2⟩ := hm.1 c
      subst e1
      have hms : (m.size : Int) ≤ (S : Int) + 100 * (i + 1) := by omega
      have hmz : m.size ≤ 4611686018427387904 := by omega
      have hnn : ((1 + (n + 1) : Nat) : Int) = x6 + (i + 1 - 1) := by omega
      obtain ⟨q, hq⟩ : ∃ q : Int, deepR m = (q, 0) ∧ q = x6 + i ∧ ¬ q > 32 := ⟨_, hT2.deep, by omega, by omega⟩
      have hD : table_Deep.f m = some (q, 0) := by
        unfold table_Deep.f
        rw [if_pos hmz, hq.1]
      have hrec := ih k (i + 1) m (n + 1) (by omega) (by omega) (by omega) hT2 hnn hms
      exact deep_step x1 x6 i k m q (by omega) h6' (by omega) (by omega) h6 hD hq.2.1 hq.2.2 hrec
    · rw [hm.2 (by omega)]
      simp only
      rw [if_neg (by decide), if_pos trivial, if_pos trivial, hw, decide_eq_true (by omega)]
theorem tableDeep_pure (b0 : ByteArray) (b1 : Int) (g0 : b0.size ≤ maxLen) (g1 : (Lit.int .i64 b1).wf = true) (hb : (fun a => a.size + 1) b0 + (fun _ => 1) b1 ≤ 1048576) : ∃ k, interchangelaw03_TableDeep.f k b0 b1 = some true := by
  have hz : b0.size + 1 + 1 ≤ 1048576 := hb
  obtain ⟨k, hk⟩ : ∃ k : Nat, 100 ≤ k := ⟨100, Nat.le_refl _⟩
  obtain ⟨k, rfl⟩ : ∃ j, k = j + 1 := ⟨k - 1, by omega⟩
  refine ⟨k + 1, ?_⟩
  unfold interchangelaw03_TableDeep.f
  rw [shown_t, Option.bind_some]
  by_cases c1 : b1 < 1
  · rw [if_pos c1, interchangelaw03_TableDeep.j0, if_pos rfl]
  rw [if_neg c1, interchangelaw03_TableDeep.j0]
  by_cases c2 : b1 > 40
  · rw [decide_eq_true c2, if_pos rfl]
  rw [decide_eq_false c2, if_neg (by decide)]
  have hD : table_Deep.f b0 = some (deepR b0) := by unfold table_Deep.f; rw [if_pos (by omega)]
  rw [hD, Option.bind_some]
  by_cases e : wholeR b0 = 0
  · obtain ⟨n, hT⟩ := tab_h e
    rw [hT.deep]
    simp only
    rw [if_pos trivial]
    have := hT.1
    exact deep_loop b0.size (by omega) b1 _ (by omega) (by omega) (by omega) b1.toNat k 1 b0 n (by decide) (by omega) (by omega) hT (by omega) (by omega)
  · unfold deepR
    rw [if_neg e]
    simp only
    rw [if_neg e]
end Go.Proofs.YthdkmohelampbaaDoor.F
namespace Go.Proofs.YthdkmohelampbaaDoor.F
open Go.ChangeShapes Go.WideShapes Go.ChangeAt Go.RowKit Go.Proofs.YthdkmohelampbaaDoorW.PrintWords Go.Proofs.YthdkmohelampbaaDoorW.PrintLast
set_option linter.unusedVariables false
set_option linter.unusedSimpArgs false

set_option maxHeartbeats 2000000 in
theorem tableDeep_contract (H : Type) (enc : TypeId × Value → H) (W : World) (base : Nat) (args : Array Value) (ds gs : List (DataW H)) (before : List MemPlace)
    (hval0 : ∀ (j : Nat) t v, Tryd.f5.params[j]? = some t → args[j]? = some v → Value.okWide Tryd.prog W .any base t v)
    (hW : DataW.Whole enc Tryd.prog Tryd.f5.params.toList Rows.tableDeepSpec.vars false W args.toList ds gs before) (hL : laidMetH Tryd.prog Rows.tableDeepUptoRow.laid W)
    (hk : Rows.uptoSmall H (ds ++ gs) = true) :
    Calls Tryd.prog 5 args W fun e W' => ∃ v, e = .returned v ∧ Rows.tableDeepSpec.post enc Tryd.prog Tryd.f5 false true false false W args v W' := by
  have hW' := hW
  obtain ⟨p, q, hA0, hV, rfl, hfz, hnd⟩ := hW
  have hA : DataW.TrodAll enc Tryd.prog W 0 (fun _ => true) true Tryd.f5.params.toList args.toList ds p := hA0
  have hval : ∀ (j : Nat) t v, Tryd.f5.params[j]? = some t → args[j]? = some v → Value.okWide Tryd.prog W .any base t v := hval0
  rw [Tryd.params5] at hA hval
  obtain ⟨v0, vs0, d0, ds0, p0, q0, hargs, rfl, rfl, h0, r0⟩ := trodAll_cons hA
  obtain ⟨v1, vs1, d1, ds1, p1, q1, rfl, rfl, rfl, h1, r1⟩ := trodAll_cons r0
  obtain ⟨rfl, rfl, rfl⟩ := trodAll_nil r1
  obtain rfl : args = #[v0, v1] := by cases args; simp_all
  obtain ⟨rfl, rfl⟩ := trodVars_none hV
  have hg := laid_of hL
  have k0 := h0
  have lt0 : ∀ x ∈ p0, x.block < W.heap.size := by obtain ⟨m, hm⟩ := k0; exact DataW.trod_lt m _ _ _ hm
  obtain ⟨fuel0, hf0⟩ := h0
  obtain ⟨b0, e0, g0, z0, u0⟩ := (opened_string Tryd.underlying9).out enc W fuel0 _ _ hf0
  obtain rfl := shape_string Tryd.underlying9 (hval 0 9 v0 rfl rfl) e0
  have k1 := h1
  have lt1 : ∀ x ∈ p1, x.block < W.heap.size := by obtain ⟨m, hm⟩ := k1; exact DataW.trod_lt m _ _ _ hm
  obtain ⟨fuel1, hf1⟩ := h1
  obtain ⟨b1, e1, g1, z1, u1⟩ := (opened_int (k := .i64) Tryd.underlying3).out enc W fuel1 _ _ hf1
  obtain rfl := shape_int Tryd.underlying3 (hval 1 3 v1 rfl rfl) e1
  have hbulk : Rows.uptoBulk d0 + Rows.uptoBulk d1 ≤ 1048576 := by
    have := of_decide_eq_true hk
    simp only [List.append_nil, Rows.uptoBulkAll] at this
    omega
  have hbb : (fun a => a.size + 1) b0 + (fun _ => 1) b1 ≤ 1048576 := by
    have y0 : (fun a => a.size + 1) b0 ≤ Rows.uptoBulk d0 := u0
    have y1 : (fun _ => 1) b1 ≤ Rows.uptoBulk d1 := u1
    omega
  obtain ⟨k, hpure⟩ := tableDeep_pure b0 b1 g0 g1 hbb
  refine (interchangelaw03_TableDeep.calls k b0 b1 W hg  hpure).mono fun e W' ⟨he, bel⟩ => ?_
  subst he
  exact ⟨_, rfl, _, _, _, [], _, [], hW', trodAll_mk1 (shut_bool Tryd.underlying4 _), (trodAll_cons_mk (Below.trod laid_out (by kernel_rfl) (of_decide_eq_true (by kernel_rfl)) k0 bel lt0) (trodAll_cons_mk (Below.trod laid_out (by kernel_rfl) (of_decide_eq_true (by kernel_rfl)) k1 bel lt1) trodAll_mk0)), rfl, bel.frame _, fun h => by cases h⟩

theorem tableDeep_reads (os : Os) {H : Type} (enc : TypeId × Value → H) : ∃ places, DataW.whole enc Tryd.prog ((laid_world os).forCall (fun _ _ => 0) ⟨#[], #[.string ByteArray.empty, .int .i64 0], []⟩).memory Tryd.f5.params.toList Rows.tableDeepSpec.vars false (#[.string ByteArray.empty, .int .i64 0] : Array Value).toList 8 = some ([.lit (.string []), .lit (.int .i64 0)], [], places) :=
  ⟨[], by kernel_rfl⟩
theorem tableDeep_met (os : Os) : laidMet Tryd.prog Rows.tableDeepUptoRow.laid ((laid_world os).forCall (fun _ _ => 0) ⟨#[], #[.string ByteArray.empty, .int .i64 0], []⟩).memory :=
  laidMet_of_run' 8 (by kernel_rfl) (by kernel_rfl)
set_option maxRecDepth 100000 in
theorem tableDeep_lifted (os : Os) (started : os.Started) (H : Type) (enc : TypeId × Value → H) (F : Stop.Interp) :
    ReturnsInHanded {} Tryd.checked os 5 .any ((Rows.OpenSpec.upto Rows.tableDeepSpec).preRow enc Tryd.prog Tryd.f5 Rows.tableDeepUptoRow.domain false Rows.tableDeepUptoRow.laid) (((Rows.OpenSpec.upto Rows.tableDeepSpec).at F).post enc Tryd.prog Tryd.f5 false true false false) := by
  obtain ⟨places, hx⟩ := tableDeep_reads os enc
  refine returnsInHanded_of_row (C := Tryd.checked) (s := (Rows.OpenSpec.upto Rows.tableDeepSpec)) own_knob started (by kernel_rfl) Tryd.func5
    (witness_row_at (enc := enc) (C := Tryd.checked) false (laid_world os) #[.string ByteArray.empty, .int .i64 0] rfl (by kernel_rfl) (by kernel_rfl) (by kernel_rfl)
      (OpenSpec.preRow_of_cond 8 hx (by kernel_rfl) (fun k hk => by cases hk; kernel_rfl) (by kernel_rfl) (tableDeep_met os))) ?_
  intro W base args ds gs before hval hW _ hcond hsz hL _ _
  exact tableDeep_contract H enc W base args ds gs before hval hW hL (hcond _ rfl)
theorem tableDeep_said : Rows.TableDeepUptoSaid :=
  OpenClaim.holds_of_cond 5 Tryd.f5 rfl rfl rfl rfl rfl rfl rfl ⟨rfl, rfl, rfl, rfl, rfl⟩ rfl rfl rfl rfl rfl (by kernel_rfl) Tryd.func5 (by kernel_rfl)
    (of_decide_eq_true (by kernel_rfl)) (by unfold Func.isWrapper; first | (rw [if_pos (by decide +kernel)]; kernel_rfl) | (rw [if_neg (by decide +kernel)]; exact ⟨rfl, rfl⟩))
    (fun os started H enc _ F => by rw [OpenClaim.pre_eq_preRow]; exact tableDeep_lifted os started H enc F)
theorem tableDeep_plain (f : FuncId) (fn : Func) (hf : Tryd.pinned.checked.prog.funcNamed "interchange/interchangelaw03.TableDeep" = some f) (hfn : Tryd.pinned.checked.prog.funcs[f]? = some fn) :
    false = Tryd.pinned.checked.prog.looks [] ∧ ∀ (j : Nat) t, fn.params[j]? = some t → Tryd.pinned.checked.prog.wantsStandIn t = false := by
  obtain rfl : f = 5 := Option.some.inj ((show Tryd.prog.funcNamed "interchange/interchangelaw03.TableDeep" = some 5 by kernel_rfl).symm.trans hf) |>.symm
  obtain rfl : fn = Tryd.f5 := (Option.some.inj (Tryd.func5.symm.trans hfn)).symm
  refine ⟨by kernel_rfl, fun j t ht => ?_⟩
  rw [Tryd.params5] at ht
  have hm := Array.mem_of_getElem? ht
  simp only [List.mem_toArray, List.mem_cons, List.not_mem_nil, or_false] at hm
  rcases hm with rfl | rfl
  · exact (show Tryd.prog.wantsStandIn 9 = false by kernel_rfl)
  · exact (show Tryd.prog.wantsStandIn 3 = false by kernel_rfl)
theorem tableDeep_holds : Rows.TableDeepUptoCardSaid :=
  Claim7.holds_tied_plain_at .later [] _ _ _ _ tableDeep_said (fun _ h => by cases h) (by kernel_rfl) (fun _ h => by cases h) tableDeepUpto_row_tie rfl ⟨rfl, rfl⟩ (by kernel_rfl) rfl tableDeep_plain (by kernel_rfl)
#print axioms tableDeep_holds
end Go.Proofs.YthdkmohelampbaaDoor.F
