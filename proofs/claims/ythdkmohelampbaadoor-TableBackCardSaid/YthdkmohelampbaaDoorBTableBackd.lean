/- Texts of this session for the law TableBack, one behind the other: Ppre, Pshal, Pshown03, interchangelaw03TableParts, PTableParts, interchangelaw03TableCut, PTableCut, Pmake, interchangeref01Take, PrefTake, interchangeref02TakeShort, interchangeref03inside, interchangeref03size, PrefShort. -/
import Derived.Test.YthdkmohelampbaaDoorBTableBacka
import Derived.Test.YthdkmohelampbaaDoorBTableBackb
import Derived.Test.YthdkmohelampbaaDoorBTableBackc
namespace Go.Proofs.YthdkmohelampbaaDoor.F
open Go.RowKit Go.Proofs.YthdkmohelampbaaDoorW.PrintWords Go.Proofs.YthdkmohelampbaaDoorW.PrintLast Go.Proofs.YthdkmohelampbaaDoorW.PrintMore
set_option linter.unusedVariables false
set_option linter.unusedSimpArgs false
theorem items_congr {one one' : ByteArray → Int → Int → Tk} (hl : Less one) (dep : Int) : ∀ (k : Nat) (s : ByteArray) (d : Int), (∀ i d, i.size ≤ s.size → one i dep d = one' i dep d) → itemsR one k s dep d = itemsR one' k s dep d
  | 0, _, _, _ => rfl
  | k + 1, s, d, h => by
    rw [itemsR, itemsR, ← h s d (Nat.le_refl _)]
    by_cases e : s.size = 0
    · rw [if_pos e, if_pos e]
    · rw [if_neg e, if_neg e]
      have hs := hl s dep d
      by_cases e2 : (one s dep d).2.1 = 2
      · rw [if_pos e2]; rfl
      · rw [if_neg e2]
        by_cases e0 : (one s dep d).2.1 = 0
        · rw [if_pos e0, if_pos e0]
          have := hs e0
          exact items_congr hl dep k _ _ fun i d hi => h i d (by omega)
        · rw [if_neg e0, if_neg e0]
theorem within_congr {one one' : ByteArray → Int → Int → Tk} (hl : Less one) (s : ByteArray) (dep d : Int) (h : ∀ i d, i.size < s.size → one i dep d = one' i dep d) : withinR one s dep d = withinR one' s dep d := by
  unfold withinR
  have hs := ltake_less (n := 4) (t := s)
  by_cases e : (ltakeR 4 s).2.2 = 0
  · rw [if_pos e, if_pos e]
    replace hs := hs e (by decide) isW4
    by_cases hd : dep ≤ 32
    · rw [if_pos hd, if_pos hd, items_congr hl dep _ _ _ fun i d hi => h i d (by omega)]
    · rw [if_neg hd, if_neg hd]
  · rw [if_neg e, if_neg e]
theorem field_congr {val val' : ByteArray → Int → Int → Tk} (s : ByteArray) (dep d : Int) (h : ∀ i d, i.size ≤ s.size → val i dep d = val' i dep d) : fieldR val s dep d = fieldR val' s dep d := by
  unfold fieldR
  rw [h _ d (ltake_size 1 s).2]
theorem val_fuel : ∀ (k j : Nat) (s : ByteArray) (dep d : Int), s.size < k → s.size < j → valR k s dep d = valR j s dep d := by
  intro k
  induction k with
  | zero => intro j s dep d h; omega
  | succ k ih =>
    intro j s dep d hk hj
    obtain ⟨j, rfl⟩ : ∃ i, j = i + 1 := ⟨j - 1, by omega⟩
    rw [valR, valR]
    by_cases e : s.size = 0
    · rw [if_pos e, if_pos e]
    · have ht := tail_size e
      rw [if_neg e, if_neg e, within_congr (one' := valR j) (val_less k) _ _ _ fun i d hi => ih j i _ d (by omega) (by omega),
        within_congr (one' := fieldR (valR j)) (field_less (val_less k)) _ _ _ fun i d hi => field_congr i _ d fun i2 d2 hi2 => ih j i2 _ d2 (by omega) (by omega)]
/-- a value, taken with rounds enough -/
def valT (s : ByteArray) (dep d : Int) : Tk := valR (s.size + 1) s dep d
theorem valT_less : Less valT := fun s dep d h => val_less _ s dep d h
theorem valT_eq (s : ByteArray) (dep d : Int) : valT s dep d = if s.size = 0 then (⟨#[]⟩, 2, d) else
      match sizeU (kindOf s) with
      | some n => ((skipR (tailOf s) n).2.1, (skipR (tailOf s) n).2.2, d)
      | none => if kindOf s = 83 ∨ kindOf s = 120 then ((ltakeR 4 (tailOf s)).2.1, (ltakeR 4 (tailOf s)).2.2, d)
        else if kindOf s = 65 then withinR valT (tailOf s) (dep + 1) d
        else if kindOf s = 70 then withinR (fieldR valT) (tailOf s) (dep + 1) d
        else (⟨#[]⟩, 3, d) := by
  unfold valT
  rw [valR]
  by_cases e : s.size = 0
  · rw [if_pos e, if_pos e]
  · have ht := tail_size e
    rw [if_neg e, if_neg e, within_congr (one' := fun s dep d => valR (s.size + 1) s dep d) (val_less _) _ _ _ fun i d hi => val_fuel _ _ i _ d (by omega) (by omega),
      within_congr (one' := fieldR fun s dep d => valR (s.size + 1) s dep d) (field_less (val_less _)) _ _ _ fun i d hi => field_congr i _ d fun i2 d2 hi2 => val_fuel _ _ i2 _ d2 (by omega) (by omega)]
    rfl
/-- a table's taking, with rounds enough -/
theorem tabR_eq (s : ByteArray) : tabR s = withinR (fieldR valT) s 1 0 := by
  unfold tabR
  exact within_congr (field_less (val_less _)) s 1 0 fun i d hi => field_congr i _ d fun i2 d2 hi2 => val_fuel _ _ i2 _ d2 (by omega) (by omega)
/-- within: what stands behind it changes nothing -/
theorem within_pre {one : ByteArray → Int → Int → Tk} {s : ByteArray} {dep d : Int} (h : (withinR one s dep d).2.1 = 0) :
    ∃ a, s = a ++ (withinR one s dep d).1 ∧ ∀ more, withinR one (a ++ more) dep d = (more, 0, (withinR one s dep d).2.2) := by
  unfold withinR at h ⊢
  by_cases e : (ltakeR 4 s).2.2 = 0
  · rw [if_pos e] at h ⊢
    obtain ⟨h1, h2⟩ := take_lay e
    by_cases hd : dep ≤ 32
    · rw [if_pos hd] at h ⊢
      refine ⟨(layR 4 (ltakeR 4 s).1).1, h2.symm, fun more => ?_⟩
      rw [lay_take more h1]
      simp only at h ⊢
      rw [if_pos trivial, if_pos hd, h]
    · rw [if_neg hd] at h
      exact absurd h (show ¬ (5 : Int) = 0 by decide)
  · rw [if_neg e] at h
    exact absurd h e
/-- the kind's byte -/
def headOf (s : ByteArray) : ByteArray := s.extract 0 1
theorem head_tail {s : ByteArray} (h : ¬ s.size = 0) : headOf s ++ tailOf s = s := extract_join s 1 (by omega)
theorem head_size {s : ByteArray} (h : ¬ s.size = 0) : (headOf s).size = 1 := extract_size s 1 (by omega)
theorem head_kind {s : ByteArray} (h : ¬ s.size = 0) (y : ByteArray) : kindOf (headOf s ++ y) = kindOf s := by
  unfold kindOf
  have h1 := head_tail h
  have h2 := head_size h
  generalize headOf s = a at h1 h2
  rw [← h1]
  rw [append_data, append_data]
  cases hl : a.data.toList with
  | nil => rw [← size_list, hl] at h2; simp at h2
  | cons b l => rfl
theorem tail_head {s : ByteArray} (h : ¬ s.size = 0) (y : ByteArray) : tailOf (headOf s ++ y) = y := by
  have h2 := head_size h
  unfold tailOf
  rw [← h2]
  exact extract_app_right _ _
theorem skip_pre {s : ByteArray} {n : Nat} (h : (skipR s n).2.2 = 0) : ∃ a, s = a ++ (skipR s n).2.1 ∧ ∀ more, (skipR (a ++ more) n).2 = (more, 0) := by
  unfold skipR at h ⊢
  by_cases e : (n : Int) ≤ (s.size : Int)
  · rw [if_pos e]
    have ha := extract_size s n (by omega)
    refine ⟨s.extract 0 n, (extract_join s n (by omega)).symm, fun more => ?_⟩
    rw [if_pos (by rw [size_append]; omega)]
    simp only [Int.toNat_natCast]
    have := extract_app_right (s.extract 0 n) more
    rw [ha] at this
    rw [this]
  · rw [if_neg e] at h
    exact absurd h (show ¬ (2 : Int) = 0 by decide)
theorem ltake_pre {s : ByteArray} (h : (ltakeR 4 s).2.2 = 0) : ∃ a, s = a ++ (ltakeR 4 s).2.1 ∧ ∀ more, (ltakeR 4 (a ++ more)).2 = (more, 0) := by
  obtain ⟨h1, h2⟩ := take_lay h
  exact ⟨_, h2.symm, fun more => by rw [lay_take more h1]⟩
/-- A value: what stands behind it changes nothing. -/
theorem val_pre {s : ByteArray} {dep d : Int} (h : (valT s dep d).2.1 = 0) :
    ∃ a, s = a ++ (valT s dep d).1 ∧ ∀ more, valT (a ++ more) dep d = (more, 0, (valT s dep d).2.2) := by
  rw [valT_eq] at h ⊢
  by_cases e : s.size = 0
  · rw [if_pos e] at h; exact absurd h (show ¬ (2 : Int) = 0 by decide)
  rw [if_neg e] at h ⊢
  have hs := head_size e
  have step : ∀ (x : ByteArray) (more : ByteArray), valT ((headOf s ++ x) ++ more) dep d = match sizeU (kindOf s) with
      | some n => ((skipR (x ++ more) n).2.1, (skipR (x ++ more) n).2.2, d)
      | none => if kindOf s = 83 ∨ kindOf s = 120 then ((ltakeR 4 (x ++ more)).2.1, (ltakeR 4 (x ++ more)).2.2, d)
        else if kindOf s = 65 then withinR valT (x ++ more) (dep + 1) d
        else if kindOf s = 70 then withinR (fieldR valT) (x ++ more) (dep + 1) d
        else (⟨#[]⟩, 3, d) := by
    intro x more
    rw [valT_eq, app_assoc, if_neg (by rw [size_append]; omega), head_kind e, tail_head e]
  have hj := head_tail e
  have close : ∀ x r, tailOf s = x ++ r → s = (headOf s ++ x) ++ r := by
    intro x r hx
    rw [app_assoc, ← hx, hj]
  cases hk : sizeU (kindOf s) with
  | some n =>
    rw [hk] at h step
    simp only at h step ⊢
    obtain ⟨a, h1, h2⟩ := skip_pre h
    refine ⟨headOf s ++ a, close _ _ h1, fun more => ?_⟩
    rw [step, h2 more]
  | none =>
    rw [hk] at h step
    simp only at h step ⊢
    by_cases c1 : kindOf s = 83 ∨ kindOf s = 120
    · simp only [if_pos c1] at h step ⊢
      obtain ⟨a, h1, h2⟩ := ltake_pre h
      refine ⟨headOf s ++ a, close _ _ h1, fun more => ?_⟩
      rw [step, h2 more]
    · simp only [if_neg c1] at h step ⊢
      by_cases c2 : kindOf s = 65
      · simp only [if_pos c2] at h step ⊢
        obtain ⟨a, h1, h2⟩ := within_pre h
        exact ⟨headOf s ++ a, close _ _ h1, fun more => by rw [step, h2 more]⟩
      · simp only [if_neg c2] at h step ⊢
        by_cases c3 : kindOf s = 70
        · simp only [if_pos c3] at h step ⊢
          obtain ⟨a, h1, h2⟩ := within_pre h
          exact ⟨headOf s ++ a, close _ _ h1, fun more => by rw [step, h2 more]⟩
        · simp only [if_neg c3] at h
          exact absurd h (show ¬ (3 : Int) = 0 by decide)
end Go.Proofs.YthdkmohelampbaaDoor.F
namespace Go.Proofs.YthdkmohelampbaaDoor.F
open Go.RowKit Go.Proofs.YthdkmohelampbaaDoorW.PrintWords Go.Proofs.YthdkmohelampbaaDoorW.PrintLast Go.Proofs.YthdkmohelampbaaDoorW.PrintMore
set_option linter.unusedVariables false
set_option linter.unusedSimpArgs false
theorem items_shal {one : ByteArray → Int → Int → Tk} (hl : Less one) {dep dep' : Int} : ∀ (k : Nat) (s : ByteArray) (d d' : Int), (∀ i d d', i.size ≤ s.size → (one i dep d).2.1 = 0 → (one i dep' d').2.1 = 0 ∧ (one i dep' d').1 = (one i dep d).1) →
    (itemsR one k s dep d).1 = 0 → (itemsR one k s dep' d').1 = 0
  | 0, _, _, _, _, _ => rfl
  | k + 1, s, d, d', h, h0 => by
    rw [itemsR] at h0 ⊢
    by_cases e : s.size = 0
    · rw [if_pos e]
    · rw [if_neg e] at h0 ⊢
      by_cases e1 : (one s dep d).2.1 = 0
      · obtain ⟨a1, a2⟩ := h s d d' (Nat.le_refl _) e1
        have := hl _ _ _ e1
        rw [e1, if_pos (show (if (0 : Int) = 2 then (3 : Int) else 0) = 0 by decide)] at h0
        rw [a1, if_pos (show (if (0 : Int) = 2 then (3 : Int) else 0) = 0 by decide), a2]
        exact items_shal hl k _ _ _ (fun i d d' hi => h i d d' (by omega)) h0
      · exfalso
        by_cases e2 : (one s dep d).2.1 = 2
        · rw [if_pos e2] at h0
          exact absurd h0 (show ¬ (3 : Int) = 0 by decide)
        · rw [if_neg e2, if_neg e1] at h0
          exact e1 h0
theorem within_shal {one : ByteArray → Int → Int → Tk} (hl : Less one) {dep dep' : Int} (hd : dep' ≤ dep) {s : ByteArray} {d d' : Int} (h : ∀ i d d', i.size < s.size → (one i dep d).2.1 = 0 → (one i dep' d').2.1 = 0 ∧ (one i dep' d').1 = (one i dep d).1)
    (h0 : (withinR one s dep d).2.1 = 0) : (withinR one s dep' d').2.1 = 0 ∧ (withinR one s dep' d').1 = (withinR one s dep d).1 := by
  unfold withinR at h0 ⊢
  by_cases e : (ltakeR 4 s).2.2 = 0
  · have hs := ltake_less e (by decide) isW4
    rw [if_pos e] at h0 ⊢
    rw [if_pos e]
    by_cases c : dep ≤ 32
    · rw [if_pos c] at h0 ⊢
      rw [if_pos (by omega)]
      exact ⟨items_shal hl _ _ _ _ (fun i d d' hi => h i d d' (by omega)) h0, rfl⟩
    · rw [if_neg c] at h0
      exact absurd h0 (show ¬ (5 : Int) = 0 by decide)
  · rw [if_neg e] at h0
    exact absurd h0 e
theorem field_shal {val : ByteArray → Int → Int → Tk} {dep dep' : Int} {s : ByteArray} {d d' : Int} (h : ∀ i d d', i.size ≤ s.size → (val i dep d).2.1 = 0 → (val i dep' d').2.1 = 0 ∧ (val i dep' d').1 = (val i dep d).1)
    (h0 : (fieldR val s dep d).2.1 = 0) : (fieldR val s dep' d').2.1 = 0 ∧ (fieldR val s dep' d').1 = (fieldR val s dep d).1 := by
  unfold fieldR at h0 ⊢
  by_cases e : (ltakeR 1 s).2.2 = 0
  · rw [if_pos e] at h0 ⊢
    rw [if_pos e]
    exact h _ d d' (ltake_size 1 s).2 h0
  · rw [if_neg e] at h0
    exact absurd h0 e
theorem val_shal : ∀ (n : Nat) (s : ByteArray) (dep dep' d d' : Int), s.size < n → dep' ≤ dep → (valT s dep d).2.1 = 0 → (valT s dep' d').2.1 = 0 ∧ (valT s dep' d').1 = (valT s dep d).1 := by
  intro n
  induction n with
  | zero => intro s dep dep' d d' h; omega
  | succ n ih =>
    intro s dep dep' d d' hn hd h
    rw [valT_eq] at h ⊢
    rw [valT_eq]
    by_cases e : s.size = 0
    · rw [if_pos e] at h; exact absurd h (show ¬ (2 : Int) = 0 by decide)
    have ht := tail_size e
    rw [if_neg e] at h ⊢
    rw [if_neg e]
    cases hk : sizeU (kindOf s) with
    | some m =>
      rw [hk] at h
      exact ⟨h, rfl⟩
    | none =>
      rw [hk] at h
      simp only at h ⊢
      by_cases c1 : kindOf s = 83 ∨ kindOf s = 120
      · simp only [if_pos c1] at h ⊢
        exact ⟨h, trivial⟩
      · simp only [if_neg c1] at h ⊢
        by_cases c2 : kindOf s = 65
        · simp only [if_pos c2] at h ⊢
          exact within_shal valT_less (by omega) (fun i d d' hi => ih i _ _ d d' (by omega) (by omega)) h
        · simp only [if_neg c2] at h ⊢
          by_cases c3 : kindOf s = 70
          · simp only [if_pos c3] at h ⊢
            exact within_shal (field_less valT_less) (by omega) (fun i d d' hi => field_shal fun i2 d2 d3 hi2 => ih i2 _ _ d2 d3 (by omega) (by omega)) h
          · simp only [if_neg c3] at h
            exact absurd h (show ¬ (3 : Int) = 0 by decide)
/-- a value, and nothing else -/
def IsVal (v : ByteArray) : Prop := ∃ d, tvalR v = (⟨#[]⟩, 0, d)
theorem tval_eq (s : ByteArray) : tvalR s = valT s 0 0 := rfl
/-- a field that is taken -/
theorem fld_one {x : ByteArray} {d : Int} (h : (fieldR valT x 1 d).2.1 = 0) : (ltakeR 1 x).2.2 = 0 ∧ IsVal (valAt x) ∧ leftAt x = (fieldR valT x 1 d).1 := by
  unfold fieldR at h ⊢
  by_cases e : (ltakeR 1 x).2.2 = 0
  · rw [if_pos e] at h ⊢
    refine ⟨e, ?_⟩
    unfold valAt leftAt taken1
    generalize (ltakeR 1 x).2.1 = r at h ⊢
    obtain ⟨h1, h2⟩ := val_shal (r.size + 1) r 1 0 d 0 (by omega) (by decide) h
    obtain ⟨a, ha, hm⟩ := val_pre h1
    have hp := hm ⟨#[]⟩
    rw [app_empty] at hp
    have ht : takenR r (tvalR r) = (a, (valT r 0 0).1, 0) := by
      unfold takenR
      rw [tval_eq, if_pos h1]
      have hs : r.size - (valT r 0 0).1.size = a.size := by
        have := congrArg ByteArray.size ha
        rw [size_append] at this
        omega
      rw [hs]
      have := extract_app_left a (valT r 0 0).1
      rw [← ha] at this
      rw [this]
    rw [ht]
    exact ⟨⟨_, hp⟩, h2⟩
  · rw [if_neg e] at h
    exact absurd h e
theorem fld_ok : ∀ (k : Nat) (x : ByteArray) (d : Int), x.size ≤ k → (itemsR (fieldR valT) k x 1 d).1 = 0 → ∀ p ∈ fldR x, IsVal p.2 := by
  intro k
  induction k with
  | zero =>
    intro x d hx _ p hp
    rw [fldR_eq, if_pos (by omega)] at hp
    exact absurd hp (List.not_mem_nil)
  | succ k ih =>
    intro x d hx h p hp
    rw [fldR_eq] at hp
    by_cases e : x.size = 0
    · rw [if_pos e] at hp; exact absurd hp (List.not_mem_nil)
    · rw [if_neg e] at hp
      rw [itemsR, if_neg e] at h
      by_cases e1 : (fieldR valT x 1 d).2.1 = 0
      · obtain ⟨_, h2, h3⟩ := fld_one e1
        have hl := left_less e
        rw [e1, if_pos (show (if (0 : Int) = 2 then (3 : Int) else 0) = 0 by decide), ← h3] at h
        rcases List.mem_cons.1 hp with rfl | hp
        · exact h2
        · exact ih _ _ (by omega) h p hp
      · exfalso
        by_cases e2 : (fieldR valT x 1 d).2.1 = 2
        · rw [if_pos e2] at h
          exact absurd h (show ¬ (3 : Int) = 0 by decide)
        · rw [if_neg e2, if_neg e1] at h
          exact e1 h
/-- a table, and nothing else: what stands within it -/
theorem whole_in {s : ByteArray} (h : wholeR s = 0) : inR s = (ltakeR 4 s).1 ∧ (ltakeR 4 s).2.2 = 0 ∧ (itemsR (fieldR valT) (inR s).size (inR s) 1 1).1 = 0 := by
  unfold wholeR at h
  by_cases e : (tabR s).2.1 = 0
  · rw [if_pos e] at h
    by_cases e0 : (tabR s).1.size = 0
    · rw [tabR_eq] at e e0
      unfold withinR at e e0
      by_cases el : (ltakeR 4 s).2.2 = 0
      · rw [if_pos el, if_pos (show (1 : Int) ≤ 32 by decide), if_pos (show (0 : Int) < 1 by decide)] at e e0
        simp only at e e0
        have hx : inR s = (ltakeR 4 s).1 := by
          unfold inR
          unfold ltakeR at el e0 ⊢
          by_cases et : (takeR s 4).2.2 = 0
          · rw [if_pos et] at el e0 ⊢
            by_cases en : (takeR s 4).1 ≤ ((takeR s 4).2.1.size : Int)
            · rw [if_pos en] at el e0 ⊢
              simp only at e0 ⊢
              rw [extract_size'] at e0
              have hb := (take_bound s 4).1
              have : (takeR s 4).1.toNat = (takeR s 4).2.1.size := by omega
              rw [this, extract_take, List.take_of_length_le (by rw [size_list]; omega), ← toBA_of]
            · rw [if_neg en] at el
              exact absurd el (show ¬ (2 : Int) = 0 by decide)
          · rw [if_neg et] at el
            exact absurd el et
        exact ⟨hx, el, by rw [hx]; exact e⟩
      · rw [if_neg el] at e
        exact absurd e el
    · rw [if_neg e0] at h
      exact absurd h (show ¬ (3 : Int) = 0 by decide)
  · rw [if_neg e] at h
    exact absurd h e
end Go.Proofs.YthdkmohelampbaaDoor.F
namespace Go.Proofs.YthdkmohelampbaaDoor.F
open Go.RowKit Go.Proofs.YthdkmohelampbaaDoorW.PrintWords Go.Proofs.YthdkmohelampbaaDoorW.PrintLast Go.Proofs.YthdkmohelampbaaDoorW.PrintMore
set_option linter.unusedVariables false
set_option linter.unusedSimpArgs false
theorem shown_t : interchangelaw03_shown.f = some true := by
  unfold interchangelaw03_shown.f
  decide +kernel
end Go.Proofs.YthdkmohelampbaaDoor.F
namespace Go.Proofs.YthdkmohelampbaaDoor.F
open Go.RowKit Go.Proofs.YthdkmohelampbaaDoorW.PrintWords Go.Proofs.YthdkmohelampbaaDoorW.PrintLast Go.Proofs.YthdkmohelampbaaDoorW.PrintMore
attribute [local go_sem] max2_int min2_int max_two min_two max_three min_three max_four min_four
set_option linter.unusedVariables false
set_option linter.unusedSimpArgs false

/-! ### interchangelaw03_TableParts: function 6 -/
def interchangelaw03_TableParts.j0 : Nat → ByteArray → ByteArray → Bool → Option (Bool)
  | 0, _, _, _ => none
  | k + 1, x0, x1, x5 => (table_Find.f x0 x1).bind fun bt199 => (if bt199.2 = true then ((table_Value.f bt199.1).bind fun bt201 => (if x5 = true then (if bt201.2.2 = 0 then (if bt201.1.toList = bt199.1.toList then (some (bt201.2.1.toList == ([] : List UInt8))) else (some false)) else (some false)) else (some false))) else (if x5 = true then (some (bt199.1.toList == ([] : List UInt8))) else (some false)))
def interchangelaw03_TableParts.f (k : Nat) (a0 : ByteArray) (a1 : ByteArray) : Option (Bool) := (interchangelaw03_shown.f).bind fun t192 => ((table_Value.f a0).bind fun bt193 => (if bt193.2.2 = 0 then ((table_Value.f bt193.1).bind fun bt196 => (if bt196.2.2 = 0 then (if bt196.1.toList = bt193.1.toList then (if bt196.2.1.toList = ([] : List UInt8) then (interchangelaw03_TableParts.j0 k a0 a1 t192) else (some false)) else (some false)) else (some false))) else (interchangelaw03_TableParts.j0 k a0 a1 t192)))
theorem interchangelaw03_TableParts.mono_l : ∀ k, (∀ y0 y1 y2, LeO (interchangelaw03_TableParts.j0 k y0 y1 y2) (interchangelaw03_TableParts.j0 (k + 1) y0 y1 y2))
  | 0 => fun _ _ _ r h => by simp [interchangelaw03_TableParts.j0] at h
  | k + 1 => by
    have ih0 := interchangelaw03_TableParts.mono_l k
    · intro y0 y1 y2
      unfold interchangelaw03_TableParts.j0
      repeat' first
      | (with_reducible exact ih0 _ _ _)
      | (with_reducible exact LeO.refl _)
      | (with_reducible exact LeO.none _)
      | (with_reducible refine LeO.ite ?_ ?_)
      | (with_reducible refine LeO.bind ?_ (fun _ => ?_))
      | exact ih0 _ _ _
      | exact LeO.none _
      | refine LeO.ite ?_ ?_
      | refine LeO.bind ?_ (fun _ => ?_)
theorem interchangelaw03_TableParts.mono : ∀ a0 a1 k, LeO (interchangelaw03_TableParts.f k a0 a1) (interchangelaw03_TableParts.f (k + 1) a0 a1) := by
  intro a0 a1 k
  have ih0 := interchangelaw03_TableParts.mono_l k
  unfold interchangelaw03_TableParts.f
  repeat' first
      | (with_reducible exact ih0 _ _ _)
      | (with_reducible exact LeO.refl _)
      | (with_reducible exact LeO.none _)
      | (with_reducible refine LeO.ite ?_ ?_)
      | (with_reducible refine LeO.bind ?_ (fun _ => ?_))
      | exact ih0 _ _ _
      | exact LeO.none _
      | refine LeO.ite ?_ ?_
      | refine LeO.bind ?_ (fun _ => ?_)
set_option maxHeartbeats 8000000 in
set_option maxRecDepth 100000 in
theorem interchangelaw03_TableParts.calls (k : Nat) (a0 : ByteArray) (a1 : ByteArray) (w : World) (hg : Laid w) (h : interchangelaw03_TableParts.f k a0 a1 = some true) :
    Calls Tryd.prog 6 #[.string a0, .string a1] w fun e w' => e = .returned (.bool true) ∧ Below w.heap.size w w' := by
  have HG := Aside0.mk hg
  clear hg
  have HB := Aside0.mk (Below.refl w.heap.size w)
  have H : ((interchangelaw03_shown.f).bind fun t192 => ((table_Value.f a0).bind fun bt193 => (if bt193.2.2 = 0 then ((table_Value.f bt193.1).bind fun bt196 => (if bt196.2.2 = 0 then (if bt196.1.toList = bt193.1.toList then (if bt196.2.1.toList = ([] : List UInt8) then (interchangelaw03_TableParts.j0 k a0 a1 t192) else (some false)) else (some false)) else (some false))) else (interchangelaw03_TableParts.j0 k a0 a1 t192)))) = some true := h
  clear h
  replace H := Option.bind_eq_some_iff.mp H
  obtain ⟨t192, A30, H⟩ := H
  replace H : ((table_Value.f a0).bind fun bt193 => (if bt193.2.2 = 0 then ((table_Value.f bt193.1).bind fun bt196 => (if bt196.2.2 = 0 then (if bt196.1.toList = bt193.1.toList then (if bt196.2.1.toList = ([] : List UInt8) then (interchangelaw03_TableParts.j0 k a0 a1 t192) else (some false)) else (some false)) else (some false))) else (interchangelaw03_TableParts.j0 k a0 a1 t192))) = some true := H
  have A3 := Aside0.mk A30
  clear A30
  replace H := Option.bind_eq_some_iff.mp H
  obtain ⟨⟨t193, t194, t195⟩, A40, H⟩ := H
  replace H : (if t195 = 0 then ((table_Value.f t193).bind fun bt196 => (if bt196.2.2 = 0 then (if bt196.1.toList = t193.toList then (if bt196.2.1.toList = ([] : List UInt8) then (interchangelaw03_TableParts.j0 k a0 a1 t192) else (some false)) else (some false)) else (some false))) else (interchangelaw03_TableParts.j0 k a0 a1 t192)) = some true := H
  have A4 := Aside0.mk A40
  clear A40
  have HC5 := Aside0.mk H
  clear H
  go_enter Tryd.func6, Tryd.ntmps6
  go_upto_if 25 with (first | ((with_reducible refine gate_callee (f := 10) rfl ?_); refine goesL_ (some 17) rfl rfl Tryd.func10 (by kernel_rfl) rfl #[] rfl (by (try simp only [List.map_toArray, List.map_cons, List.map_nil]); first | done | rfl | (simp only [List.length_drop, List.length_take]; rfl)) ?_; (with_reducible refine (interchangelaw03_shown.calls t192 _ ?lg A3.out).mono ?_); (case lg => exact (HG.out.below (by repeat (first | (with_reducible first | exact HB.out | apply below_alloc | apply pw_below_drewN | apply below_drew1) | exact HB.out)))); rintro e w6 ⟨rfl, hb⟩; refine ⟨_, rfl, ?_⟩; have n0_ := Aside0.mk (below_step (by repeat (first | (with_reducible first | exact HB.out | apply below_alloc | apply pw_below_drewN | apply below_drew1) | exact HB.out)) hb); clear HB; have HB := n0_; clear n0_; (try clear hb); (try clear hb2); (try clear hk); (try clear hi)) | ((with_reducible refine gate_callee (f := 15) rfl ?_); refine goesL_ (some 20) rfl rfl Tryd.func15 (by kernel_rfl) rfl #[.string a0] rfl (by (try simp only [List.map_toArray, List.map_cons, List.map_nil]); first | done | rfl | (simp only [List.length_drop, List.length_take]; rfl)) ?_; (with_reducible refine (table_Value.calls a0 t193 t194 t195 _ ?lg A4.out).mono ?_); (case lg => exact (HG.out.below (by repeat (first | (with_reducible first | exact HB.out | apply below_alloc | apply pw_below_drewN | apply below_drew1) | exact HB.out)))); rintro e w7 ⟨rfl, hb⟩; refine ⟨_, rfl, ?_⟩; have n0_ := Aside0.mk (below_step (by repeat (first | (with_reducible first | exact HB.out | apply below_alloc | apply pw_below_drewN | apply below_drew1) | exact HB.out)) hb); clear HB; have HB := n0_; clear n0_; (try clear hb); (try clear hb2); (try clear hk); (try clear hi)))
  (try simp only [Act.put, List.setIfInBounds_toArray, List.set_cons_zero, List.set_cons_succ])
  go_cut [] (fun wc => ∃ (kq : Nat), Aside0 (interchangelaw03_TableParts.j0 kq a0 a1 t192 = some true) ∧ Aside0 (kq ≤ k) ∧ Aside0 (Below w.heap.size w wc))
  case first =>
    have H := HC5.out
    clear HC5
    by_cases c8 : t195 = 0
    · rw [if_pos c8] at H
      have c8b0 : (t195 == 0) = true := beq_iff_eq.mpr c8
      have c8b1 : (t195 != 0) = false := bne_eq_false_iff_eq.mpr c8
      clear c8
      (first | rw [c8b0] | (simp only [i64_w, i32_w]; rw [c8b0]) | skip)
      replace H := Option.bind_eq_some_iff.mp H
      obtain ⟨⟨t196, t197, t198⟩, A90, H⟩ := H
      replace H : (if t198 = 0 then (if t196.toList = t193.toList then (if t197.toList = ([] : List UInt8) then (interchangelaw03_TableParts.j0 k a0 a1 t192) else (some false)) else (some false)) else (some false)) = some true := H
      have A9 := Aside0.mk A90
      clear A90
      by_cases c10 : t198 = 0
      · rw [if_pos c10] at H
        have c10b0 : (t198 == 0) = true := beq_iff_eq.mpr c10
        have c10b1 : (t198 != 0) = false := bne_eq_false_iff_eq.mpr c10
        clear c10
        by_cases c11 : t196.toList = t193.toList
        · rw [if_pos c11] at H
          have c11b0 : (t196.toList == t193.toList) = true := beq_iff_eq.mpr c11
          have c11b1 : (t196.toList != t193.toList) = false := bne_eq_false_iff_eq.mpr c11
          clear c11
          by_cases c12 : t197.toList = ([] : List UInt8)
          · rw [if_pos c12] at H
            have c12b0 : (t197.toList == ([] : List UInt8)) = true := beq_iff_eq.mpr c12
            have c12b1 : (t197.toList != ([] : List UInt8)) = false := bne_eq_false_iff_eq.mpr c12
            clear c12
            have H' := Aside0.mk H
            clear H
            go_wp2_with (first | ((with_reducible refine gate_callee (f := 15) rfl ?_); refine goesL_ (some 28) rfl rfl Tryd.func15 (by kernel_rfl) rfl #[.string t193] rfl (by (try simp only [List.map_toArray, List.map_cons, List.map_nil]); first | done | rfl | (simp only [List.length_drop, List.length_take]; rfl)) ?_; (with_reducible refine (table_Value.calls t193 t196 t197 t198 _ ?lg A9.out).mono ?_); (case lg => exact (HG.out.below (by repeat (first | (with_reducible first | exact HB.out | apply below_alloc | apply pw_below_drewN | apply below_drew1) | exact HB.out)))); rintro e w13 ⟨rfl, hb⟩; refine ⟨_, rfl, ?_⟩; have n0_ := Aside0.mk (below_step (by repeat (first | (with_reducible first | exact HB.out | apply below_alloc | apply pw_below_drewN | apply below_drew1) | exact HB.out)) hb); clear HB; have HB := n0_; clear n0_; (try clear hb); (try clear hb2); (try clear hk); (try clear hi)))
            go_meet
            case rel => exact ⟨_, H', ⟨by first | omega | exact Nat.le_refl _⟩, ⟨by repeat (first | (with_reducible first | exact HB.out | apply below_alloc | apply pw_below_drewN | apply below_drew1) | exact HB.out)⟩⟩
          · rw [if_neg c12] at H
            have c12b0 : (t197.toList == ([] : List UInt8)) = false := beq_eq_false_iff_ne.mpr c12
            have c12b1 : (t197.toList != ([] : List UInt8)) = true := bne_iff_ne.mpr c12
            exact absurd H (by decide)
        · rw [if_neg c11] at H
          have c11b0 : (t196.toList == t193.toList) = false := beq_eq_false_iff_ne.mpr c11
          have c11b1 : (t196.toList != t193.toList) = true := bne_iff_ne.mpr c11
          exact absurd H (by decide)
      · rw [if_neg c10] at H
        have c10b0 : (t198 == 0) = false := beq_eq_false_iff_ne.mpr c10
        have c10b1 : (t198 != 0) = true := bne_iff_ne.mpr c10
        exact absurd H (by decide)
    · rw [if_neg c8] at H
      have c8b0 : (t195 == 0) = false := beq_eq_false_iff_ne.mpr c8
      have c8b1 : (t195 != 0) = true := bne_iff_ne.mpr c8
      (first | rw [c8b0] | (simp only [i64_w, i32_w]; rw [c8b0]) | skip)
      have H' := Aside0.mk H
      clear H
      go_wp2
      go_meet
      case rel => exact ⟨_, H', ⟨by first | omega | exact Nat.le_refl _⟩, ⟨by repeat (first | (with_reducible first | exact HB.out | apply below_alloc | apply pw_below_drewN | apply below_drew1) | exact HB.out)⟩⟩
  case rest =>
    clear HC5
    try clear c1
    try clear p2
    try clear c6
    try clear c8
    try clear c8b0
    try clear c8b1
    try clear c10
    try clear c10b0
    try clear c10b1
    try clear c11
    try clear c11b0
    try clear c11b1
    try clear c12
    try clear c12b0
    try clear c12b1
    try clear c15
    obtain ⟨kq, HA, HJ4, HB⟩ := hcut
    cases kq with
    | zero => exact absurd HA.out (by simp [interchangelaw03_TableParts.j0])
    | succ kj4 =>
      have H := HA.out
      clear HA
      simp only [interchangelaw03_TableParts.j0] at H
      replace H := Option.bind_eq_some_iff.mp H
      obtain ⟨⟨t199, t200⟩, A170, H⟩ := H
      replace H : (if t200 = true then ((table_Value.f t199).bind fun bt201 => (if t192 = true then (if bt201.2.2 = 0 then (if bt201.1.toList = t199.toList then (some (bt201.2.1.toList == ([] : List UInt8))) else (some false)) else (some false)) else (some false))) else (if t192 = true then (some (t199.toList == ([] : List UInt8))) else (some false))) = some true := H
      have A17 := Aside0.mk A170
      clear A170
      by_cases c18 : t200 = true
      · subst c18
        have H1 : ((table_Value.f t199).bind fun bt201 => (if t192 = true then (if bt201.2.2 = 0 then (if bt201.1.toList = t199.toList then (some (bt201.2.1.toList == ([] : List UInt8))) else (some false)) else (some false)) else (some false))) = some true := by rw [if_pos rfl] at H; first | done | exact H
        clear H
        have H := H1
        clear H1
        replace H := Option.bind_eq_some_iff.mp H
        obtain ⟨⟨t201, t202, t203⟩, A190, H⟩ := H
        replace H : (if t192 = true then (if t203 = 0 then (if t201.toList = t199.toList then (some (t202.toList == ([] : List UInt8))) else (some false)) else (some false)) else (some false)) = some true := H
        have A19 := Aside0.mk A190
        clear A190
        by_cases c20 : t192 = true
        · subst c20
          have H1 : (if t203 = 0 then (if t201.toList = t199.toList then (some (t202.toList == ([] : List UInt8))) else (some false)) else (some false)) = some true := by rw [if_pos rfl] at H; first | done | exact H
          clear H
          have H := H1
          clear H1
          by_cases c21 : t203 = 0
          · rw [if_pos c21] at H
            have c21b0 : (t203 == 0) = true := beq_iff_eq.mpr c21
            have c21b1 : (t203 != 0) = false := bne_eq_false_iff_eq.mpr c21
            clear c21
            by_cases c22 : t201.toList = t199.toList
            · rw [if_pos c22] at H
              have c22b0 : (t201.toList == t199.toList) = true := beq_iff_eq.mpr c22
              have c22b1 : (t201.toList != t199.toList) = false := bne_eq_false_iff_eq.mpr c22
              clear c22
              have HR_ := Aside0.mk (Option.some.inj H)
              clear H
              go_wp2_with (first | ((with_reducible refine gate_callee (f := 16) rfl ?_); refine goesL_ (some 46) rfl rfl Tryd.func16 (by kernel_rfl) rfl #[.string a0, .string a1] rfl (by (try simp only [List.map_toArray, List.map_cons, List.map_nil]); first | done | rfl | (simp only [List.length_drop, List.length_take]; rfl)) ?_; (with_reducible refine (table_Find.calls a0 a1 t199 true _ ?lg A17.out).mono ?_); (case lg => exact (HG.out.below (by repeat (first | (with_reducible first | exact HB.out | apply below_alloc | apply pw_below_drewN | apply below_drew1) | exact HB.out)))); rintro e w23 ⟨rfl, hb⟩; refine ⟨_, rfl, ?_⟩; have n0_ := Aside0.mk (below_step (by repeat (first | (with_reducible first | exact HB.out | apply below_alloc | apply pw_below_drewN | apply below_drew1) | exact HB.out)) hb); clear HB; have HB := n0_; clear n0_; (try clear hb); (try clear hb2); (try clear hk); (try clear hi)) | ((with_reducible refine gate_callee (f := 15) rfl ?_); refine goesL_ (some 58) rfl rfl Tryd.func15 (by kernel_rfl) rfl #[.string t199] rfl (by (try simp only [List.map_toArray, List.map_cons, List.map_nil]); first | done | rfl | (simp only [List.length_drop, List.length_take]; rfl)) ?_; (with_reducible refine (table_Value.calls t199 t201 t202 t203 _ ?lg A19.out).mono ?_); (case lg => exact (HG.out.below (by repeat (first | (with_reducible first | exact HB.out | apply below_alloc | apply pw_below_drewN | apply below_drew1) | exact HB.out)))); rintro e w24 ⟨rfl, hb⟩; refine ⟨_, rfl, ?_⟩; have n0_ := Aside0.mk (below_step (by repeat (first | (with_reducible first | exact HB.out | apply below_alloc | apply pw_below_drewN | apply below_drew1) | exact HB.out)) hb); clear HB; have HB := n0_; clear n0_; (try clear hb); (try clear hb2); (try clear hk); (try clear hi)))
              go_ret
              exact ⟨by have HR0_ := HR_.out; first | exact congrArg (fun b_ => Ending.returned (Value.bool b_)) HR0_ | (simpa using HR0_) | rfl | (simp [errW_none, errW_some] <;> rfl) | (simp [*, errW_none, errW_some] <;> rfl), by repeat (first | (with_reducible first | exact HB.out | apply below_alloc | apply pw_below_drewN | apply below_drew1) | exact HB.out)⟩
            · rw [if_neg c22] at H
              have c22b0 : (t201.toList == t199.toList) = false := beq_eq_false_iff_ne.mpr c22
              have c22b1 : (t201.toList != t199.toList) = true := bne_iff_ne.mpr c22
              exact absurd H (by decide)
          · rw [if_neg c21] at H
            have c21b0 : (t203 == 0) = false := beq_eq_false_iff_ne.mpr c21
            have c21b1 : (t203 != 0) = true := bne_iff_ne.mpr c21
            exact absurd H (by decide)
        · replace c20 := Bool.eq_false_iff.mpr c20
          subst c20
          have H1 : (some false) = some true := by rw [if_neg (show ¬ (false = true) by decide)] at H; first | done | exact H
          clear H
          have H := H1
          clear H1
          exact absurd H (by decide)
      · replace c18 := Bool.eq_false_iff.mpr c18
        subst c18
        have H1 : (if t192 = true then (some (t199.toList == ([] : List UInt8))) else (some false)) = some true := by rw [if_neg (show ¬ (false = true) by decide)] at H; first | done | exact H
        clear H
        have H := H1
        clear H1
        by_cases c31 : t192 = true
        · subst c31
          have H1 : (some (t199.toList == ([] : List UInt8))) = some true := by rw [if_pos rfl] at H; first | done | exact H
          clear H
          have H := H1
          clear H1
          have HR_ := Aside0.mk (Option.some.inj H)
          clear H
          go_wp2_with (first | ((with_reducible refine gate_callee (f := 16) rfl ?_); refine goesL_ (some 46) rfl rfl Tryd.func16 (by kernel_rfl) rfl #[.string a0, .string a1] rfl (by (try simp only [List.map_toArray, List.map_cons, List.map_nil]); first | done | rfl | (simp only [List.length_drop, List.length_take]; rfl)) ?_; (with_reducible refine (table_Find.calls a0 a1 t199 false _ ?lg A17.out).mono ?_); (case lg => exact (HG.out.below (by repeat (first | (with_reducible first | exact HB.out | apply below_alloc | apply pw_below_drewN | apply below_drew1) | exact HB.out)))); rintro e w32 ⟨rfl, hb⟩; refine ⟨_, rfl, ?_⟩; have n0_ := Aside0.mk (below_step (by repeat (first | (with_reducible first | exact HB.out | apply below_alloc | apply pw_below_drewN | apply below_drew1) | exact HB.out)) hb); clear HB; have HB := n0_; clear n0_; (try clear hb); (try clear hb2); (try clear hk); (try clear hi)))
          go_ret
          exact ⟨by have HR0_ := HR_.out; first | exact congrArg (fun b_ => Ending.returned (Value.bool b_)) HR0_ | (simpa using HR0_) | rfl | (simp [errW_none, errW_some] <;> rfl) | (simp [*, errW_none, errW_some] <;> rfl), by repeat (first | (with_reducible first | exact HB.out | apply below_alloc | apply pw_below_drewN | apply below_drew1) | exact HB.out)⟩
        · replace c31 := Bool.eq_false_iff.mpr c31
          subst c31
          have H1 : (some false) = some true := by rw [if_neg (show ¬ (false = true) by decide)] at H; first | done | exact H
          clear H
          have H := H1
          clear H1
          exact absurd H (by decide)


end Go.Proofs.YthdkmohelampbaaDoor.F
namespace Go.Proofs.YthdkmohelampbaaDoor.F
open Go.RowKit Go.Proofs.YthdkmohelampbaaDoorW.PrintWords Go.Proofs.YthdkmohelampbaaDoorW.PrintLast Go.Proofs.YthdkmohelampbaaDoorW.PrintMore
set_option linter.unusedVariables false
set_option linter.unusedSimpArgs false
theorem val_whole {v : ByteArray} (h : IsVal v) : takenR v (tvalR v) = (v, ⟨#[]⟩, 0) := by
  obtain ⟨d, h⟩ := h
  rw [h]
  unfold takenR
  rw [if_pos rfl]
  have : v.size - (⟨#[]⟩ : ByteArray).size = v.size := rfl
  simp only
  rw [this, extract_take, List.take_of_length_le (by rw [size_list]; omega), ← toBA_of]
theorem val_cut {s : ByteArray} (h : (tvalR s).2.1 = 0) : ∃ a r, takenR s (tvalR s) = (a, r, 0) ∧ IsVal a ∧ a.size ≤ s.size := by
  rw [tval_eq] at h ⊢
  obtain ⟨a, ha, hm⟩ := val_pre h
  have hp := hm ⟨#[]⟩
  rw [app_empty] at hp
  have hs := congrArg ByteArray.size ha
  rw [size_append] at hs
  refine ⟨a, (valT s 0 0).1, ?_, ⟨_, hp⟩, by omega⟩
  unfold takenR
  rw [if_pos h]
  have hs : s.size - (valT s 0 0).1.size = a.size := by omega
  rw [hs]
  have := extract_app_left a (valT s 0 0).1
  rw [← ha] at this
  rw [this]
theorem val_at_size (x : ByteArray) : (valAt x).size ≤ x.size := by
  unfold valAt taken1 takenR
  have := (ltake_size 1 x).2
  split
  · rw [extract_take, toBA_size, List.length_take, size_list]; omega
  · exact Nat.zero_le _
theorem fld_size : ∀ (k : Nat) (x : ByteArray), x.size ≤ k → ∀ p ∈ fldR x, p.2.size ≤ x.size := by
  intro k
  induction k with
  | zero =>
    intro x hx p hp
    rw [fldR_eq, if_pos (by omega)] at hp
    exact absurd hp (List.not_mem_nil)
  | succ k ih =>
    intro x hx p hp
    rw [fldR_eq] at hp
    by_cases e : x.size = 0
    · rw [if_pos e] at hp; exact absurd hp (List.not_mem_nil)
    · rw [if_neg e] at hp
      have hl := left_less e
      rcases List.mem_cons.1 hp with rfl | hp
      · exact val_at_size x
      · have := ih _ (by omega) p hp; omega
theorem findF_mem (key : ByteArray) : ∀ l : Fds, ((findF key l).2 = true → ∃ p ∈ l, p.2 = (findF key l).1) ∧ ((findF key l).2 = false → (findF key l).1 = ⟨#[]⟩)
  | [] => ⟨fun h => Bool.noConfusion h, fun _ => rfl⟩
  | p :: l => by
    rw [findF]
    by_cases e : p.1.toList = key.toList
    · rw [if_pos e]
      exact ⟨fun _ => ⟨p, List.mem_cons_self .., rfl⟩, fun h => Bool.noConfusion h⟩
    · rw [if_neg e]
      obtain ⟨h1, h2⟩ := findF_mem key l
      exact ⟨fun h => by obtain ⟨q, hq, hv⟩ := h1 h; exact ⟨q, List.mem_cons_of_mem _ hq, hv⟩, h2⟩
theorem find_val (s key : ByteArray) : ((findR s key).2 = true → IsVal (findR s key).1 ∧ (findR s key).1.size ≤ s.size) ∧ ((findR s key).2 = false → (findR s key).1 = ⟨#[]⟩) := by
  unfold findR
  by_cases e : wholeR s = 0
  · rw [if_pos e]
    obtain ⟨h1, h2⟩ := findF_mem key (fldR (inR s))
    refine ⟨fun h => ?_, h2⟩
    obtain ⟨p, hp, hv⟩ := h1 h
    obtain ⟨_, _, ho⟩ := whole_in e
    have hi := take_rest s 4
    have hz := fld_size _ _ (Nat.le_refl _) p hp
    rw [← hv]
    exact ⟨fld_ok _ _ _ (Nat.le_refl _) ho p hp, by unfold inR at hz; omega⟩
  · rw [if_neg e]
    exact ⟨fun h => Bool.noConfusion h, fun _ => rfl⟩
theorem parts_j {k : Nat} (hk : 1 ≤ k) (x0 x1 : ByteArray) (hz : x0.size ≤ 140737488351232) : interchangelaw03_TableParts.j0 k x0 x1 true = some true := by
  obtain ⟨k, rfl⟩ : ∃ j, k = j + 1 := ⟨k - 1, by omega⟩
  have h1 : table_Find.f x0 x1 = some (findR x0 x1) := by unfold table_Find.f; rw [if_pos (by omega)]
  rw [interchangelaw03_TableParts.j0, h1, Option.bind_some]
  obtain ⟨h2, h3⟩ := find_val x0 x1
  generalize findR x0 x1 = f at h2 h3
  obtain ⟨v, is⟩ := f
  cases is with
  | true =>
    obtain ⟨h4, h5⟩ := h2 rfl
    simp only at h4 h5
    have h6 : table_Value.f v = some (v, ⟨#[]⟩, 0) := by unfold table_Value.f; rw [if_pos (by omega), val_whole h4]
    simp only
    rw [if_pos trivial, h6, Option.bind_some, if_pos trivial, if_pos rfl, if_pos rfl]
    simp only [toList_data]
    rfl
  | false =>
    have h4 := h3 rfl
    simp only at h4
    subst h4
    simp only
    rw [if_neg (by decide), if_pos trivial, toList_data]
    rfl
theorem tableParts_pure (b0 b1 : ByteArray) (g0 : b0.size ≤ maxLen) (g1 : b1.size ≤ maxLen) (z0 : b0.size ≤ 140737488351232) (z1 : b1.size ≤ 140737488351232) : ∃ k, interchangelaw03_TableParts.f k b0 b1 = some true := by
  obtain ⟨k, hk⟩ : ∃ k : Nat, 100 ≤ k := ⟨100, Nat.le_refl _⟩
  refine ⟨k, ?_⟩
  unfold interchangelaw03_TableParts.f
  have h1 : table_Value.f b0 = some (takenR b0 (tvalR b0)) := by unfold table_Value.f; rw [if_pos (by omega)]
  have hj := parts_j (k := k) (by omega) b0 b1 (by omega)
  rw [shown_t, Option.bind_some, h1, Option.bind_some]
  by_cases e : (tvalR b0).2.1 = 0
  · obtain ⟨a, r, h2, h3, h4⟩ := val_cut e
    rw [h2]
    have h6 : table_Value.f a = some (a, ⟨#[]⟩, 0) := by unfold table_Value.f; rw [if_pos (by omega), val_whole h3]
    simp only
    rw [if_pos trivial, h6, Option.bind_some]
    simp only
    rw [if_pos trivial, if_pos trivial, if_pos (by rw [toList_data]), hj]
  · unfold takenR
    rw [if_neg e]
    simp only
    rw [if_neg e, hj]
end Go.Proofs.YthdkmohelampbaaDoor.F
namespace Go.Proofs.YthdkmohelampbaaDoor.F
open Go.RowKit Go.Proofs.YthdkmohelampbaaDoorW.PrintWords Go.Proofs.YthdkmohelampbaaDoorW.PrintLast Go.Proofs.YthdkmohelampbaaDoorW.PrintMore
attribute [local go_sem] max2_int min2_int max_two min_two max_three min_three max_four min_four
set_option linter.unusedVariables false
set_option linter.unusedSimpArgs false

/-! ### interchangelaw03_TableCut: function 3 -/
def interchangelaw03_TableCut.j0 : Nat → Int → Bool → ByteArray → Bool → Option (Bool)
  | 0, _, _, _, _ => none
  | k + 1, x1, x5, x6, x39 => if x39 = true then (some false) else (if x1 < 0 then (some x5) else (if x1 ≥ (x6.size : Int) then (some x5) else (if 0 ≤ x1 then (if x1 ≤ (x6.size : Int) then ((table_Take.f (x6.extract 0 (x1 : Int).toNat)).bind fun bt132 => (if x5 = true then (some (bt132.2.2 == 2)) else (some false))) else (none)) else (none))))
def interchangelaw03_TableCut.f (k : Nat) (a0 : ByteArray) (a1 : Int) : Option (Bool) := (interchangelaw03_shown.f).bind fun t128 => ((table_Take.f a0).bind fun bt129 => (if bt129.2.2 = 0 then (if bt129.1.size + bt129.2.1.size ≤ 9223372036854775807 then (if (bt129.1 ++ bt129.2.1).toList = a0.toList then (interchangelaw03_TableCut.j0 k a1 t128 bt129.1 (decide ((bt129.1.size : Int) < 4))) else (interchangelaw03_TableCut.j0 k a1 t128 bt129.1 true)) else (none)) else (if t128 = true then (if bt129.1.toList = ([] : List UInt8) then (some (bt129.2.1.toList == ([] : List UInt8))) else (some false)) else (some false))))
theorem interchangelaw03_TableCut.mono_l : ∀ k, (∀ y0 y1 y2 y3, LeO (interchangelaw03_TableCut.j0 k y0 y1 y2 y3) (interchangelaw03_TableCut.j0 (k + 1) y0 y1 y2 y3))
  | 0 => fun _ _ _ _ r h => by simp [interchangelaw03_TableCut.j0] at h
  | k + 1 => by
    have ih0 := interchangelaw03_TableCut.mono_l k
    · intro y0 y1 y2 y3
      unfold interchangelaw03_TableCut.j0
      repeat' first
      | (with_reducible exact ih0 _ _ _ _)
      | (with_reducible exact LeO.refl _)
      | (with_reducible exact LeO.none _)
      | (with_reducible refine LeO.ite ?_ ?_)
      | (with_reducible refine LeO.bind ?_ (fun _ => ?_))
      | exact ih0 _ _ _ _
      | exact LeO.none _
      | refine LeO.ite ?_ ?_
      | refine LeO.bind ?_ (fun _ => ?_)
theorem interchangelaw03_TableCut.mono : ∀ a0 a1 k, LeO (interchangelaw03_TableCut.f k a0 a1) (interchangelaw03_TableCut.f (k + 1) a0 a1) := by
  intro a0 a1 k
  have ih0 := interchangelaw03_TableCut.mono_l k
  unfold interchangelaw03_TableCut.f
  repeat' first
      | (with_reducible exact ih0 _ _ _ _)
      | (with_reducible exact LeO.refl _)
      | (with_reducible exact LeO.none _)
      | (with_reducible refine LeO.ite ?_ ?_)
      | (with_reducible refine LeO.bind ?_ (fun _ => ?_))
      | exact ih0 _ _ _ _
      | exact LeO.none _
      | refine LeO.ite ?_ ?_
      | refine LeO.bind ?_ (fun _ => ?_)
set_option maxHeartbeats 8000000 in
set_option maxRecDepth 100000 in
theorem interchangelaw03_TableCut.calls (k : Nat) (a0 : ByteArray) (a1 : Int) (w : World) (hg : Laid w) (h : interchangelaw03_TableCut.f k a0 a1 = some true) :
    Calls Tryd.prog 3 #[.string a0, .int .i64 a1] w fun e w' => e = .returned (.bool true) ∧ Below w.heap.size w w' := by
  have HG := Aside0.mk hg
  clear hg
  have HB := Aside0.mk (Below.refl w.heap.size w)
  have H : ((interchangelaw03_shown.f).bind fun t128 => ((table_Take.f a0).bind fun bt129 => (if bt129.2.2 = 0 then (if bt129.1.size + bt129.2.1.size ≤ 9223372036854775807 then (if (bt129.1 ++ bt129.2.1).toList = a0.toList then (interchangelaw03_TableCut.j0 k a1 t128 bt129.1 (decide ((bt129.1.size : Int) < 4))) else (interchangelaw03_TableCut.j0 k a1 t128 bt129.1 true)) else (none)) else (if t128 = true then (if bt129.1.toList = ([] : List UInt8) then (some (bt129.2.1.toList == ([] : List UInt8))) else (some false)) else (some false))))) = some true := h
  clear h
  replace H := Option.bind_eq_some_iff.mp H
  obtain ⟨t128, A30, H⟩ := H
  replace H : ((table_Take.f a0).bind fun bt129 => (if bt129.2.2 = 0 then (if bt129.1.size + bt129.2.1.size ≤ 9223372036854775807 then (if (bt129.1 ++ bt129.2.1).toList = a0.toList then (interchangelaw03_TableCut.j0 k a1 t128 bt129.1 (decide ((bt129.1.size : Int) < 4))) else (interchangelaw03_TableCut.j0 k a1 t128 bt129.1 true)) else (none)) else (if t128 = true then (if bt129.1.toList = ([] : List UInt8) then (some (bt129.2.1.toList == ([] : List UInt8))) else (some false)) else (some false)))) = some true := H
  have A3 := Aside0.mk A30
  clear A30
  replace H := Option.bind_eq_some_iff.mp H
  obtain ⟨⟨t129, t130, t131⟩, A40, H⟩ := H
  replace H : (if t131 = 0 then (if t129.size + t130.size ≤ 9223372036854775807 then (if (t129 ++ t130).toList = a0.toList then (interchangelaw03_TableCut.j0 k a1 t128 t129 (decide ((t129.size : Int) < 4))) else (interchangelaw03_TableCut.j0 k a1 t128 t129 true)) else (none)) else (if t128 = true then (if t129.toList = ([] : List UInt8) then (some (t130.toList == ([] : List UInt8))) else (some false)) else (some false))) = some true := H
  have A4 := Aside0.mk A40
  clear A40
  by_cases c5 : t131 = 0
  · rw [if_pos c5] at H
    have c5b0 : (t131 == 0) = true := beq_iff_eq.mpr c5
    have c5b1 : (t131 != 0) = false := bne_eq_false_iff_eq.mpr c5
    clear c5
    have HC6 := Aside0.mk H
    clear H
    go_enter Tryd.func3, Tryd.ntmps3
    go_upto_region 5 with (first | ((with_reducible refine gate_callee (f := 10) rfl ?_); refine goesL_ (some 12) rfl rfl Tryd.func10 (by kernel_rfl) rfl #[] rfl (by (try simp only [List.map_toArray, List.map_cons, List.map_nil]); first | done | rfl | (simp only [List.length_drop, List.length_take]; rfl)) ?_; (with_reducible refine (interchangelaw03_shown.calls t128 _ ?lg A3.out).mono ?_); (case lg => exact (HG.out.below (by repeat (first | (with_reducible first | exact HB.out | apply below_alloc | apply pw_below_drewN | apply below_drew1) | exact HB.out)))); rintro e w7 ⟨rfl, hb⟩; refine ⟨_, rfl, ?_⟩; have n0_ := Aside0.mk (below_step (by repeat (first | (with_reducible first | exact HB.out | apply below_alloc | apply pw_below_drewN | apply below_drew1) | exact HB.out)) hb); clear HB; have HB := n0_; clear n0_; (try clear hb); (try clear hb2); (try clear hk); (try clear hi)) | ((with_reducible refine gate_callee (f := 11) rfl ?_); refine goesL_ (some 15) rfl rfl Tryd.func11 (by kernel_rfl) rfl #[.string a0] rfl (by (try simp only [List.map_toArray, List.map_cons, List.map_nil]); first | done | rfl | (simp only [List.length_drop, List.length_take]; rfl)) ?_; (with_reducible refine (table_Take.calls a0 t129 t130 t131 _ ?lg A4.out).mono ?_); (case lg => exact (HG.out.below (by repeat (first | (with_reducible first | exact HB.out | apply below_alloc | apply pw_below_drewN | apply below_drew1) | exact HB.out)))); rintro e w8 ⟨rfl, hb⟩; refine ⟨_, rfl, ?_⟩; have n0_ := Aside0.mk (below_step (by repeat (first | (with_reducible first | exact HB.out | apply below_alloc | apply pw_below_drewN | apply below_drew1) | exact HB.out)) hb); clear HB; have HB := n0_; clear n0_; (try clear hb); (try clear hb2); (try clear hk); (try clear hi)))
    (try simp only [Act.put, List.setIfInBounds_toArray, List.set_cons_zero, List.set_cons_succ])
    go_cut [39] (fun v39 wc => ∃ (kq : Nat) (x39_5 : Bool), v39 = .bool x39_5 ∧ Aside0 (interchangelaw03_TableCut.j0 kq a1 t128 t129 x39_5 = some true) ∧ Aside0 (kq ≤ k) ∧ Aside0 (Below w.heap.size w wc))
    case first =>
      have H := HC6.out
      clear HC6
      by_cases c9 : t129.size + t130.size ≤ 9223372036854775807
      · rw [if_pos c9] at H
        have c9b0 := eq_true c9
        have c9b1 : decide (t129.size + t130.size ≤ 9223372036854775807) = true := decide_eq_true c9
        try have c9b2 : (9223372036854775807 < t129.size + t130.size) = False := eq_false (Nat.not_lt.2 c9)
        by_cases c10 : (t129 ++ t130).toList = a0.toList
        · rw [if_pos c10] at H
          have c10b0 : ((t129 ++ t130).toList == a0.toList) = true := beq_iff_eq.mpr c10
          have c10b1 : ((t129 ++ t130).toList != a0.toList) = false := bne_eq_false_iff_eq.mpr c10
          clear c10
          (first | rw [c10b0] | (simp only [i64_w, i32_w]; rw [c10b0]) | skip)
          have H' := Aside0.mk H
          clear H
          go_wp2
          go_meet
          case rel => exact ⟨_, (decide ((t129.size : Int) < 4)), (by first | rfl | (simp; done) | (simp [*]; done)), H', ⟨by first | omega | exact Nat.le_refl _⟩, ⟨by repeat (first | (with_reducible first | exact HB.out | apply below_alloc | apply pw_below_drewN | apply below_drew1) | exact HB.out)⟩⟩
        · rw [if_neg c10] at H
          have c10b0 : ((t129 ++ t130).toList == a0.toList) = false := beq_eq_false_iff_ne.mpr c10
          have c10b1 : ((t129 ++ t130).toList != a0.toList) = true := bne_iff_ne.mpr c10
          (first | rw [c10b0] | (simp only [i64_w, i32_w]; rw [c10b0]) | skip)
          have H' := Aside0.mk H
          clear H
          go_wp2
          go_meet
          case rel => exact ⟨_, (true), (by first | rfl | (simp; done) | (simp [*]; done)), H', ⟨by first | omega | exact Nat.le_refl _⟩, ⟨by repeat (first | (with_reducible first | exact HB.out | apply below_alloc | apply pw_below_drewN | apply below_drew1) | exact HB.out)⟩⟩
      · rw [if_neg c9] at H
        exact absurd H (by simp)
    case rest =>
      clear HC6
      try clear c1
      try clear p2
      try clear c3
      try clear c5
      try clear c5b0
      try clear c5b1
      try clear c9
      try clear c9b0
      try clear c9b1
      try clear c9b2
      try clear c10
      try clear c10b0
      try clear c10b1
      obtain ⟨kq, x39_5, rfl, HA, HJ5, HB⟩ := hcut
      cases kq with
      | zero => exact absurd HA.out (by simp [interchangelaw03_TableCut.j0])
      | succ kj5 =>
        have H := HA.out
        clear HA
        simp only [interchangelaw03_TableCut.j0] at H
        by_cases c11 : x39_5 = true
        · subst c11
          have H1 : (some false) = some true := by rw [if_pos rfl] at H; first | done | exact H
          clear H
          have H := H1
          clear H1
          exact absurd H (by decide)
        · replace c11 := Bool.eq_false_iff.mpr c11
          subst c11
          have H1 : (if a1 < 0 then (some t128) else (if a1 ≥ (t129.size : Int) then (some t128) else (if 0 ≤ a1 then (if a1 ≤ (t129.size : Int) then ((table_Take.f (t129.extract 0 (a1 : Int).toNat)).bind fun bt132 => (if t128 = true then (some (bt132.2.2 == 2)) else (some false))) else (none)) else (none)))) = some true := by rw [if_neg (show ¬ (false = true) by decide)] at H; first | done | exact H
          clear H
          have H := H1
          clear H1
          by_cases c12 : a1 < 0
          · rw [if_pos c12] at H
            have c12b0 : decide (a1 < 0) = true := decide_eq_true c12
            clear c12
            have HR_ := Aside0.mk (Option.some.inj H)
            clear H
            go_wp2
            go_ret
            exact ⟨by have HR0_ := HR_.out; first | exact congrArg (fun b_ => Ending.returned (Value.bool b_)) HR0_ | (simpa using HR0_) | rfl | (simp [errW_none, errW_some] <;> rfl) | (simp [*, errW_none, errW_some] <;> rfl), by repeat (first | (with_reducible first | exact HB.out | apply below_alloc | apply pw_below_drewN | apply below_drew1) | exact HB.out)⟩
          · rw [if_neg c12] at H
            have c12b0 : decide (a1 < 0) = false := decide_eq_false c12
            clear c12
            by_cases c13 : a1 ≥ (t129.size : Int)
            · rw [if_pos c13] at H
              have c13b0 : decide ((t129.size : Int) ≤ a1) = true := decide_eq_true c13
              clear c13
              have HR_ := Aside0.mk (Option.some.inj H)
              clear H
              go_wp2
              go_ret
              exact ⟨by have HR0_ := HR_.out; first | exact congrArg (fun b_ => Ending.returned (Value.bool b_)) HR0_ | (simpa using HR0_) | rfl | (simp [errW_none, errW_some] <;> rfl) | (simp [*, errW_none, errW_some] <;> rfl), by repeat (first | (with_reducible first | exact HB.out | apply below_alloc | apply pw_below_drewN | apply below_drew1) | exact HB.out)⟩
            · rw [if_neg c13] at H
              have c13b0 : decide ((t129.size : Int) ≤ a1) = false := decide_eq_false c13
              clear c13
              by_cases c14 : 0 ≤ a1
              · rw [if_pos c14] at H
                have c14b0 := eq_true c14
                have c14b1 : decide (0 ≤ a1) = true := decide_eq_true c14
                clear c14
                by_cases c15 : a1 ≤ (t129.size : Int)
                · rw [if_pos c15] at H
                  have c15b0 := eq_true c15
                  have c15b1 : decide (a1 ≤ (t129.size : Int)) = true := decide_eq_true c15
                  clear c15
                  replace H := Option.bind_eq_some_iff.mp H
                  obtain ⟨⟨t132, t133, t134⟩, A160, H⟩ := H
                  replace H : (if t128 = true then (some (t134 == 2)) else (some false)) = some true := H
                  have A16 := Aside0.mk A160
                  clear A160
                  by_cases c17 : t128 = true
                  · subst c17
                    have H1 : (some (t134 == 2)) = some true := by rw [if_pos rfl] at H; first | done | exact H
                    clear H
                    have H := H1
                    clear H1
                    have HR_ := Aside0.mk (Option.some.inj H)
                    clear H
                    go_wp2_with (first | ((with_reducible refine gate_callee (f := 11) rfl ?_); refine goesL_ (some 53) rfl rfl Tryd.func11 (by kernel_rfl) rfl #[.string (t129.extract 0 (a1 : Int).toNat)] rfl (by (try simp only [List.map_toArray, List.map_cons, List.map_nil]); first | done | rfl | (simp only [List.length_drop, List.length_take]; rfl)) ?_; (with_reducible refine (table_Take.calls (t129.extract 0 (a1 : Int).toNat) t132 t133 t134 _ ?lg A16.out).mono ?_); (case lg => exact (HG.out.below (by repeat (first | (with_reducible first | exact HB.out | apply below_alloc | apply pw_below_drewN | apply below_drew1) | exact HB.out)))); rintro e w18 ⟨rfl, hb⟩; refine ⟨_, rfl, ?_⟩; have n0_ := Aside0.mk (below_step (by repeat (first | (with_reducible first | exact HB.out | apply below_alloc | apply pw_below_drewN | apply below_drew1) | exact HB.out)) hb); clear HB; have HB := n0_; clear n0_; (try clear hb); (try clear hb2); (try clear hk); (try clear hi)))
                    go_ret
                    exact ⟨by have HR0_ := HR_.out; first | exact congrArg (fun b_ => Ending.returned (Value.bool b_)) HR0_ | (simpa using HR0_) | rfl | (simp [errW_none, errW_some] <;> rfl) | (simp [*, errW_none, errW_some] <;> rfl), by repeat (first | (with_reducible first | exact HB.out | apply below_alloc | apply pw_below_drewN | apply below_drew1) | exact HB.out)⟩
                  · replace c17 := Bool.eq_false_iff.mpr c17
                    subst c17
                    have H1 : (some false) = some true := by rw [if_neg (show ¬ (false = true) by decide)] at H; first | done | exact H
                    clear H
                    have H := H1
                    clear H1
                    exact absurd H (by decide)
                · rw [if_neg c15] at H
                  exact absurd H (by simp)
              · rw [if_neg c14] at H
                exact absurd H (by simp)
  · rw [if_neg c5] at H
    have c5b0 : (t131 == 0) = false := beq_eq_false_iff_ne.mpr c5
    have c5b1 : (t131 != 0) = true := bne_iff_ne.mpr c5
    by_cases c20 : t128 = true
    · subst c20
      have H1 : (if t129.toList = ([] : List UInt8) then (some (t130.toList == ([] : List UInt8))) else (some false)) = some true := by rw [if_pos rfl] at H; first | done | exact H
      clear H
      have H := H1
      clear H1
      by_cases c21 : t129.toList = ([] : List UInt8)
      · rw [if_pos c21] at H
        have c21b0 : (t129.toList == ([] : List UInt8)) = true := beq_iff_eq.mpr c21
        have c21b1 : (t129.toList != ([] : List UInt8)) = false := bne_eq_false_iff_eq.mpr c21
        clear c21
        have HR_ := Aside0.mk (Option.some.inj H)
        clear H
        go_enter Tryd.func3, Tryd.ntmps3
        go_wp2_with (first | ((with_reducible refine gate_callee (f := 10) rfl ?_); refine goesL_ (some 12) rfl rfl Tryd.func10 (by kernel_rfl) rfl #[] rfl (by (try simp only [List.map_toArray, List.map_cons, List.map_nil]); first | done | rfl | (simp only [List.length_drop, List.length_take]; rfl)) ?_; (with_reducible refine (interchangelaw03_shown.calls true _ ?lg A3.out).mono ?_); (case lg => exact (HG.out.below (by repeat (first | (with_reducible first | exact HB.out | apply below_alloc | apply pw_below_drewN | apply below_drew1) | exact HB.out)))); rintro e w22 ⟨rfl, hb⟩; refine ⟨_, rfl, ?_⟩; have n0_ := Aside0.mk (below_step (by repeat (first | (with_reducible first | exact HB.out | apply below_alloc | apply pw_below_drewN | apply below_drew1) | exact HB.out)) hb); clear HB; have HB := n0_; clear n0_; (try clear hb); (try clear hb2); (try clear hk); (try clear hi)) | ((with_reducible refine gate_callee (f := 11) rfl ?_); refine goesL_ (some 15) rfl rfl Tryd.func11 (by kernel_rfl) rfl #[.string a0] rfl (by (try simp only [List.map_toArray, List.map_cons, List.map_nil]); first | done | rfl | (simp only [List.length_drop, List.length_take]; rfl)) ?_; (with_reducible refine (table_Take.calls a0 t129 t130 t131 _ ?lg A4.out).mono ?_); (case lg => exact (HG.out.below (by repeat (first | (with_reducible first | exact HB.out | apply below_alloc | apply pw_below_drewN | apply below_drew1) | exact HB.out)))); rintro e w23 ⟨rfl, hb⟩; refine ⟨_, rfl, ?_⟩; have n0_ := Aside0.mk (below_step (by repeat (first | (with_reducible first | exact HB.out | apply below_alloc | apply pw_below_drewN | apply below_drew1) | exact HB.out)) hb); clear HB; have HB := n0_; clear n0_; (try clear hb); (try clear hb2); (try clear hk); (try clear hi)))
        go_ret
        exact ⟨by have HR0_ := HR_.out; first | exact congrArg (fun b_ => Ending.returned (Value.bool b_)) HR0_ | (simpa using HR0_) | rfl | (simp [errW_none, errW_some] <;> rfl) | (simp [*, errW_none, errW_some] <;> rfl), by repeat (first | (with_reducible first | exact HB.out | apply below_alloc | apply pw_below_drewN | apply below_drew1) | exact HB.out)⟩
      · rw [if_neg c21] at H
        have c21b0 : (t129.toList == ([] : List UInt8)) = false := beq_eq_false_iff_ne.mpr c21
        have c21b1 : (t129.toList != ([] : List UInt8)) = true := bne_iff_ne.mpr c21
        exact absurd H (by decide)
    · replace c20 := Bool.eq_false_iff.mpr c20
      subst c20
      have H1 : (some false) = some true := by rw [if_neg (show ¬ (false = true) by decide)] at H; first | done | exact H
      clear H
      have H := H1
      clear H1
      exact absurd H (by decide)


end Go.Proofs.YthdkmohelampbaaDoor.F
namespace Go.Proofs.YthdkmohelampbaaDoor.F
open Go.RowKit Go.Proofs.YthdkmohelampbaaDoorW.PrintWords Go.Proofs.YthdkmohelampbaaDoorW.PrintLast Go.Proofs.YthdkmohelampbaaDoorW.PrintMore
set_option linter.unusedVariables false
set_option linter.unusedSimpArgs false
theorem tab_pre {s : ByteArray} (h : (tabR s).2.1 = 0) : ∃ a, s = a ++ (tabR s).1 ∧ 4 ≤ a.size ∧ (∀ more, tabR (a ++ more) = (more, 0, (tabR s).2.2)) ∧ ∀ n, n < a.size → (tabR (a.extract 0 n)).2.1 = 2 := by
  simp only [tabR_eq] at h ⊢
  unfold withinR at h ⊢
  by_cases e : (ltakeR 4 s).2.2 = 0
  · rw [if_pos e] at h ⊢
    obtain ⟨h1, h2⟩ := take_lay e
    generalize (ltakeR 4 s).1 = x at h h1 h2 ⊢
    generalize (ltakeR 4 s).2.1 = r at h h2 ⊢
    have hx : x.size ≤ 4294967295 := by
      by_cases hx : x.size ≤ 4294967295
      · exact hx
      · rw [long_bad hx] at h1; exact absurd h1 (show ¬ (4 : Int) = 0 by decide)
    have hsz := long_size hx
    rw [if_pos (show (1 : Int) ≤ 32 by decide)] at h ⊢
    refine ⟨(layR 4 x).1, h2.symm, by omega, fun more => ?_, fun n hn => ?_⟩
    · rw [lay_take more h1]
      simp only at h ⊢
      rw [if_pos trivial, if_pos (show (1 : Int) ≤ 32 by decide), h]
    · have hj := extract_join (layR 4 x).1 n (by omega)
      have hq := extract_size' (layR 4 x).1 n
      generalize (layR 4 x).1.extract 0 n = p at hj ⊢
      generalize (layR 4 x).1.extract n (layR 4 x).1.size = q at hj hq
      by_cases ep : (ltakeR 4 p).2.2 = 0
      · exfalso
        obtain ⟨p1, p2⟩ := take_lay ep
        have l1 := lay_take ((ltakeR 4 p).2.1 ++ q) p1
        rw [← app_assoc, p2, hj] at l1
        have l2 := lay_take ⟨#[]⟩ h1
        rw [app_empty, l1] at l2
        have := congrArg (fun t : ByteArray × ByteArray × Int => t.2.1.size) l2
        simp only [size_append] at this
        have h0 : (⟨#[]⟩ : ByteArray).size = 0 := rfl
        omega
      · rw [if_neg ep, ltake_fail ep isW4]
  · rw [if_neg e] at h
    exact absurd h e
theorem taken_pre {s : ByteArray} {t : Tk} {a : ByteArray} (e : t.2.1 = 0) (h : s = a ++ t.1) : takenR s t = (a, t.1, 0) := by
  unfold takenR
  rw [if_pos e]
  have hs : s.size - t.1.size = a.size := by rw [h, size_append]; omega
  rw [hs, h, extract_app_left]
theorem tableCut_pure (b0 : ByteArray) (b1 : Int) (g0 : b0.size ≤ maxLen) (g1 : (Lit.int .i64 b1).wf = true) (hz : b0.size ≤ 140737488351232) (z1 : True) : ∃ k, interchangelaw03_TableCut.f k b0 b1 = some true := by
  obtain ⟨k, hk⟩ : ∃ k : Nat, 100 ≤ k := ⟨100, Nat.le_refl _⟩
  obtain ⟨k, rfl⟩ : ∃ j, k = j + 1 := ⟨k - 1, by omega⟩
  refine ⟨k + 1, ?_⟩
  unfold interchangelaw03_TableCut.f
  have h1 : table_Take.f b0 = some (takenR b0 (tabR b0)) := by unfold table_Take.f; rw [if_pos (by omega)]
  rw [shown_t, Option.bind_some, h1, Option.bind_some]
  by_cases e : (tabR b0).2.1 = 0
  · obtain ⟨a, ha, h4, _, hp⟩ := tab_pre e
    rw [taken_pre e ha]
    generalize (tabR b0).1 = r at ha
    subst ha
    rw [size_append] at hz
    simp only
    rw [if_pos trivial, if_pos (by omega), if_pos trivial, interchangelaw03_TableCut.j0, if_neg (by rw [decide_eq_true_iff]; omega)]
    by_cases c1 : b1 < 0
    · rw [if_pos c1]
    rw [if_neg c1]
    by_cases c2 : b1 ≥ (a.size : Int)
    · rw [if_pos c2]
    rw [if_neg c2, if_pos (by omega), if_pos (by omega)]
    have h2 := hp b1.toNat (by omega)
    have hs := extract_size a b1.toNat (by omega)
    generalize a.extract 0 b1.toNat = p at h2 hs ⊢
    have h3 : table_Take.f p = some (takenR p (tabR p)) := by unfold table_Take.f; rw [if_pos (by omega)]
    rw [h3, Option.bind_some, if_pos rfl]
    unfold takenR
    rw [if_neg (by rw [h2]; decide), h2]
    rfl
  · unfold takenR
    rw [if_neg e]
    simp only
    rw [if_neg e, if_pos trivial, if_pos (by rw [toList_data])]
    rw [toList_data]
    rfl
end Go.Proofs.YthdkmohelampbaaDoor.F
namespace Go.Proofs.YthdkmohelampbaaDoor.F
open Go.RowKit Go.Proofs.YthdkmohelampbaaDoorW.PrintWords Go.Proofs.YthdkmohelampbaaDoorW.PrintLast Go.Proofs.YthdkmohelampbaaDoorW.PrintMore
set_option linter.unusedVariables false
set_option linter.unusedSimpArgs false
/-- the fields, as they are laid -/
def flatF : List ByteArray → List ByteArray → ByteArray
  | k :: ks, v :: vs => ((layR 1 k).1 ++ v) ++ flatF ks vs
  | _, _ => ⟨#[]⟩
theorem flatF_cons (k v : ByteArray) (ks vs : List ByteArray) : flatF (k :: ks) (v :: vs) = ((layR 1 k).1 ++ v) ++ flatF ks vs := rfl
theorem empty_app (a : ByteArray) : (⟨#[]⟩ : ByteArray) ++ a = a := eq_of_list (by rw [append_data]; simp)
theorem flatF_app : ∀ (k1 v1 k2 v2 : List ByteArray), k1.length = v1.length → flatF (k1 ++ k2) (v1 ++ v2) = flatF k1 v1 ++ flatF k2 v2
  | [], [], _, _, _ => (empty_app _).symm
  | k :: ks, v :: vs, k2, v2, h => by
    simp only [List.length_cons, Nat.add_right_cancel_iff] at h
    rw [List.cons_append, List.cons_append, flatF_cons, flatF_cons, flatF_app ks vs k2 v2 h, app_assoc _ (flatF ks vs)]
/-- may they be laid? -/
def okF (ks vs : List ByteArray) : Prop := (∀ k ∈ ks, k.size ≤ 255) ∧ ∀ v ∈ vs, IsVal v
theorem isVal_iff (v : ByteArray) : IsVal v ↔ (takenR v (tvalR v)).2.2 = 0 ∧ (takenR v (tvalR v)).2.1.size = 0 := by
  constructor
  · intro h
    rw [val_whole h]
    exact ⟨rfl, rfl⟩
  · rintro ⟨h1, h2⟩
    have h3 : (tvalR v).2.1 = 0 := by
      unfold takenR at h1
      by_cases e : (tvalR v).2.1 = 0
      · exact e
      · rw [if_neg e] at h1; exact h1
    obtain ⟨a, r, h4, h5, _⟩ := val_cut h3
    rw [h4] at h2
    have hr := ba_empty h2
    rw [show (a, r, (0 : Int)).2.1 = r from rfl] at hr
    subst hr
    rw [tval_eq] at h3
    obtain ⟨a', h6, h7⟩ := val_pre h3
    have h8 : (valT v 0 0).1 = ⟨#[]⟩ := by
      have := congrArg (fun t : ByteArray × ByteArray × Int => t.2.1) h4
      unfold takenR at this
      rw [if_pos (show (tvalR v).2.1 = 0 from h3)] at this
      exact this
    refine ⟨(valT v 0 0).2.2, ?_⟩
    rw [tval_eq]
    have : valT v 0 0 = ((valT v 0 0).1, (valT v 0 0).2.1, (valT v 0 0).2.2) := rfl
    rw [this, h8, h3]
theorem mkGo_ok : ∀ (ks vs : List ByteArray) (acc : ByteArray), ks.length = vs.length → ((mkGo ks vs acc).2 = 0 ↔ okF ks vs) ∧ ((mkGo ks vs acc).2 = 0 → (mkGo ks vs acc).1 = acc ++ flatF ks vs) ∧ (¬ (mkGo ks vs acc).2 = 0 → (mkGo ks vs acc).1 = ⟨#[]⟩)
  | [], [], acc, _ => ⟨⟨fun _ => ⟨fun _ h => absurd h List.not_mem_nil, fun _ h => absurd h List.not_mem_nil⟩, fun _ => rfl⟩, fun _ => (app_empty acc).symm, fun h => absurd rfl h⟩
  | k :: ks, v :: vs, acc, h => by
    simp only [List.length_cons, Nat.add_right_cancel_iff] at h
    rw [mkGo_cons]
    by_cases e1 : (layR 1 k).2 = 0
    · rw [if_pos e1]
      have e1' := (short_iff k).1 e1
      by_cases e2 : (takenR v (tvalR v)).2.2 = 0
      · rw [if_pos e2]
        by_cases e3 : (takenR v (tvalR v)).2.1.size = 0
        · rw [if_pos e3]
          have hv := (isVal_iff v).2 ⟨e2, e3⟩
          obtain ⟨h1, h2, h3⟩ := mkGo_ok ks vs (acc ++ ((layR 1 k).1 ++ v)) h
          refine ⟨⟨fun hh => ?_, fun hh => h1.2 ⟨fun q hq => hh.1 q (List.mem_cons_of_mem _ hq), fun q hq => hh.2 q (List.mem_cons_of_mem _ hq)⟩⟩, fun hh => ?_, h3⟩
          · obtain ⟨a, b⟩ := h1.1 hh
            exact ⟨fun q hq => (List.mem_cons.1 hq).elim (fun e => e ▸ e1') (a q), fun q hq => (List.mem_cons.1 hq).elim (fun e => e ▸ hv) (b q)⟩
          · rw [h2 hh, flatF_cons, app_assoc]
        · rw [if_neg e3]
          exact ⟨⟨fun hh => absurd hh (show ¬ (3 : Int) = 0 by decide), fun hh => absurd ((isVal_iff v).1 (hh.2 v (List.mem_cons_self ..))).2 e3⟩, fun hh => absurd hh (show ¬ (3 : Int) = 0 by decide), fun _ => rfl⟩
      · rw [if_neg e2]
        exact ⟨⟨fun hh => absurd hh e2, fun hh => absurd ((isVal_iff v).1 (hh.2 v (List.mem_cons_self ..))).1 e2⟩, fun hh => absurd hh e2, fun _ => rfl⟩
    · rw [if_neg e1]
      dsimp only
      exact ⟨⟨fun hh => absurd hh e1, fun hh => absurd ((short_iff k).2 (hh.1 k (List.mem_cons_self ..))) e1⟩, fun hh => absurd hh e1, fun _ => rfl⟩
/-- what is made: its text, or why not -/
theorem make_iff (ks vs : List ByteArray) (hz : (flatF ks vs).size ≤ 4294967295) :
    ((makeR ks vs).2 = 0 ↔ ks.length = vs.length ∧ okF ks vs ∧ wholeR (layR 4 (flatF ks vs)).1 = 0) ∧ ((makeR ks vs).2 = 0 → (makeR ks vs).1 = (layR 4 (flatF ks vs)).1) ∧ (¬ (makeR ks vs).2 = 0 → (makeR ks vs).1 = ⟨#[]⟩) := by
  unfold makeR
  by_cases e : ks.length = vs.length
  · rw [if_pos e]
    obtain ⟨h1, h2, h3⟩ := mkGo_ok ks vs ⟨#[]⟩ e
    have hl := long_zero hz
    rw [empty_app] at h2
    generalize mkGo ks vs ⟨#[]⟩ = g at h1 h2 h3 ⊢
    obtain ⟨g1, g2⟩ := g
    simp only at h1 h2 h3 ⊢
    by_cases e1 : g2 = 0
    · have h4 := h2 e1
      subst h4
      rw [if_pos e1]
      generalize layR 4 (flatF ks vs) = L at hl ⊢
      obtain ⟨l1, l2⟩ := L
      simp only at hl ⊢
      subst hl
      unfold closeR
      rw [if_pos rfl]
      dsimp only
      generalize wholeR l1 = q
      by_cases e2 : q = 0
      · rw [if_pos e2]
        exact ⟨⟨fun _ => ⟨e, h1.1 e1, e2⟩, fun _ => rfl⟩, fun _ => rfl, fun h => absurd rfl h⟩
      · rw [if_neg e2]
        exact ⟨⟨fun h => absurd h e2, fun h => absurd h.2.2 e2⟩, fun h => absurd h e2, fun _ => rfl⟩
    · rw [if_neg e1]
      exact ⟨⟨fun h => absurd h e1, fun h => absurd (h1.2 h.2.1) e1⟩, fun h => absurd h e1, fun _ => rfl⟩
  · rw [if_neg e]
    exact ⟨⟨fun h => absurd h (show ¬ (1 : Int) = 0 by decide), fun h => absurd h.1 e⟩, fun h => absurd h (show ¬ (1 : Int) = 0 by decide), fun _ => rfl⟩
/-- a value with something behind it -/
theorem val_more {v : ByteArray} (h : IsVal v) (more : ByteArray) : takenR (v ++ more) (tvalR (v ++ more)) = (v, more, 0) := by
  obtain ⟨d, h⟩ := h
  rw [tval_eq] at h ⊢
  obtain ⟨a, ha, hm⟩ := val_pre (s := v) (dep := 0) (d := 0) (by rw [h])
  rw [h] at ha hm
  rw [show ((⟨#[]⟩ : ByteArray), (0 : Int), d).1 = ⟨#[]⟩ from rfl, app_empty] at ha
  subst ha
  exact taken_pre (by rw [hm]) (by rw [hm]) |>.trans (by rw [hm])
/-- the fields are told again -/
theorem fld_flat : ∀ (ks vs : List ByteArray), ks.length = vs.length → okF ks vs → fldR (flatF ks vs) = ks.zip vs
  | [], [], _, _ => by rw [fldR_eq, if_pos (show (flatF [] []).size = 0 from rfl)]; rfl
  | k :: ks, v :: vs, h, ho => by
    simp only [List.length_cons, Nat.add_right_cancel_iff] at h
    have hk := (short_iff k).2 (ho.1 k (List.mem_cons_self ..))
    have hs := short_size (ho.1 k (List.mem_cons_self ..))
    have ih := fld_flat ks vs h ⟨fun q hq => ho.1 q (List.mem_cons_of_mem _ hq), fun q hq => ho.2 q (List.mem_cons_of_mem _ hq)⟩
    have hv := ho.2 v (List.mem_cons_self ..)
    rw [flatF_cons, app_assoc, fldR_eq, if_neg (by rw [size_append]; omega), List.zip_cons_cons]
    have ht : ltakeR 1 ((layR 1 k).1 ++ (v ++ flatF ks vs)) = (k, v ++ flatF ks vs, 0) := lay_take _ hk
    unfold keyAt valAt leftAt taken1
    rw [ht]
    simp only
    rw [val_more hv, ih]
/-- a value with something behind it, in a table -/
def Shallow (v : ByteArray) : Prop := (valT v 1 1).2.1 = 0
theorem app_cancel {a b c : ByteArray} (h : a ++ c = b ++ c) : a = b := by
  have h1 := congrArg (fun t : ByteArray => t.data.toList) h
  simp only [append_data] at h1
  exact eq_of_list (List.append_cancel_right h1)
theorem val_one {v : ByteArray} (h : IsVal v) (more : ByteArray) (d : Int) : ((valT (v ++ more) 1 d).2.1 = 0 ↔ Shallow v) ∧ ((valT (v ++ more) 1 d).2.1 = 0 → (valT (v ++ more) 1 d).1 = more) := by
  obtain ⟨q, h⟩ := h
  rw [tval_eq] at h
  obtain ⟨a, ha, hm⟩ := val_pre (s := v) (dep := 0) (d := 0) (by rw [h])
  rw [h] at ha hm
  rw [show ((⟨#[]⟩ : ByteArray), (0 : Int), q).1 = ⟨#[]⟩ from rfl, app_empty] at ha
  subst ha
  have key : ∀ (m m' : ByteArray) (d d' : Int), (valT (v ++ m) 1 d).2.1 = 0 → (valT (v ++ m) 1 d).1 = m ∧ (valT (v ++ m') 1 d').2.1 = 0 := by
    intro m m' d d' h1
    obtain ⟨h2, h3⟩ := val_shal _ _ 1 0 d 0 (Nat.lt_succ_self _) (by decide) h1
    rw [hm m] at h3
    have h4 : (valT (v ++ m) 1 d).1 = m := h3.symm
    refine ⟨h4, ?_⟩
    obtain ⟨a, ha, hm2⟩ := val_pre h1
    rw [h4] at ha
    have := app_cancel ha
    subst this
    have h5 := hm2 m'
    have h6 : (valT (v ++ m') 1 d).2.1 = 0 := by rw [h5]
    exact (val_shal _ _ 1 1 d d' (Nat.lt_succ_self _) (Int.le_refl _) h6).1
  refine ⟨⟨fun h1 => ?_, fun h1 => ?_⟩, fun h1 => (key more more d d h1).1⟩
  · have := (key more ⟨#[]⟩ d 1 h1).2
    rw [app_empty] at this
    exact this
  · unfold Shallow at h1
    rw [← app_empty v] at h1
    exact (key ⟨#[]⟩ more 1 d h1).2
theorem items_nil (k : Nat) (d : Int) : (itemsR (fieldR valT) k ⟨#[]⟩ 1 d).1 = 0 := by
  cases k with
  | zero => rfl
  | succ k => rw [itemsR, if_pos (show (⟨#[]⟩ : ByteArray).size = 0 from rfl)]
theorem items_flat (ks : List ByteArray) : ∀ (vs : List ByteArray) (k : Nat) (d : Int), ks.length = vs.length → okF ks vs → (flatF ks vs).size ≤ k → ((itemsR (fieldR valT) k (flatF ks vs) 1 d).1 = 0 ↔ ∀ v ∈ vs, Shallow v) := by
  induction ks with
  | nil =>
    intro vs k d h _ _
    cases vs with
    | cons v vs => simp at h
    | nil => exact ⟨fun _ _ h => absurd h List.not_mem_nil, fun _ => items_nil k d⟩
  | cons k1 ks ih0 =>
    intro vs k d h ho hz
    obtain ⟨v, vs, rfl⟩ : ∃ v vs', vs = v :: vs' := by cases vs with
      | nil => simp at h
      | cons v vs => exact ⟨v, vs, rfl⟩
    simp only [List.length_cons, Nat.add_right_cancel_iff] at h
    have hk := (short_iff k1).2 (ho.1 k1 (List.mem_cons_self ..))
    have hs := short_size (ho.1 k1 (List.mem_cons_self ..))
    have hv := ho.2 v (List.mem_cons_self ..)
    have ho' : okF ks vs := ⟨fun q hq => ho.1 q (List.mem_cons_of_mem _ hq), fun q hq => ho.2 q (List.mem_cons_of_mem _ hq)⟩
    rw [flatF_cons] at hz ⊢
    have hsz := hz
    rw [size_append, size_append] at hsz
    obtain ⟨k, rfl⟩ : ∃ j, k = j + 1 := ⟨k - 1, by omega⟩
    have ht : ltakeR 1 ((layR 1 k1).1 ++ (v ++ flatF ks vs)) = (k1, v ++ flatF ks vs, 0) := lay_take _ hk
    have hf : fieldR valT ((layR 1 k1).1 ++ (v ++ flatF ks vs)) 1 d = valT (v ++ flatF ks vs) 1 d := by
      unfold fieldR
      rw [ht]
      rfl
    obtain ⟨p1, p2⟩ := val_one hv (flatF ks vs) d
    rw [app_assoc, itemsR, if_neg (by rw [size_append]; omega), hf]
    by_cases e : (valT (v ++ flatF ks vs) 1 d).2.1 = 0
    · have p3 := p2 e
      have ih := ih0 vs k (valT (v ++ flatF ks vs) 1 d).2.2 h ho' (by omega)
      rw [e, if_pos (show (if (0 : Int) = 2 then (3 : Int) else 0) = 0 by decide), p3, ih]
      exact ⟨fun hh q hq => (List.mem_cons.1 hq).elim (fun e' => e' ▸ p1.1 e) (hh q), fun hh q hq => hh q (List.mem_cons_of_mem _ hq)⟩
    · have hne : ¬ (if (valT (v ++ flatF ks vs) 1 d).2.1 = 2 then 3 else (valT (v ++ flatF ks vs) 1 d).2.1) = 0 := by
        by_cases e2 : (valT (v ++ flatF ks vs) 1 d).2.1 = 2
        · rw [if_pos e2]; decide
        · rw [if_neg e2]; exact e
      rw [if_neg hne]
      exact ⟨fun hh => absurd hh hne, fun hh => absurd (p1.2 (hh v (List.mem_cons_self ..))) e⟩
theorem whole_flat (ks vs : List ByteArray) (h : ks.length = vs.length) (ho : okF ks vs) (hz : (flatF ks vs).size ≤ 4294967295) : wholeR (layR 4 (flatF ks vs)).1 = 0 ↔ ∀ v ∈ vs, Shallow v := by
  have hl := long_zero hz
  have ht := lay_take (n := 4) ⟨#[]⟩ hl
  rw [app_empty] at ht
  have hi := items_flat ks vs (flatF ks vs).size 1 h ho (Nat.le_refl _)
  rw [← hi]
  unfold wholeR
  rw [tabR_eq]
  unfold withinR
  rw [ht]
  simp only
  rw [if_pos trivial, if_pos (show (1 : Int) ≤ 32 by decide), if_pos (show (0 : Int) < 1 by decide)]
  simp only
  by_cases e : (itemsR (fieldR valT) (flatF ks vs).size (flatF ks vs) 1 1).1 = 0
  · rw [if_pos e]
    exact ⟨fun _ => e, fun _ => rfl⟩
  · rw [if_neg e]
theorem sumB_app (a b : List ByteArray) : sumB (a ++ b) = sumB a + sumB b := by unfold sumB; rw [List.map_append, List.sum_append]
theorem flat_size : ∀ (ks vs : List ByteArray), (flatF ks vs).size ≤ sumB ks + sumB vs + 8 * ks.length
  | [], [] => by decide
  | [], v :: vs => by simp [flatF]; exact Nat.zero_le _
  | k :: ks, [] => Nat.zero_le _
  | k :: ks, v :: vs => by
    have := flat_size ks vs
    have hl := lay_size 1 k
    rw [flatF_cons, size_append, size_append, sumB_cons, sumB_cons, List.length_cons]
    omega
end Go.Proofs.YthdkmohelampbaaDoor.F
namespace Go.Proofs.YthdkmohelampbaaDoor.F
open Go.RowKit Go.Proofs.YthdkmohelampbaaDoorW.PrintWords Go.Proofs.YthdkmohelampbaaDoorW.PrintLast Go.Proofs.YthdkmohelampbaaDoorW.PrintMore
attribute [local go_sem] max2_int min2_int max_two min_two max_three min_three max_four min_four
set_option linter.unusedVariables false
set_option linter.unusedSimpArgs false

/-! ### interchangeref01_Take: function 52 -/
mutual
def interchangeref01_Take.j0 : Nat → ByteArray → Int → Bool → Option (Int × ByteArray × Int)
  | 0, _, _, _ => none
  | k + 1, x0, x1, x22 => if x22 = true then (some (0, (⟨#[]⟩ : ByteArray), 1)) else (if (x0.size : Int) < x1 then (some (0, (⟨#[]⟩ : ByteArray), 2)) else (interchangeref01_Take.l0 k x0 x1 0 0))
def interchangeref01_Take.l0 : Nat → ByteArray → Int → Int → Int → Option (Int × ByteArray × Int)
  | 0, _, _, _, _ => none
  | k + 1, x0, x1, x7, x8 => if x8 < x1 then (if 0 ≤ x8 then (if x8 < (x0.size : Int) then (interchangeref01_Take.l0 k x0 x1 (IntKind.u64.wrap ((IntKind.u64.wrap (256 * x7)) + (IntKind.u64.wrap (bt x0 x8)))) (wrap64 (x8 + 1))) else (none)) else (none)) else (if 0 ≤ x1 then (if x1 ≤ (x0.size : Int) then (some (x7, x0.extract (x1 : Int).toNat x0.size, 0)) else (none)) else (none))
end
def interchangeref01_Take.f (k : Nat) (a0 : ByteArray) (a1 : Int) : Option (Int × ByteArray × Int) := if a1 = 1 then (interchangeref01_Take.j0 k a0 a1 false) else (if a1 = 2 then (interchangeref01_Take.j0 k a0 a1 false) else (if a1 = 4 then (interchangeref01_Take.j0 k a0 a1 false) else (interchangeref01_Take.j0 k a0 a1 (a1 != 8))))
theorem interchangeref01_Take.mono_l : ∀ k, (∀ y0 y1 y2, LeO (interchangeref01_Take.j0 k y0 y1 y2) (interchangeref01_Take.j0 (k + 1) y0 y1 y2)) ∧ (∀ y0 y1 y2 y3, LeO (interchangeref01_Take.l0 k y0 y1 y2 y3) (interchangeref01_Take.l0 (k + 1) y0 y1 y2 y3))
  | 0 => ⟨fun _ _ _ r h => by simp [interchangeref01_Take.j0] at h, fun _ _ _ _ r h => by simp [interchangeref01_Take.l0] at h⟩
  | k + 1 => by
    obtain ⟨ih0, ih1⟩ := interchangeref01_Take.mono_l k
    refine ⟨?_, ?_⟩
    · intro y0 y1 y2
      unfold interchangeref01_Take.j0
      repeat' first
      | (with_reducible exact ih0 _ _ _)
      | (with_reducible exact ih1 _ _ _ _)
      | (with_reducible exact LeO.refl _)
      | (with_reducible exact LeO.none _)
      | (with_reducible refine LeO.ite ?_ ?_)
      | (with_reducible refine LeO.bind ?_ (fun _ => ?_))
      | exact ih0 _ _ _
      | exact ih1 _ _ _ _
      | exact LeO.none _
      | refine LeO.ite ?_ ?_
      | refine LeO.bind ?_ (fun _ => ?_)
    · intro y0 y1 y2 y3
      unfold interchangeref01_Take.l0
      repeat' first
      | (with_reducible exact ih0 _ _ _)
      | (with_reducible exact ih1 _ _ _ _)
      | (with_reducible exact LeO.refl _)
      | (with_reducible exact LeO.none _)
      | (with_reducible refine LeO.ite ?_ ?_)
      | (with_reducible refine LeO.bind ?_ (fun _ => ?_))
      | exact ih0 _ _ _
      | exact ih1 _ _ _ _
      | exact LeO.none _
      | refine LeO.ite ?_ ?_
      | refine LeO.bind ?_ (fun _ => ?_)
theorem interchangeref01_Take.mono : ∀ a0 a1 k, LeO (interchangeref01_Take.f k a0 a1) (interchangeref01_Take.f (k + 1) a0 a1) := by
  intro a0 a1 k
  obtain ⟨ih0, ih1⟩ := interchangeref01_Take.mono_l k
  unfold interchangeref01_Take.f
  repeat' first
      | (with_reducible exact ih0 _ _ _)
      | (with_reducible exact ih1 _ _ _ _)
      | (with_reducible exact LeO.refl _)
      | (with_reducible exact LeO.none _)
      | (with_reducible refine LeO.ite ?_ ?_)
      | (with_reducible refine LeO.bind ?_ (fun _ => ?_))
      | exact ih0 _ _ _
      | exact ih1 _ _ _ _
      | exact LeO.none _
      | refine LeO.ite ?_ ?_
      | refine LeO.bind ?_ (fun _ => ?_)
set_option maxHeartbeats 8000000 in
set_option maxRecDepth 100000 in
theorem interchangeref01_Take.calls (k : Nat) (a0 : ByteArray) (a1 : Int) (r1 : Int) (r2 : ByteArray) (r3 : Int) (w : World) (h : interchangeref01_Take.f k a0 a1 = some (r1, r2, r3)) :
    Calls Tryd.prog 52 #[.string a0, .int .i64 a1] w fun e w' => e = .returned (.tuple #[.int .u64 r1, .string r2, .int .i64 r3]) ∧ Drawn0 w w' := by
  have H : (if a1 = 1 then (interchangeref01_Take.j0 k a0 a1 false) else (if a1 = 2 then (interchangeref01_Take.j0 k a0 a1 false) else (if a1 = 4 then (interchangeref01_Take.j0 k a0 a1 false) else (interchangeref01_Take.j0 k a0 a1 (a1 != 8))))) = some (r1, r2, r3) := h
  clear h
  have HC3 := Aside0.mk H
  clear H
  go_enter Tryd.func52, Tryd.ntmps52
  go_upto_region 1 with (fail)
  repeat (go_quiet (fail); go_upto_region 1 with (fail))
  go_cut [22] (fun v22 wc => ∃ (kq : Nat) (x22_2 : Bool), v22 = .bool x22_2 ∧ Aside0 (interchangeref01_Take.j0 kq a0 a1 x22_2 = some (r1, r2, r3)) ∧ Aside0 (kq ≤ k) ∧ Drawn0 w wc)
  case first =>
    have H := HC3.out
    clear HC3
    by_cases c4 : a1 = 1
    · rw [if_pos c4] at H
      have c4b0 : (a1 == 1) = true := beq_iff_eq.mpr c4
      have c4b1 : (a1 != 1) = false := bne_eq_false_iff_eq.mpr c4
      clear c4
      (first | rw [c4b0] | (simp only [i64_w, i32_w]; rw [c4b0]) | skip)
      have H' := Aside0.mk H
      clear H
      go_wp2
      repeat (go_quiet (fail); try go_wp2)
      go_meet
      case rel => exact ⟨_, (false), (by first | rfl | (simp; done) | (simp [*]; done)), H', ⟨by first | omega | exact Nat.le_refl _⟩, by repeat (first | exact Drawn0.refl _ | apply Drawn0.step)⟩
    · rw [if_neg c4] at H
      have c4b0 : (a1 == 1) = false := beq_eq_false_iff_ne.mpr c4
      have c4b1 : (a1 != 1) = true := bne_iff_ne.mpr c4
      (first | rw [c4b0] | (simp only [i64_w, i32_w]; rw [c4b0]) | skip)
      by_cases c5 : a1 = 2
      · rw [if_pos c5] at H
        have c5b0 : (a1 == 2) = true := beq_iff_eq.mpr c5
        have c5b1 : (a1 != 2) = false := bne_eq_false_iff_eq.mpr c5
        clear c5
        have H' := Aside0.mk H
        clear H
        go_wp2
        repeat (go_quiet (fail); try go_wp2)
        go_meet
        case rel => exact ⟨_, (false), (by first | rfl | (simp; done) | (simp [*]; done)), H', ⟨by first | omega | exact Nat.le_refl _⟩, by repeat (first | exact Drawn0.refl _ | apply Drawn0.step)⟩
      · rw [if_neg c5] at H
        have c5b0 : (a1 == 2) = false := beq_eq_false_iff_ne.mpr c5
        have c5b1 : (a1 != 2) = true := bne_iff_ne.mpr c5
        by_cases c6 : a1 = 4
        · rw [if_pos c6] at H
          have c6b0 : (a1 == 4) = true := beq_iff_eq.mpr c6
          have c6b1 : (a1 != 4) = false := bne_eq_false_iff_eq.mpr c6
          clear c6
          have H' := Aside0.mk H
          clear H
          go_wp2
          repeat (go_quiet (fail); try go_wp2)
          go_meet
          case rel => exact ⟨_, (false), (by first | rfl | (simp; done) | (simp [*]; done)), H', ⟨by first | omega | exact Nat.le_refl _⟩, by repeat (first | exact Drawn0.refl _ | apply Drawn0.step)⟩
        · rw [if_neg c6] at H
          have c6b0 : (a1 == 4) = false := beq_eq_false_iff_ne.mpr c6
          have c6b1 : (a1 != 4) = true := bne_iff_ne.mpr c6
          have H' := Aside0.mk H
          clear H
          go_wp2
          repeat (go_quiet (fail); try go_wp2)
          go_meet
          case rel => exact ⟨_, ((a1 != 8)), (by first | rfl | (simp; done) | (simp [*]; done)), H', ⟨by first | omega | exact Nat.le_refl _⟩, by repeat (first | exact Drawn0.refl _ | apply Drawn0.step)⟩
  case rest =>
    clear HC3
    try clear p2
    try clear c4
    try clear c4b0
    try clear c4b1
    try clear c5
    try clear c5b0
    try clear c5b1
    try clear c6
    try clear c6b0
    try clear c6b1
    obtain ⟨kq, x22_2, rfl, HA, HJ2, ⟨mc2, rfl⟩⟩ := hcut
    cases kq with
    | zero => exact absurd HA.out (by simp [interchangeref01_Take.j0])
    | succ kj2 =>
      have H := HA.out
      clear HA
      simp only [interchangeref01_Take.j0] at H
      by_cases c7 : x22_2 = true
      · subst c7
        have H1 : (some (0, (⟨#[]⟩ : ByteArray), 1)) = some (r1, r2, r3) := by rw [if_pos rfl] at H; exact H
        clear H
        have H := H1
        clear H1
        simp only [Option.some.injEq, Prod.mk.injEq] at H
        obtain ⟨rfl, rfl, rfl⟩ := H
        go_wp2
        repeat (go_quiet (fail); try go_wp2)
        go_ret3
        exact ⟨by first | rfl | (simp; done) | (simp [*]; done), by repeat (first | exact Drawn0.refl _ | apply Drawn0.step)⟩
      · replace c7 := Bool.eq_false_iff.mpr c7
        subst c7
        have H1 : (if (a0.size : Int) < a1 then (some (0, (⟨#[]⟩ : ByteArray), 2)) else (interchangeref01_Take.l0 kj2 a0 a1 0 0)) = some (r1, r2, r3) := by rw [if_neg (show ¬ (false = true) by decide)] at H; exact H
        clear H
        have H := H1
        clear H1
        by_cases c8 : (a0.size : Int) < a1
        · rw [if_pos c8] at H
          have c8b0 : decide ((a0.size : Int) < a1) = true := decide_eq_true c8
          clear c8
          simp only [Option.some.injEq, Prod.mk.injEq] at H
          obtain ⟨rfl, rfl, rfl⟩ := H
          go_wp2
          repeat (go_quiet (fail); try go_wp2)
          go_ret3
          exact ⟨by first | rfl | (simp; done) | (simp [*]; done), by repeat (first | exact Drawn0.refl _ | apply Drawn0.step)⟩
        · rw [if_neg c8] at H
          have c8b0 : decide ((a0.size : Int) < a1) = false := decide_eq_false c8
          clear c8
          have H' := Aside0.mk H
          clear H
          go_wp2
          repeat (go_quiet (fail); try go_wp2)
          go_loopg [7, 8] kj2 (fun kq v7 v8 w' => ∃ (x7_2 : Int) (x8_2 : Int), v7 = .int .u64 x7_2 ∧ v8 = .int .i64 x8_2 ∧ Aside0 (interchangeref01_Take.l0 kq a0 a1 x7_2 x8_2 = some (r1, r2, r3)) ∧ Aside0 (kq ≤ kj2) ∧ Drawn0 w w')
          case atStart => exact ⟨(0), (0), (by first | rfl | (simp; done) | (simp [*]; done)), (by first | rfl | (simp; done) | (simp [*]; done)), H', ⟨Nat.le_refl _⟩, by repeat (first | exact Drawn0.refl _ | apply Drawn0.step)⟩
          case round =>
            clear H'
            try clear c2
            try clear p2
            try clear c4
            try clear c4b0
            try clear c4b1
            try clear c5
            try clear c5b0
            try clear c5b1
            try clear c6
            try clear c6b0
            try clear c6b1
            try clear c7
            try clear c8
            try clear c8b0
            try clear p2
            obtain ⟨x7_2, x8_2, rfl, rfl, HA, HK2, ⟨m2, rfl⟩⟩ := hrel
            cases gk with
            | zero => exact absurd HA.out (by simp [interchangeref01_Take.l0])
            | succ k2 =>
              have H := HA.out
              clear HA
              simp only [interchangeref01_Take.l0] at H
              by_cases c9 : x8_2 < a1
              · rw [if_pos c9] at H
                have c9b0 : decide (x8_2 < a1) = true := decide_eq_true c9
                clear c9
                by_cases c10 : 0 ≤ x8_2
                · rw [if_pos c10] at H
                  have c10b0 : decide (0 ≤ x8_2) = true := decide_eq_true c10
                  clear c10
                  by_cases c11 : x8_2 < (a0.size : Int)
                  · rw [if_pos c11] at H
                    have c11b0 : decide (x8_2 < (a0.size : Int)) = true := decide_eq_true c11
                    clear c11
                    have H' := Aside0.mk H
                    clear H
                    have p12 : 0 ≤ (x8_2 : Int) := of_decide_eq_true (by first | (with_reducible assumption) | assumption)
                    have q12 : x8_2 < (a0.size : Int) := of_decide_eq_true (by first | (with_reducible assumption) | assumption)
                    have hx12 := bt_at a0 x8_2
                    replace p12 := eq_true p12
                    replace q12 := eq_true q12
                    go_wp2
                    repeat (go_quiet (fail); try go_wp2)
                    go_roundg k2
                    case measure => have := HJ2.out; have := HK2.out; omega
                    case rel => exact ⟨(IntKind.u64.wrap ((IntKind.u64.wrap (256 * x7_2)) + (IntKind.u64.wrap (bt a0 x8_2)))), (wrap64 (x8_2 + 1)), (by first | rfl | (simp; done) | (simp [*]; done)), (by first | rfl | (simp; done) | (simp [*]; done)), H', ⟨by have := HJ2.out; have := HK2.out; omega⟩, by repeat (first | exact Drawn0.refl _ | apply Drawn0.step)⟩
                  · rw [if_neg c11] at H
                    exact absurd H (by simp)
                · rw [if_neg c10] at H
                  exact absurd H (by simp)
              · rw [if_neg c9] at H
                have c9b0 : decide (x8_2 < a1) = false := decide_eq_false c9
                clear c9
                by_cases c13 : 0 ≤ a1
                · rw [if_pos c13] at H
                  have c13b0 := eq_true c13
                  have c13b1 : decide (0 ≤ a1) = true := decide_eq_true c13
                  clear c13
                  by_cases c14 : a1 ≤ (a0.size : Int)
                  · rw [if_pos c14] at H
                    have c14b0 := eq_true c14
                    have c14b1 : decide (a1 ≤ (a0.size : Int)) = true := decide_eq_true c14
                    clear c14
                    simp only [Option.some.injEq, Prod.mk.injEq] at H
                    obtain ⟨rfl, rfl, rfl⟩ := H
                    go_wp2
                    repeat (go_quiet (fail); try go_wp2)
                    go_ret3
                    exact ⟨by first | rfl | (simp; done) | (simp [*]; done), by repeat (first | exact Drawn0.refl _ | apply Drawn0.step)⟩
                  · rw [if_neg c14] at H
                    exact absurd H (by simp)
                · rw [if_neg c13] at H
                  exact absurd H (by simp)


end Go.Proofs.YthdkmohelampbaaDoor.F
namespace Go.Proofs.YthdkmohelampbaaDoor.F
open Go.RowKit Go.Proofs.YthdkmohelampbaaDoorW.PrintWords Go.Proofs.YthdkmohelampbaaDoorW.PrintLast Go.Proofs.YthdkmohelampbaaDoorW.PrintMore
set_option linter.unusedVariables false
set_option linter.unusedSimpArgs false

theorem rtake_loop (s : ByteArray) (n : Nat) (hn : n ≤ 8) (hs : n ≤ s.size) (d : Nat) : ∀ (k i : Nat), n = i + d → d < k →
    interchangeref01_Take.l0 k s n ((beNum (s.data.toList.take i) : Nat) : Int) i = some (((beNum (s.data.toList.take n) : Nat) : Int), s.extract n s.size, 0) := by
  induction d with
  | zero =>
    intro k i hi hk
    obtain ⟨k, rfl⟩ : ∃ m, k = m + 1 := ⟨k - 1, by omega⟩
    obtain rfl : n = i := by omega
    simp only [interchangeref01_Take.l0]
    rw [if_neg (by omega), if_pos (by omega), if_pos (by omega)]
    simp
  | succ d ih =>
    intro k i hi hk
    obtain ⟨k, rfl⟩ : ∃ m, k = m + 1 := ⟨k - 1, by omega⟩
    simp only [interchangeref01_Take.l0]
    rw [if_pos (by omega), if_pos (by omega), if_pos (by omega), bt_get s i (by omega)]
    have hx : beNum (s.data.toList.take i) < 72057594037927936 := by
      have h1 := beNum_lt (s.data.toList.take i)
      have h2 : (s.data.toList.take i).length ≤ 7 := by rw [List.length_take]; omega
      have h3 : 256 ^ (s.data.toList.take i).length ≤ 256 ^ 7 := Nat.pow_le_pow_right (by decide) h2
      omega
    have hb := (s.data.toList[i]'(by simp only [Array.length_toList]; show i < s.size; omega)).toNat_lt
    rw [wrapU (x := 256 * _) (by omega) (by omega), wrapU (x := ((s.data.toList[i]'(by simp only [Array.length_toList]; show i < s.size; omega)).toNat : Int)) (by omega) (by omega), wrapU (by omega) (by omega)]
    have e3 : wrap64 ((i : Int) + 1) = ((i + 1 : Nat) : Int) := by rw [wrap64_of (by omega) (by omega)]; omega
    have e4 : (256 * ((beNum (s.data.toList.take i) : Nat) : Int) + ((s.data.toList[i]'(by simp only [Array.length_toList]; show i < s.size; omega)).toNat : Int)) = ((beNum (s.data.toList.take (i + 1)) : Nat) : Int) := by
      rw [take_succ_num s i (by omega)]; omega
    rw [e3, e4]
    exact ih k (i + 1) (by omega) (by omega)
theorem rtake_flag (k : Nat) (s : ByteArray) (a0 : Int) : interchangeref01_Take.f k s a0 = interchangeref01_Take.j0 k s a0 (decide (¬ isW a0)) := by
  unfold interchangeref01_Take.f isW
  by_cases h1 : a0 = 1
  · rw [if_pos h1]; simp [h1]
  by_cases h2 : a0 = 2
  · rw [if_neg h1, if_pos h2]; simp [h2]
  by_cases h4 : a0 = 4
  · rw [if_neg h1, if_neg h2, if_pos h4]; simp [h4]
  rw [if_neg h1, if_neg h2, if_neg h4]
  by_cases h8 : a0 = 8
  · simp [h8]
  · have : (a0 != 8) = true := by simp [h8]
    rw [this]
    simp [h1, h2, h4, h8]
theorem rtake_at (s : ByteArray) (n : Int) : interchangeref01_Take.f 11 s n = some (takeR s n) := by
  rw [rtake_flag]
  unfold takeR
  simp only [interchangeref01_Take.j0]
  by_cases hw : isW n
  · rw [if_pos hw, if_neg (by simp [hw])]
    by_cases hl : (s.size : Int) < n
    · rw [if_pos hl, if_pos hl]
    · rw [if_neg hl, if_neg hl]
      obtain ⟨m, rfl⟩ : ∃ m : Nat, n = m := ⟨n.toNat, by rcases hw with h | h | h | h <;> omega⟩
      have hm : m ≤ 8 := by rcases hw with h | h | h | h <;> omega
      have := rtake_loop s m hm (by omega) m 10 0 (by omega) (by omega)
      simpa [beNum] using this
  · rw [if_neg hw, if_pos (by simp [hw])]
theorem rtake_ev (s : ByteArray) (n : Int) : Ev (fun k => interchangeref01_Take.f k s n) (takeR s n) := Ev.of (interchangeref01_Take.mono s n) (rtake_at s n)
theorem rtake_k {k : Nat} (hk : 12 ≤ k) (s : ByteArray) (n : Int) : interchangeref01_Take.f k s n = some (takeR s n) := at_rounds (interchangeref01_Take.mono s n) (Nat.le_trans (by decide) hk) (rtake_at s n)
end Go.Proofs.YthdkmohelampbaaDoor.F
namespace Go.Proofs.YthdkmohelampbaaDoor.F
open Go.RowKit Go.Proofs.YthdkmohelampbaaDoorW.PrintWords Go.Proofs.YthdkmohelampbaaDoorW.PrintLast Go.Proofs.YthdkmohelampbaaDoorW.PrintMore
attribute [local go_sem] max2_int min2_int max_two min_two max_three min_three max_four min_four
set_option linter.unusedVariables false
set_option linter.unusedSimpArgs false

/-! ### interchangeref02_TakeShort: function 47 -/
def interchangeref02_TakeShort.f (a0 : ByteArray) : Option (ByteArray × ByteArray × Int) := if (a0.size : Int) < 1 then (some ((⟨#[]⟩ : ByteArray), (⟨#[]⟩ : ByteArray), 2)) else (if 0 < (a0.size : Int) then (if (a0.size : Int) < (wrap64 (1 + (wrap64 (bt a0 0)))) then (some ((⟨#[]⟩ : ByteArray), (⟨#[]⟩ : ByteArray), 2)) else (if 1 ≤ (wrap64 (1 + (wrap64 (bt a0 0)))) then (if (wrap64 (1 + (wrap64 (bt a0 0)))) ≤ (a0.size : Int) then (if 0 ≤ (wrap64 (1 + (wrap64 (bt a0 0)))) then (some (a0.extract 1 ((wrap64 (1 + (wrap64 (bt a0 0)))) : Int).toNat, a0.extract ((wrap64 (1 + (wrap64 (bt a0 0)))) : Int).toNat a0.size, 0)) else (none)) else (none)) else (none))) else (none))
set_option maxHeartbeats 8000000 in
set_option maxRecDepth 100000 in
theorem interchangeref02_TakeShort.calls (a0 : ByteArray) (r1 : ByteArray) (r2 : ByteArray) (r3 : Int) (w : World) (h : interchangeref02_TakeShort.f a0 = some (r1, r2, r3)) :
    Calls Tryd.prog 47 #[.string a0] w fun e w' => e = .returned (.tuple #[.string r1, .string r2, .int .i64 r3]) ∧ Drawn0 w w' := by
  have H : (if (a0.size : Int) < 1 then (some ((⟨#[]⟩ : ByteArray), (⟨#[]⟩ : ByteArray), 2)) else (if 0 < (a0.size : Int) then (if (a0.size : Int) < (wrap64 (1 + (wrap64 (bt a0 0)))) then (some ((⟨#[]⟩ : ByteArray), (⟨#[]⟩ : ByteArray), 2)) else (if 1 ≤ (wrap64 (1 + (wrap64 (bt a0 0)))) then (if (wrap64 (1 + (wrap64 (bt a0 0)))) ≤ (a0.size : Int) then (if 0 ≤ (wrap64 (1 + (wrap64 (bt a0 0)))) then (some (a0.extract 1 ((wrap64 (1 + (wrap64 (bt a0 0)))) : Int).toNat, a0.extract ((wrap64 (1 + (wrap64 (bt a0 0)))) : Int).toNat a0.size, 0)) else (none)) else (none)) else (none))) else (none))) = some (r1, r2, r3) := h
  clear h
  by_cases c2 : (a0.size : Int) < 1
  · rw [if_pos c2] at H
    have c2b0 : decide ((a0.size : Int) < 1) = true := decide_eq_true c2
    have c2b1 : decide (a0.size < 1) = true := decide_eq_true (by omega)
    clear c2
    simp only [Option.some.injEq, Prod.mk.injEq] at H
    obtain ⟨rfl, rfl, rfl⟩ := H
    go_enter Tryd.func47, Tryd.ntmps47
    go_wp2
    repeat (go_quiet (fail); try go_wp2)
    go_ret3
    exact ⟨by first | rfl | (simp; done) | (simp [*]; done), by repeat (first | exact Drawn0.refl _ | apply Drawn0.step)⟩
  · rw [if_neg c2] at H
    have c2b0 : decide ((a0.size : Int) < 1) = false := decide_eq_false c2
    have c2b1 : decide (a0.size < 1) = false := decide_eq_false (by omega)
    clear c2
    by_cases c3 : 0 < (a0.size : Int)
    · rw [if_pos c3] at H
      have c3b0 : decide (0 < (a0.size : Int)) = true := decide_eq_true c3
      have c3b1 : decide (0 < a0.size) = true := decide_eq_true (by omega)
      clear c3
      by_cases c5 : (a0.size : Int) < (wrap64 (1 + (wrap64 (bt a0 0))))
      · rw [if_pos c5] at H
        have c5b0 : decide ((a0.size : Int) < (wrap64 (1 + (wrap64 (bt a0 0))))) = true := decide_eq_true c5
        clear c5
        simp only [Option.some.injEq, Prod.mk.injEq] at H
        obtain ⟨rfl, rfl, rfl⟩ := H
        have p4 : 0 ≤ (0 : Int) := (by omega)
        have q4 : 0 < a0.size := (by have : (0 : Int) < (a0.size : Int) := of_decide_eq_true (by first | (with_reducible assumption) | assumption); omega)
        have hx4 : ∀ h : 0 < a0.size, ((a0[0]'h).toNat : Int) = bt a0 0 := bt_at a0 0
        clear p4
        have qi4 : (0 < (a0.size : Int)) = True := eq_true (of_decide_eq_true (by first | (with_reducible assumption) | assumption))
        replace q4 := eq_true q4
        go_enter Tryd.func47, Tryd.ntmps47
        go_wp2
        repeat (go_quiet (fail); try go_wp2)
        go_ret3
        exact ⟨by first | rfl | (simp; done) | (simp [*]; done), by repeat (first | exact Drawn0.refl _ | apply Drawn0.step)⟩
      · rw [if_neg c5] at H
        have c5b0 : decide ((a0.size : Int) < (wrap64 (1 + (wrap64 (bt a0 0))))) = false := decide_eq_false c5
        clear c5
        by_cases c7 : 1 ≤ (wrap64 (1 + (wrap64 (bt a0 0))))
        · rw [if_pos c7] at H
          have c7b0 := eq_true c7
          have c7b1 : decide (1 ≤ (wrap64 (1 + (wrap64 (bt a0 0))))) = true := decide_eq_true c7
          by_cases c8 : (wrap64 (1 + (wrap64 (bt a0 0)))) ≤ (a0.size : Int)
          · rw [if_pos c8] at H
            have c8b0 := eq_true c8
            have c8b1 : decide ((wrap64 (1 + (wrap64 (bt a0 0)))) ≤ (a0.size : Int)) = true := decide_eq_true c8
            obtain ⟨ji9, hji9⟩ : ∃ j_ : Int, (wrap64 (1 + (wrap64 (bt a0 0)))) = j_ := ⟨_, rfl⟩
            replace H : (if 0 ≤ (ji9) then (some (a0.extract 1 ((ji9) : Int).toNat, a0.extract ((ji9) : Int).toNat a0.size, 0)) else (none)) = some (r1, r2, r3) := by first | (rw [hji9] at H; exact H) | (simp only [hji9] at H ⊢; exact H)
            (try rw [hji9] at c5b0)
            (try rw [hji9] at c7b0)
            (try rw [hji9] at c7b1)
            (try rw [hji9] at c7)
            (try rw [hji9] at c8b0)
            (try rw [hji9] at c8b1)
            (try rw [hji9] at c8)
            have hji9w : (IntKind.i64.wrap (1 + (wrap64 (bt a0 0)))) = ji9 := (i64_w _).trans hji9
            by_cases c10 : 0 ≤ (ji9)
            · rw [if_pos c10] at H
              have c10b0 := eq_true c10
              have c10b1 : decide (0 ≤ (ji9)) = true := decide_eq_true c10
              clear c10
              have c11b0 := eq_true (of_decide_eq_true (by first | (with_reducible assumption) | assumption) : (ji9) ≤ (a0.size : Int))
              simp only [Option.some.injEq, Prod.mk.injEq] at H
              obtain ⟨rfl, rfl, rfl⟩ := H
              have p4 : 0 ≤ (0 : Int) := (by omega)
              have q4 : 0 < a0.size := (by have : (0 : Int) < (a0.size : Int) := of_decide_eq_true (by first | (with_reducible assumption) | assumption); omega)
              have hx4 : ∀ h : 0 < a0.size, ((a0[0]'h).toNat : Int) = bt a0 0 := bt_at a0 0
              clear p4
              have qi4 : (0 < (a0.size : Int)) = True := eq_true (of_decide_eq_true (by first | (with_reducible assumption) | assumption))
              replace q4 := eq_true q4
              have p6 : 0 ≤ (0 : Int) := (by omega)
              have q6 : 0 < a0.size := (by have : (0 : Int) < (a0.size : Int) := of_decide_eq_true (by first | (with_reducible assumption) | assumption); omega)
              have hx6 : ∀ h : 0 < a0.size, ((a0[0]'h).toNat : Int) = bt a0 0 := bt_at a0 0
              clear p6
              have qi6 : (0 < (a0.size : Int)) = True := eq_true (of_decide_eq_true (by first | (with_reducible assumption) | assumption))
              replace q6 := eq_true q6
              go_enter Tryd.func47, Tryd.ntmps47
              go_wp2
              repeat (go_quiet (fail); try go_wp2)
              go_ret3
              exact ⟨by first | rfl | (simp; done) | (simp only [← hji9] <;> (first | rfl | simp)) | (simp [*]; done), by repeat (first | exact Drawn0.refl _ | apply Drawn0.step)⟩
            · rw [if_neg c10] at H
              exact absurd H (by simp)
          · rw [if_neg c8] at H
            exact absurd H (by simp)
        · rw [if_neg c7] at H
          exact absurd H (by simp)
    · rw [if_neg c3] at H
      exact absurd H (by simp)


end Go.Proofs.YthdkmohelampbaaDoor.F
namespace Go.Proofs.YthdkmohelampbaaDoor.F
open Go.RowKit Go.Proofs.YthdkmohelampbaaDoorW.PrintWords Go.Proofs.YthdkmohelampbaaDoorW.PrintLast Go.Proofs.YthdkmohelampbaaDoorW.PrintMore
attribute [local go_sem] max2_int min2_int max_two min_two max_three min_three max_four min_four
set_option linter.unusedVariables false
set_option linter.unusedSimpArgs false

/-! ### interchangeref03_inside: function 42 -/
def interchangeref03_inside.f (k : Nat) (a0 : ByteArray) : Option (ByteArray × ByteArray × Int) := (interchangeref01_Take.f k a0 4).bind fun bt135 => (if bt135.2.2 = 0 then (if bt135.1 > (IntKind.u64.wrap ((bt135.2.1.size : Int))) then (some ((⟨#[]⟩ : ByteArray), (⟨#[]⟩ : ByteArray), 2)) else (if 0 ≤ bt135.1 then (if bt135.1 ≤ (bt135.2.1.size : Int) then (some (bt135.2.1.extract 0 (bt135.1 : Int).toNat, bt135.2.1.extract (bt135.1 : Int).toNat bt135.2.1.size, 0)) else (none)) else (none))) else (some ((⟨#[]⟩ : ByteArray), (⟨#[]⟩ : ByteArray), 2)))
theorem interchangeref03_inside.mono : ∀ a0 k, LeO (interchangeref03_inside.f k a0) (interchangeref03_inside.f (k + 1) a0) := by
  intro a0 k
  unfold interchangeref03_inside.f
  repeat' first
      | (with_reducible exact interchangeref01_Take.mono _ _ _)
      | (with_reducible exact LeO.refl _)
      | (with_reducible exact LeO.none _)
      | (with_reducible refine LeO.ite ?_ ?_)
      | (with_reducible refine LeO.bind ?_ (fun _ => ?_))
      | exact interchangeref01_Take.mono _ _ _
      | exact LeO.none _
      | refine LeO.ite ?_ ?_
      | refine LeO.bind ?_ (fun _ => ?_)
set_option maxHeartbeats 8000000 in
set_option maxRecDepth 100000 in
theorem interchangeref03_inside.calls (k : Nat) (a0 : ByteArray) (r1 : ByteArray) (r2 : ByteArray) (r3 : Int) (w : World) (h : interchangeref03_inside.f k a0 = some (r1, r2, r3)) :
    Calls Tryd.prog 42 #[.string a0] w fun e w' => e = .returned (.tuple #[.string r1, .string r2, .int .i64 r3]) ∧ Drawn0 w w' := by
  have H : ((interchangeref01_Take.f k a0 4).bind fun bt135 => (if bt135.2.2 = 0 then (if bt135.1 > (IntKind.u64.wrap ((bt135.2.1.size : Int))) then (some ((⟨#[]⟩ : ByteArray), (⟨#[]⟩ : ByteArray), 2)) else (if 0 ≤ bt135.1 then (if bt135.1 ≤ (bt135.2.1.size : Int) then (some (bt135.2.1.extract 0 (bt135.1 : Int).toNat, bt135.2.1.extract (bt135.1 : Int).toNat bt135.2.1.size, 0)) else (none)) else (none))) else (some ((⟨#[]⟩ : ByteArray), (⟨#[]⟩ : ByteArray), 2)))) = some (r1, r2, r3) := h
  clear h
  replace H := Option.bind_eq_some_iff.mp H
  obtain ⟨⟨t135, t136, t137⟩, A20, H⟩ := H
  replace H : (if t137 = 0 then (if t135 > (IntKind.u64.wrap ((t136.size : Int))) then (some ((⟨#[]⟩ : ByteArray), (⟨#[]⟩ : ByteArray), 2)) else (if 0 ≤ t135 then (if t135 ≤ (t136.size : Int) then (some (t136.extract 0 (t135 : Int).toNat, t136.extract (t135 : Int).toNat t136.size, 0)) else (none)) else (none))) else (some ((⟨#[]⟩ : ByteArray), (⟨#[]⟩ : ByteArray), 2))) = some (r1, r2, r3) := H
  have A2 := Aside0.mk A20
  clear A20
  by_cases c3 : t137 = 0
  · rw [if_pos c3] at H
    have c3b0 : (t137 == 0) = true := beq_iff_eq.mpr c3
    have c3b1 : (t137 != 0) = false := bne_eq_false_iff_eq.mpr c3
    clear c3
    by_cases c4 : t135 > (IntKind.u64.wrap ((t136.size : Int)))
    · rw [if_pos c4] at H
      have c4b0 : decide ((IntKind.u64.wrap ((t136.size : Int))) < t135) = true := decide_eq_true c4
      clear c4
      simp only [Option.some.injEq, Prod.mk.injEq] at H
      obtain ⟨rfl, rfl, rfl⟩ := H
      go_enter Tryd.func42, Tryd.ntmps42
      go_wp2_with (first | (go_at_call 52; (with_reducible refine (interchangeref01_Take.calls k a0 4 t135 t136 t137 _ A2.out).mono ?_); rintro e w' ⟨rfl, ⟨nd, rfl⟩⟩; (try first | exact ⟨rfl, _, World.drewN_drewN _ _ _⟩ | exact ⟨rfl, _, Eq.trans (World.drewN_drewN _ _ _) (congrArg (World.drewN _) (Nat.add_assoc _ _ _))⟩)))
      repeat (go_quiet (first | (go_at_call 52; (with_reducible refine (interchangeref01_Take.calls k a0 4 t135 t136 t137 _ A2.out).mono ?_); rintro e w' ⟨rfl, ⟨nd, rfl⟩⟩; (try first | exact ⟨rfl, _, World.drewN_drewN _ _ _⟩ | exact ⟨rfl, _, Eq.trans (World.drewN_drewN _ _ _) (congrArg (World.drewN _) (Nat.add_assoc _ _ _))⟩))); try go_wp2_with (first | (go_at_call 52; (with_reducible refine (interchangeref01_Take.calls k a0 4 t135 t136 t137 _ A2.out).mono ?_); rintro e w' ⟨rfl, ⟨nd, rfl⟩⟩; (try first | exact ⟨rfl, _, World.drewN_drewN _ _ _⟩ | exact ⟨rfl, _, Eq.trans (World.drewN_drewN _ _ _) (congrArg (World.drewN _) (Nat.add_assoc _ _ _))⟩))))
      go_ret3
      exact ⟨by first | rfl | (simp; done) | (simp [*]; done), by repeat (first | exact Drawn0.refl _ | apply Drawn0.step)⟩
    · rw [if_neg c4] at H
      have c4b0 : decide ((IntKind.u64.wrap ((t136.size : Int))) < t135) = false := decide_eq_false c4
      clear c4
      by_cases c5 : 0 ≤ t135
      · rw [if_pos c5] at H
        have c5b0 := eq_true c5
        have c5b1 : decide (0 ≤ t135) = true := decide_eq_true c5
        clear c5
        by_cases c6 : t135 ≤ (t136.size : Int)
        · rw [if_pos c6] at H
          have c6b0 := eq_true c6
          have c6b1 : decide (t135 ≤ (t136.size : Int)) = true := decide_eq_true c6
          clear c6
          have c7b0 := eq_true (of_decide_eq_true (by first | (with_reducible assumption) | assumption) : 0 ≤ t135)
          have c8b0 := eq_true (of_decide_eq_true (by first | (with_reducible assumption) | assumption) : t135 ≤ (t136.size : Int))
          simp only [Option.some.injEq, Prod.mk.injEq] at H
          obtain ⟨rfl, rfl, rfl⟩ := H
          go_enter Tryd.func42, Tryd.ntmps42
          go_wp2_with (first | (go_at_call 52; (with_reducible refine (interchangeref01_Take.calls k a0 4 t135 t136 t137 _ A2.out).mono ?_); rintro e w' ⟨rfl, ⟨nd, rfl⟩⟩; (try first | exact ⟨rfl, _, World.drewN_drewN _ _ _⟩ | exact ⟨rfl, _, Eq.trans (World.drewN_drewN _ _ _) (congrArg (World.drewN _) (Nat.add_assoc _ _ _))⟩)))
          repeat (go_quiet (first | (go_at_call 52; (with_reducible refine (interchangeref01_Take.calls k a0 4 t135 t136 t137 _ A2.out).mono ?_); rintro e w' ⟨rfl, ⟨nd, rfl⟩⟩; (try first | exact ⟨rfl, _, World.drewN_drewN _ _ _⟩ | exact ⟨rfl, _, Eq.trans (World.drewN_drewN _ _ _) (congrArg (World.drewN _) (Nat.add_assoc _ _ _))⟩))); try go_wp2_with (first | (go_at_call 52; (with_reducible refine (interchangeref01_Take.calls k a0 4 t135 t136 t137 _ A2.out).mono ?_); rintro e w' ⟨rfl, ⟨nd, rfl⟩⟩; (try first | exact ⟨rfl, _, World.drewN_drewN _ _ _⟩ | exact ⟨rfl, _, Eq.trans (World.drewN_drewN _ _ _) (congrArg (World.drewN _) (Nat.add_assoc _ _ _))⟩))))
          go_ret3
          exact ⟨by first | rfl | (simp; done) | (simp [*]; done), by repeat (first | exact Drawn0.refl _ | apply Drawn0.step)⟩
        · rw [if_neg c6] at H
          exact absurd H (by simp)
      · rw [if_neg c5] at H
        exact absurd H (by simp)
  · rw [if_neg c3] at H
    have c3b0 : (t137 == 0) = false := beq_eq_false_iff_ne.mpr c3
    have c3b1 : (t137 != 0) = true := bne_iff_ne.mpr c3
    simp only [Option.some.injEq, Prod.mk.injEq] at H
    obtain ⟨rfl, rfl, rfl⟩ := H
    go_enter Tryd.func42, Tryd.ntmps42
    go_wp2_with (first | (go_at_call 52; (with_reducible refine (interchangeref01_Take.calls k a0 4 t135 t136 t137 _ A2.out).mono ?_); rintro e w' ⟨rfl, ⟨nd, rfl⟩⟩; (try first | exact ⟨rfl, _, World.drewN_drewN _ _ _⟩ | exact ⟨rfl, _, Eq.trans (World.drewN_drewN _ _ _) (congrArg (World.drewN _) (Nat.add_assoc _ _ _))⟩)))
    repeat (go_quiet (first | (go_at_call 52; (with_reducible refine (interchangeref01_Take.calls k a0 4 t135 t136 t137 _ A2.out).mono ?_); rintro e w' ⟨rfl, ⟨nd, rfl⟩⟩; (try first | exact ⟨rfl, _, World.drewN_drewN _ _ _⟩ | exact ⟨rfl, _, Eq.trans (World.drewN_drewN _ _ _) (congrArg (World.drewN _) (Nat.add_assoc _ _ _))⟩))); try go_wp2_with (first | (go_at_call 52; (with_reducible refine (interchangeref01_Take.calls k a0 4 t135 t136 t137 _ A2.out).mono ?_); rintro e w' ⟨rfl, ⟨nd, rfl⟩⟩; (try first | exact ⟨rfl, _, World.drewN_drewN _ _ _⟩ | exact ⟨rfl, _, Eq.trans (World.drewN_drewN _ _ _) (congrArg (World.drewN _) (Nat.add_assoc _ _ _))⟩))))
    go_ret3
    exact ⟨by first | rfl | (simp; done) | (simp [*]; done), by repeat (first | exact Drawn0.refl _ | apply Drawn0.step)⟩


end Go.Proofs.YthdkmohelampbaaDoor.F
namespace Go.Proofs.YthdkmohelampbaaDoor.F
open Go.RowKit Go.Proofs.YthdkmohelampbaaDoorW.PrintWords Go.Proofs.YthdkmohelampbaaDoorW.PrintLast Go.Proofs.YthdkmohelampbaaDoorW.PrintMore
attribute [local go_sem] max2_int min2_int max_two min_two max_three min_three max_four min_four
set_option linter.unusedVariables false
set_option linter.unusedSimpArgs false

/-! ### interchangeref03_size: function 46 -/
mutual
def interchangeref03_size.j0 : Nat → Int → Bool → Option (Int)
  | 0, _, _ => none
  | k + 1, x0, x14 => if x14 = true then (some 1) else (if x0 = 115 then (interchangeref03_size.j1 k x0 true) else (interchangeref03_size.j1 k x0 (x0 == 117)))
def interchangeref03_size.j1 : Nat → Int → Bool → Option (Int)
  | 0, _, _ => none
  | k + 1, x0, x20 => if x20 = true then (some 2) else (if x0 = 73 then (interchangeref03_size.j2 k x0 true) else (if x0 = 105 then (interchangeref03_size.j2 k x0 true) else (interchangeref03_size.j2 k x0 (x0 == 102))))
def interchangeref03_size.j2 : Nat → Int → Bool → Option (Int)
  | 0, _, _ => none
  | k + 1, x0, x30 => if x30 = true then (some 4) else (if x0 = 68 then (some 5) else (if x0 = 108 then (some 8) else (if x0 = 100 then (some 8) else (if x0 = 84 then (some 8) else (some (-1))))))
end
def interchangeref03_size.f (k : Nat) (a0 : Int) : Option (Int) := if a0 = 86 then (some 0) else (if a0 = 116 then (interchangeref03_size.j0 k a0 true) else (if a0 = 98 then (interchangeref03_size.j0 k a0 true) else (interchangeref03_size.j0 k a0 (a0 == 66))))
theorem interchangeref03_size.mono_l : ∀ k, (∀ y0 y1, LeO (interchangeref03_size.j0 k y0 y1) (interchangeref03_size.j0 (k + 1) y0 y1)) ∧ (∀ y0 y1, LeO (interchangeref03_size.j1 k y0 y1) (interchangeref03_size.j1 (k + 1) y0 y1)) ∧ (∀ y0 y1, LeO (interchangeref03_size.j2 k y0 y1) (interchangeref03_size.j2 (k + 1) y0 y1))
  | 0 => ⟨fun _ _ r h => by simp [interchangeref03_size.j0] at h, fun _ _ r h => by simp [interchangeref03_size.j1] at h, fun _ _ r h => by simp [interchangeref03_size.j2] at h⟩
  | k + 1 => by
    obtain ⟨ih0, ih1, ih2⟩ := interchangeref03_size.mono_l k
    refine ⟨?_, ?_, ?_⟩
    · intro y0 y1
      unfold interchangeref03_size.j0
      repeat' first
      | (with_reducible exact ih0 _ _)
      | (with_reducible exact ih1 _ _)
      | (with_reducible exact ih2 _ _)
      | (with_reducible exact LeO.refl _)
      | (with_reducible exact LeO.none _)
      | (with_reducible refine LeO.ite ?_ ?_)
      | (with_reducible refine LeO.bind ?_ (fun _ => ?_))
      | exact ih0 _ _
      | exact ih1 _ _
      | exact ih2 _ _
      | exact LeO.none _
      | refine LeO.ite ?_ ?_
      | refine LeO.bind ?_ (fun _ => ?_)
    · intro y0 y1
      unfold interchangeref03_size.j1
      repeat' first
      | (with_reducible exact ih0 _ _)
      | (with_reducible exact ih1 _ _)
      | (with_reducible exact ih2 _ _)
      | (with_reducible exact LeO.refl _)
      | (with_reducible exact LeO.none _)
      | (with_reducible refine LeO.ite ?_ ?_)
      | (with_reducible refine LeO.bind ?_ (fun _ => ?_))
      | exact ih0 _ _
      | exact ih1 _ _
      | exact ih2 _ _
      | exact LeO.none _
      | refine LeO.ite ?_ ?_
      | refine LeO.bind ?_ (fun _ => ?_)
    · intro y0 y1
      unfold interchangeref03_size.j2
      repeat' first
      | (with_reducible exact ih0 _ _)
      | (with_reducible exact ih1 _ _)
      | (with_reducible exact ih2 _ _)
      | (with_reducible exact LeO.refl _)
      | (with_reducible exact LeO.none _)
      | (with_reducible refine LeO.ite ?_ ?_)
      | (with_reducible refine LeO.bind ?_ (fun _ => ?_))
      | exact ih0 _ _
      | exact ih1 _ _
      | exact ih2 _ _
      | exact LeO.none _
      | refine LeO.ite ?_ ?_
      | refine LeO.bind ?_ (fun _ => ?_)
theorem interchangeref03_size.mono : ∀ a0 k, LeO (interchangeref03_size.f k a0) (interchangeref03_size.f (k + 1) a0) := by
  intro a0 k
  obtain ⟨ih0, ih1, ih2⟩ := interchangeref03_size.mono_l k
  unfold interchangeref03_size.f
  repeat' first
      | (with_reducible exact ih0 _ _)
      | (with_reducible exact ih1 _ _)
      | (with_reducible exact ih2 _ _)
      | (with_reducible exact LeO.refl _)
      | (with_reducible exact LeO.none _)
      | (with_reducible refine LeO.ite ?_ ?_)
      | (with_reducible refine LeO.bind ?_ (fun _ => ?_))
      | exact ih0 _ _
      | exact ih1 _ _
      | exact ih2 _ _
      | exact LeO.none _
      | refine LeO.ite ?_ ?_
      | refine LeO.bind ?_ (fun _ => ?_)
set_option maxHeartbeats 8000000 in
set_option maxRecDepth 100000 in
theorem interchangeref03_size.calls (k : Nat) (a0 : Int) (r : Int) (w : World) (h : interchangeref03_size.f k a0 = some r) :
    Calls Tryd.prog 46 #[.int .u8 a0] w fun e w' => e = .returned (.int .i64 r) ∧ Drawn0 w w' := by
  have H : (if a0 = 86 then (some 0) else (if a0 = 116 then (interchangeref03_size.j0 k a0 true) else (if a0 = 98 then (interchangeref03_size.j0 k a0 true) else (interchangeref03_size.j0 k a0 (a0 == 66))))) = some r := h
  clear h
  by_cases c2 : a0 = 86
  · rw [if_pos c2] at H
    have c2b0 : (a0 == 86) = true := beq_iff_eq.mpr c2
    have c2b1 : (a0 != 86) = false := bne_eq_false_iff_eq.mpr c2
    clear c2
    obtain rfl := Option.some.inj H
    go_enter Tryd.func46, Tryd.ntmps46
    go_wp2
    go_ret
    exact ⟨by first | rfl | (simp; done) | (simp [*]; done), by repeat (first | exact Drawn0.refl _ | apply Drawn0.step)⟩
  · rw [if_neg c2] at H
    have c2b0 : (a0 == 86) = false := beq_eq_false_iff_ne.mpr c2
    have c2b1 : (a0 != 86) = true := bne_iff_ne.mpr c2
    have HC3 := Aside0.mk H
    clear H
    go_enter Tryd.func46, Tryd.ntmps46
    go_upto_region 3 with (fail)
    go_cut [14] (fun v14 wc => ∃ (kq : Nat) (x14_2 : Bool), v14 = .bool x14_2 ∧ Aside0 (interchangeref03_size.j0 kq a0 x14_2 = some r) ∧ Aside0 (kq ≤ k) ∧ Drawn0 w wc)
    case first =>
      have H := HC3.out
      clear HC3
      by_cases c4 : a0 = 116
      · rw [if_pos c4] at H
        have c4b0 : (a0 == 116) = true := beq_iff_eq.mpr c4
        have c4b1 : (a0 != 116) = false := bne_eq_false_iff_eq.mpr c4
        clear c4
        (first | rw [c4b0] | (simp only [i64_w, i32_w]; rw [c4b0]) | skip)
        have H' := Aside0.mk H
        clear H
        go_wp2
        go_meet
        case rel => exact ⟨_, (true), (by first | rfl | (simp; done) | (simp [*]; done)), H', ⟨by first | omega | exact Nat.le_refl _⟩, by repeat (first | exact Drawn0.refl _ | apply Drawn0.step)⟩
      · rw [if_neg c4] at H
        have c4b0 : (a0 == 116) = false := beq_eq_false_iff_ne.mpr c4
        have c4b1 : (a0 != 116) = true := bne_iff_ne.mpr c4
        (first | rw [c4b0] | (simp only [i64_w, i32_w]; rw [c4b0]) | skip)
        by_cases c5 : a0 = 98
        · rw [if_pos c5] at H
          have c5b0 : (a0 == 98) = true := beq_iff_eq.mpr c5
          have c5b1 : (a0 != 98) = false := bne_eq_false_iff_eq.mpr c5
          clear c5
          have H' := Aside0.mk H
          clear H
          go_wp2
          go_meet
          case rel => exact ⟨_, (true), (by first | rfl | (simp; done) | (simp [*]; done)), H', ⟨by first | omega | exact Nat.le_refl _⟩, by repeat (first | exact Drawn0.refl _ | apply Drawn0.step)⟩
        · rw [if_neg c5] at H
          have c5b0 : (a0 == 98) = false := beq_eq_false_iff_ne.mpr c5
          have c5b1 : (a0 != 98) = true := bne_iff_ne.mpr c5
          have H' := Aside0.mk H
          clear H
          go_wp2
          go_meet
          case rel => exact ⟨_, ((a0 == 66)), (by first | rfl | (simp; done) | (simp [*]; done)), H', ⟨by first | omega | exact Nat.le_refl _⟩, by repeat (first | exact Drawn0.refl _ | apply Drawn0.step)⟩
    case rest =>
      clear HC3
      try clear c2
      try clear c2b0
      try clear c2b1
      try clear p2
      try clear c4
      try clear c4b0
      try clear c4b1
      try clear c5
      try clear c5b0
      try clear c5b1
      obtain ⟨kq, x14_2, rfl, HA, HJ2, ⟨mc2, rfl⟩⟩ := hcut
      cases kq with
      | zero => exact absurd HA.out (by simp [interchangeref03_size.j0])
      | succ kj2 =>
        have H := HA.out
        clear HA
        simp only [interchangeref03_size.j0] at H
        by_cases c6 : x14_2 = true
        · subst c6
          have H1 : (some 1) = some r := by rw [if_pos rfl] at H; exact H
          clear H
          have H := H1
          clear H1
          obtain rfl := Option.some.inj H
          go_wp2
          go_ret
          exact ⟨by first | rfl | (simp; done) | (simp [*]; done), by repeat (first | exact Drawn0.refl _ | apply Drawn0.step)⟩
        · replace c6 := Bool.eq_false_iff.mpr c6
          subst c6
          have H1 : (if a0 = 115 then (interchangeref03_size.j1 kj2 a0 true) else (interchangeref03_size.j1 kj2 a0 (a0 == 117))) = some r := by rw [if_neg (show ¬ (false = true) by decide)] at H; exact H
          clear H
          have H := H1
          clear H1
          have HC7 := Aside0.mk H
          clear H
          go_upto_region 5 with (fail)
          go_cut [20] (fun v20 wc => ∃ (kq : Nat) (x20_6 : Bool), v20 = .bool x20_6 ∧ Aside0 (interchangeref03_size.j1 kq a0 x20_6 = some r) ∧ Aside0 (kq ≤ kj2) ∧ Drawn0 w wc)
          case first =>
            have H := HC7.out
            clear HC7
            by_cases c8 : a0 = 115
            · rw [if_pos c8] at H
              have c8b0 : (a0 == 115) = true := beq_iff_eq.mpr c8
              have c8b1 : (a0 != 115) = false := bne_eq_false_iff_eq.mpr c8
              clear c8
              (first | rw [c8b0] | (simp only [i64_w, i32_w]; rw [c8b0]) | skip)
              have H' := Aside0.mk H
              clear H
              go_wp2
              go_meet
              case rel => exact ⟨_, (true), (by first | rfl | (simp; done) | (simp [*]; done)), H', ⟨by have := HJ2.out; first | omega | exact Nat.le_refl _⟩, by repeat (first | exact Drawn0.refl _ | apply Drawn0.step)⟩
            · rw [if_neg c8] at H
              have c8b0 : (a0 == 115) = false := beq_eq_false_iff_ne.mpr c8
              have c8b1 : (a0 != 115) = true := bne_iff_ne.mpr c8
              (first | rw [c8b0] | (simp only [i64_w, i32_w]; rw [c8b0]) | skip)
              have H' := Aside0.mk H
              clear H
              go_wp2
              go_meet
              case rel => exact ⟨_, ((a0 == 117)), (by first | rfl | (simp; done) | (simp [*]; done)), H', ⟨by have := HJ2.out; first | omega | exact Nat.le_refl _⟩, by repeat (first | exact Drawn0.refl _ | apply Drawn0.step)⟩
          case rest =>
            clear HC7
            try clear c2
            try clear c2b0
            try clear c2b1
            try clear p2
            try clear c4
            try clear c4b0
            try clear c4b1
            try clear c5
            try clear c5b0
            try clear c5b1
            try clear c6
            try clear c8
            try clear c8b0
            try clear c8b1
            try clear p2
            obtain ⟨kq, x20_6, rfl, HA, HJ6, ⟨mc6, rfl⟩⟩ := hcut
            cases kq with
            | zero => exact absurd HA.out (by simp [interchangeref03_size.j1])
            | succ kj6 =>
              have H := HA.out
              clear HA
              simp only [interchangeref03_size.j1] at H
              by_cases c9 : x20_6 = true
              · subst c9
                have H1 : (some 2) = some r := by rw [if_pos rfl] at H; exact H
                clear H
                have H := H1
                clear H1
                obtain rfl := Option.some.inj H
                go_wp2
                go_ret
                exact ⟨by first | rfl | (simp; done) | (simp [*]; done), by repeat (first | exact Drawn0.refl _ | apply Drawn0.step)⟩
              · replace c9 := Bool.eq_false_iff.mpr c9
                subst c9
                have H1 : (if a0 = 73 then (interchangeref03_size.j2 kj6 a0 true) else (if a0 = 105 then (interchangeref03_size.j2 kj6 a0 true) else (interchangeref03_size.j2 kj6 a0 (a0 == 102)))) = some r := by rw [if_neg (show ¬ (false = true) by decide)] at H; exact H
                clear H
                have H := H1
                clear H1
                have HC10 := Aside0.mk H
                clear H
                go_upto_region 7 with (fail)
                go_cut [30] (fun v30 wc => ∃ (kq : Nat) (x30_9 : Bool), v30 = .bool x30_9 ∧ Aside0 (interchangeref03_size.j2 kq a0 x30_9 = some r) ∧ Aside0 (kq ≤ kj6) ∧ Drawn0 w wc)
                case first =>
                  have H := HC10.out
                  clear HC10
                  by_cases c11 : a0 = 73
                  · rw [if_pos c11] at H
                    have c11b0 : (a0 == 73) = true := beq_iff_eq.mpr c11
                    have c11b1 : (a0 != 73) = false := bne_eq_false_iff_eq.mpr c11
                    clear c11
                    (first | rw [c11b0] | (simp only [i64_w, i32_w]; rw [c11b0]) | skip)
                    have H' := Aside0.mk H
                    clear H
                    go_wp2
                    go_meet
                    case rel => exact ⟨_, (true), (by first | rfl | (simp; done) | (simp [*]; done)), H', ⟨by have := HJ2.out; have := HJ6.out; first | omega | exact Nat.le_refl _⟩, by repeat (first | exact Drawn0.refl _ | apply Drawn0.step)⟩
                  · rw [if_neg c11] at H
                    have c11b0 : (a0 == 73) = false := beq_eq_false_iff_ne.mpr c11
                    have c11b1 : (a0 != 73) = true := bne_iff_ne.mpr c11
                    (first | rw [c11b0] | (simp only [i64_w, i32_w]; rw [c11b0]) | skip)
                    by_cases c12 : a0 = 105
                    · rw [if_pos c12] at H
                      have c12b0 : (a0 == 105) = true := beq_iff_eq.mpr c12
                      have c12b1 : (a0 != 105) = false := bne_eq_false_iff_eq.mpr c12
                      clear c12
                      have H' := Aside0.mk H
                      clear H
                      go_wp2
                      go_meet
                      case rel => exact ⟨_, (true), (by first | rfl | (simp; done) | (simp [*]; done)), H', ⟨by have := HJ2.out; have := HJ6.out; first | omega | exact Nat.le_refl _⟩, by repeat (first | exact Drawn0.refl _ | apply Drawn0.step)⟩
                    · rw [if_neg c12] at H
                      have c12b0 : (a0 == 105) = false := beq_eq_false_iff_ne.mpr c12
                      have c12b1 : (a0 != 105) = true := bne_iff_ne.mpr c12
                      have H' := Aside0.mk H
                      clear H
                      go_wp2
                      go_meet
                      case rel => exact ⟨_, ((a0 == 102)), (by first | rfl | (simp; done) | (simp [*]; done)), H', ⟨by have := HJ2.out; have := HJ6.out; first | omega | exact Nat.le_refl _⟩, by repeat (first | exact Drawn0.refl _ | apply Drawn0.step)⟩
                case rest =>
                  clear HC10
                  try clear c1
                  try clear c2
                  try clear c2b0
                  try clear c2b1
                  try clear p2
                  try clear c4
                  try clear c4b0
                  try clear c4b1
                  try clear c5
                  try clear c5b0
                  try clear c5b1
                  try clear c6
                  try clear c8
                  try clear c8b0
                  try clear c8b1
                  try clear c9
                  try clear c11
                  try clear c11b0
                  try clear c11b1
                  try clear c12
                  try clear c12b0
                  try clear c12b1
                  try clear p2
                  obtain ⟨kq, x30_9, rfl, HA, HJ9, ⟨mc9, rfl⟩⟩ := hcut
                  cases kq with
                  | zero => exact absurd HA.out (by simp [interchangeref03_size.j2])
                  | succ kj9 =>
                    have H := HA.out
                    clear HA
                    simp only [interchangeref03_size.j2] at H
                    by_cases c13 : x30_9 = true
                    · subst c13
                      have H1 : (some 4) = some r := by rw [if_pos rfl] at H; exact H
                      clear H
                      have H := H1
                      clear H1
                      obtain rfl := Option.some.inj H
                      go_wp2
                      go_ret
                      exact ⟨by first | rfl | (simp; done) | (simp [*]; done), by repeat (first | exact Drawn0.refl _ | apply Drawn0.step)⟩
                    · replace c13 := Bool.eq_false_iff.mpr c13
                      subst c13
                      have H1 : (if a0 = 68 then (some 5) else (if a0 = 108 then (some 8) else (if a0 = 100 then (some 8) else (if a0 = 84 then (some 8) else (some (-1)))))) = some r := by rw [if_neg (show ¬ (false = true) by decide)] at H; exact H
                      clear H
                      have H := H1
                      clear H1
                      by_cases c14 : a0 = 68
                      · rw [if_pos c14] at H
                        have c14b0 : (a0 == 68) = true := beq_iff_eq.mpr c14
                        have c14b1 : (a0 != 68) = false := bne_eq_false_iff_eq.mpr c14
                        clear c14
                        obtain rfl := Option.some.inj H
                        go_wp2
                        go_ret
                        exact ⟨by first | rfl | (simp; done) | (simp [*]; done), by repeat (first | exact Drawn0.refl _ | apply Drawn0.step)⟩
                      · rw [if_neg c14] at H
                        have c14b0 : (a0 == 68) = false := beq_eq_false_iff_ne.mpr c14
                        have c14b1 : (a0 != 68) = true := bne_iff_ne.mpr c14
                        by_cases c15 : a0 = 108
                        · rw [if_pos c15] at H
                          have c15b0 : (a0 == 108) = true := beq_iff_eq.mpr c15
                          have c15b1 : (a0 != 108) = false := bne_eq_false_iff_eq.mpr c15
                          clear c15
                          obtain rfl := Option.some.inj H
                          go_wp2
                          go_ret
                          exact ⟨by first | rfl | (simp; done) | (simp [*]; done), by repeat (first | exact Drawn0.refl _ | apply Drawn0.step)⟩
                        · rw [if_neg c15] at H
                          have c15b0 : (a0 == 108) = false := beq_eq_false_iff_ne.mpr c15
                          have c15b1 : (a0 != 108) = true := bne_iff_ne.mpr c15
                          by_cases c16 : a0 = 100
                          · rw [if_pos c16] at H
                            have c16b0 : (a0 == 100) = true := beq_iff_eq.mpr c16
                            have c16b1 : (a0 != 100) = false := bne_eq_false_iff_eq.mpr c16
                            clear c16
                            obtain rfl := Option.some.inj H
                            go_wp2
                            go_ret
                            exact ⟨by first | rfl | (simp; done) | (simp [*]; done), by repeat (first | exact Drawn0.refl _ | apply Drawn0.step)⟩
                          · rw [if_neg c16] at H
                            have c16b0 : (a0 == 100) = false := beq_eq_false_iff_ne.mpr c16
                            have c16b1 : (a0 != 100) = true := bne_iff_ne.mpr c16
                            by_cases c17 : a0 = 84
                            · rw [if_pos c17] at H
                              have c17b0 : (a0 == 84) = true := beq_iff_eq.mpr c17
                              have c17b1 : (a0 != 84) = false := bne_eq_false_iff_eq.mpr c17
                              clear c17
                              obtain rfl := Option.some.inj H
                              go_wp2
                              go_ret
                              exact ⟨by first | rfl | (simp; done) | (simp [*]; done), by repeat (first | exact Drawn0.refl _ | apply Drawn0.step)⟩
                            · rw [if_neg c17] at H
                              have c17b0 : (a0 == 84) = false := beq_eq_false_iff_ne.mpr c17
                              have c17b1 : (a0 != 84) = true := bne_iff_ne.mpr c17
                              obtain rfl := Option.some.inj H
                              go_wp2
                              go_ret
                              exact ⟨by first | rfl | (simp; done) | (simp [*]; done), by repeat (first | exact Drawn0.refl _ | apply Drawn0.step)⟩


end Go.Proofs.YthdkmohelampbaaDoor.F
namespace Go.Proofs.YthdkmohelampbaaDoor.F
open Go.RowKit Go.Proofs.YthdkmohelampbaaDoorW.PrintWords Go.Proofs.YthdkmohelampbaaDoorW.PrintLast Go.Proofs.YthdkmohelampbaaDoorW.PrintMore
set_option linter.unusedVariables false
set_option linter.unusedSimpArgs false

theorem take_four (s : ByteArray) : (takeR s 4).2.2 = 0 ∨ (takeR s 4).2.2 = 2 := by
  unfold takeR
  rw [if_pos isW4]
  split
  · exact .inr rfl
  · exact .inl rfl
theorem bt_zero (s : ByteArray) (h : 0 < s.size) : bt s 0 = ((s.data.toList.headD 0).toNat : Int) := by
  rw [show (0 : Int) = ((0 : Nat) : Int) from rfl, bt_get s 0 h]
  have : ∀ (l : List UInt8) (hl : 0 < l.length), ((l[0].toNat : Nat) : Int) = ((l.headD 0).toNat : Int) := by
    intro l hl
    cases l with
    | nil => simp at hl
    | cons b r => rfl
  exact this _ _
theorem take_one (s : ByteArray) (h : 0 < s.size) : takeR s 1 = (((s.data.toList.headD 0).toNat : Int), s.extract 1 s.size, 0) := by
  unfold takeR
  rw [if_pos isW1, if_neg (by omega)]
  have : beNum (s.data.toList.take 1) = (s.data.toList.headD 0).toNat := by
    cases e : s.data.toList with
    | nil => rw [← size_list, e] at h; simp at h
    | cons b r => simp [beNum]
  show (((beNum (s.data.toList.take 1) : Nat) : Int), s.extract 1 s.size, (0 : Int)) = _
  rw [this]
theorem rtshort_f (s : ByteArray) (hz : s.size ≤ 4611686018427387904) : interchangeref02_TakeShort.f s = some (ltakeR 1 s) := by
  unfold interchangeref02_TakeShort.f
  by_cases h : s.size = 0
  · rw [if_pos (by omega)]
    have ht : takeR s 1 = (0, ⟨#[]⟩, 2) := by
      unfold takeR
      rw [if_pos isW1, if_pos (by omega)]
    unfold ltakeR
    rw [ht]
    rfl
  · have hp : 0 < s.size := by omega
    have t1 := take_one s hp
    have hv := (s.data.toList.headD 0).toNat_lt
    rw [if_neg (by omega), if_pos (by omega), bt_zero s hp]
    unfold ltakeR
    rw [t1]
    generalize (s.data.toList.headD 0).toNat = v at hv
    have w1 : wrap64 (1 + wrap64 (v : Int)) = ((1 + v : Nat) : Int) := by unfold wrap64; omega
    have hrs : (s.extract 1 s.size).size = s.size - 1 := by rw [extract_drop, toBA_size, List.length_drop, size_list]
    rw [w1]
    simp only
    rw [if_pos trivial, hrs]
    by_cases l : s.size < 1 + v
    · rw [if_pos (by omega), if_neg (by omega)]
    · rw [if_neg (by omega), if_pos (by omega), if_pos (by omega), if_pos (by omega), if_pos (by omega)]
      rw [Int.toNat_natCast, Int.toNat_natCast]
      have a1 : s.extract 1 (1 + v) = (s.extract 1 s.size).extract 0 v := eq_of_list (by
        rw [Lib.extract_data, extract_take, toBA_list, extract_drop, toBA_list]; congr 1; omega)
      have a2 : s.extract (1 + v) s.size = (s.extract 1 s.size).extract v (s.size - 1) := eq_of_list (by
        conv => rhs; rw [← hrs]
        rw [extract_drop, toBA_list, extract_drop, toBA_list, extract_drop, toBA_list, List.drop_drop])
      rw [a1, a2]
/-- a length, and what stands within it -/
theorem rinside_k {k : Nat} (hk : 12 ≤ k) (s : ByteArray) (hz : s.size ≤ 4611686018427387904) : interchangeref03_inside.f k s = some (ltakeR 4 s) := by
  unfold interchangeref03_inside.f
  rw [rtake_k hk, Option.bind_some]
  have hb := (take_bound s 4).1
  have hr := take_rest s 4
  have h4 := take_four s
  unfold ltakeR
  generalize takeR s 4 = t at hb hr h4
  obtain ⟨t1, t2, t3⟩ := t
  simp only at hb hr h4 ⊢
  by_cases e : t3 = 0
  · rw [if_pos e, if_pos e, wrapU (by omega) (by omega)]
    by_cases l : t1 ≤ (t2.size : Int)
    · rw [if_neg (by omega), if_pos hb, if_pos l, if_pos l]
    · rw [if_pos (by omega), if_neg l]
  · rw [if_neg e, if_neg e]
    rcases h4 with h | h
    · exact absurd h e
    · rw [h]
def sizeI (c : Nat) : Int := match sizeU c with | some n => (n : Int) | none => -1
theorem rsize_at (c : UInt8) : interchangeref03_size.f 40 (c.toNat : Int) = some (sizeI c.toNat) := by
  have h : ∀ n : Fin 256, interchangeref03_size.f 40 (n.val : Int) = some (sizeI n.val) := by decide +kernel
  exact h ⟨c.toNat, c.toNat_lt⟩
theorem rsize_k {k : Nat} (hk : 40 ≤ k) (c : UInt8) : interchangeref03_size.f k (c.toNat : Int) = some (sizeI c.toNat) := at_rounds (interchangeref03_size.mono (c.toNat : Int)) hk (rsize_at c)
end Go.Proofs.YthdkmohelampbaaDoor.F
