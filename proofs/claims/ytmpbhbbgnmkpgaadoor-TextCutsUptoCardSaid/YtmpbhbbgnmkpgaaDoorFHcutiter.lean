/- text.pieces' iterator: the walk of its body. -/
import Derived.Test.YtmpbhbbgnmkpgaaDoorFHbox
import Derived.Test.YtmpbhbbgnmkpgaaDoorFPback
namespace Go.Proofs.YtmpbhbbgnmkpgaaDoor.F
open Go.RowKit Go.Proofs.YtmpbhbbgnmkpgaaDoorW.PrintWords Go.Proofs.YtmpbhbbgnmkpgaaDoorW.PrintLast Go.Proofs.YtmpbhbbgnmkpgaaDoorW.PrintMore
set_option linter.unusedVariables false
set_option linter.unusedSimpArgs false
attribute [local go_sem] Oper.semAt_some max2_int min2_int max_two min_two

/-! ### what is cut, by definition -/
def cutN (m : Nat) : Nat → ByteArray → List ByteArray
  | 0, _ => []
  | k + 1, s => if s.size = 0 then [] else s.extract 0 (min m s.size) :: cutN m k (s.extract (min m s.size) s.size)
def cutR (m : Nat) (s : ByteArray) : List ByteArray := cutN m s.size s
theorem rest_size (s : ByteArray) (k : Nat) : (s.extract k s.size).size = s.size - k := by rw [extract_drop, toBA_size, List.length_drop, size_list]
theorem cutN_fuel (m : Nat) (hm : 1 ≤ m) : ∀ (k j : Nat) (s : ByteArray), s.size ≤ k → s.size ≤ j → cutN m k s = cutN m j s := by
  intro k
  induction k with
  | zero => intro j s h _; cases j with
    | zero => rfl
    | succ j => simp only [cutN]; rw [if_pos (by omega)]
  | succ k ih =>
    intro j s hk hj
    cases j with
    | zero => simp only [cutN]; rw [if_pos (by omega)]
    | succ j =>
      simp only [cutN]
      by_cases e : s.size = 0
      · rw [if_pos e, if_pos e]
      · rw [if_neg e, if_neg e, ih j _ (by rw [rest_size]; omega) (by rw [rest_size]; omega)]
theorem cutR_eq {m : Nat} (hm : 1 ≤ m) (s : ByteArray) : cutR m s = if s.size = 0 then [] else s.extract 0 (min m s.size) :: cutR m (s.extract (min m s.size) s.size) := by
  by_cases e : s.size = 0
  · rw [if_pos e]; unfold cutR; rw [e]; rfl
  · rw [if_neg e]
    unfold cutR
    obtain ⟨k, hk⟩ : ∃ k, s.size = k + 1 := ⟨s.size - 1, by omega⟩
    rw [cutN_fuel m hm s.size (k + 1) s (Nat.le_refl _) (by omega)]
    conv => lhs; simp only [cutN]
    rw [if_neg e]
    rw [cutN_fuel m hm k _ _ (by rw [rest_size]; omega) (Nat.le_refl _)]

theorem pieces_calls (s : ByteArray) (n : Int) (w : World) :
    Calls Tryd.prog 31 #[.string s, .int .i64 n] w fun e w' =>
      e = .returned (.func (.func 39) #[] #[.pointer (some ⟨w.heap.size, 0, none⟩), .pointer (some ⟨w.heap.size + 1, 0, none⟩)]) ∧
      w' = (w.alloc (.cells #[.string s] 9)).alloc (.cells #[.int .i64 n] 3) := by
  go_enter Tryd.func31, Tryd.ntmps31
  go_wp2
  go_ret
  exact ⟨by simp, rfl⟩

/-- What the blocks of a call of Cut hold between two rounds. -/
def CHeld (w0 : World) (n : Nat) (m : Nat) (pre : List ByteArray) (s : ByteArray) (W : World) : Prop :=
  Boxed W (n + 1) 9 (.string s) ∧ Boxed W (n + 2) 3 (.int .i64 m) ∧ (∃ v, Boxed W n 28 v ∧ W.ownsRow (n + 3) 9 1 v pre.length (pre.map Value.string)) ∧ Below n w0 W
theorem CHeld.below {w0 : World} {n m : Nat} {pre : List ByteArray} {s : ByteArray} {W W' : World} (h : CHeld w0 n m pre s W) (hb : Below W.heap.size W W') : CHeld w0 n m pre s W' := by
  obtain ⟨h1, h2, ⟨v, h6, h7⟩, h8⟩ := h
  exact ⟨boxed_below h1 hb, boxed_below h2 hb, ⟨v, boxed_below h6 hb, row_below h7 hb⟩, h8.trans (hb.mono (by have := h1.lt; omega))⟩
theorem CHeld.own {β : Type} {w0 : World} {n B m : Nat} (hn : n ≤ w0.heap.size) (hB : n ≤ B) (pre : β → List ByteArray) (s : β → ByteArray) : OwnFrom B (fun (x : β) W => CHeld w0 n m (pre x) (s x) W) := by
  rintro x W W' row ⟨h1, h2, ⟨v, h6, h7⟩, h8⟩ hg hr
  have hr' : ∀ r, row = some r → ∃ o : Obj, W.heap[r]? = some o ∧ o.isCells = false := fun r e => (hr r e).2
  exact ⟨boxed_other h1 hg hr', boxed_other h2 hg hr', ⟨v, boxed_other h6 hg hr', row_other h7 hg hr'⟩, ownFrom_below (β := β) hn hB x W W' row h8 hg hr⟩
theorem CHeld.setS {w0 : World} {n m : Nat} {pre : List ByteArray} {s : ByteArray} {W : World} (h : CHeld w0 n m pre s W) (s' : ByteArray) : CHeld w0 n m pre s' (W.setCell ⟨n + 1, 0, none⟩ (.string s')) := by
  obtain ⟨h1, h2, ⟨v, h6, h7⟩, h8⟩ := h
  have hg := grownBy_setCell' W (n + 1) (.string s')
  exact ⟨h1.set _, h2.kept hg (by simp), ⟨v, h6.kept hg (by simp), h7.kept hg (.inr (row_ne h7 (by omega)).symm)⟩, h8.setCell (p := ⟨n + 1, 0, none⟩) (by simp) _⟩

/-- the next piece -/
def pieceAt (m : Nat) (s : ByteArray) : ByteArray := s.extract 0 (min m s.size)
/-- as yield is called -/
def CJ (w0 : World) (n : Nat) (m : Nat) (tot : List ByteArray) (big : Nat) (x : List ByteArray × ByteArray) (W : World) : Prop :=
  CHeld w0 n m x.1 x.2 W ∧ x.2.size ≠ 0 ∧ tot = x.1 ++ cutR m x.2 ∧ x.1.length + x.2.size ≤ big
/-- behind the round -/
def CJ2 (w0 : World) (n : Nat) (m : Nat) (tot : List ByteArray) (big : Nat) (x : List ByteArray × ByteArray) (W : World) : Prop :=
  CHeld w0 n m (x.1 ++ [pieceAt m x.2]) x.2 W ∧ x.2.size ≠ 0 ∧ tot = x.1 ++ cutR m x.2 ∧ x.1.length + x.2.size ≤ big
/-- at the iterator's end -/
def CE (w0 : World) (n : Nat) (tot : List ByteArray) (W : World) : Prop :=
  (∃ v, Boxed W n 28 v ∧ W.ownsRow (n + 3) 9 1 v tot.length (tot.map Value.string)) ∧ Below n w0 W
def cencs (m : Nat) (x : List ByteArray × ByteArray) : Array Value := #[.string (pieceAt m x.2)]
set_option maxHeartbeats 4000000 in
set_option maxRecDepth 100000 in
theorem pieces_iter (f : Nat) (w0 : World) (n : Nat) (hn : n = w0.heap.size) (m : Nat) (hm1 : 1 ≤ m) (hm2 : m ≤ 9223372036854775807) (tot : List ByteArray) (big : Nat) (hbig : big ≤ 4611686018427387904) (l D : Nat) (hD : n ≤ D) (B : World → Prop) (X : List ByteArray × ByteArray → World → Prop) (W1 : World)
    (hB : ∀ W W', KeepsFrom D W W' → B W → B W') (h1 : B W1)
    (hY : ∀ s W, CJ w0 n m tot big s W → B W → YieldAt Fence.wide f Tryd.prog l (cencs m s) W fun e W' =>
      (e = .returned (.bool true) ∧ CJ2 w0 n m tot big s W' ∧ B W') ∨ (e = .returned (.bool false) ∧ X s W'))
    (s0 : ByteArray) (h0 : CHeld w0 n m [] s0 W1) (ht : tot = cutR m s0) (hz : s0.size ≤ big) :
    CallsIn Fence.wide (f + 1) Tryd.prog 39 #[.func (.yield l) #[] #[], .pointer (some ⟨n + 1, 0, none⟩), .pointer (some ⟨n + 2, 0, none⟩)] W1
      fun e W' => (∃ v, e = .returned v) ∧ ((CE w0 n tot W' ∧ B W') ∨ ∃ s, X s W') := by
  refine callsIn_of_wp Tryd.func39 rfl trivial ?_ rfl
  simp only [Tryd.ntmps39, List.size_toArray, List.length_cons, List.length_nil, Nat.reduceAdd, Nat.reduceSub, Array.replicate_succ, Array.replicate_zero, List.push_toArray, List.append_toArray, List.nil_append, List.cons_append]
  gi_wp2
  gi_loopw [] (fun wr => ∃ (pre : List ByteArray) (s : ByteArray), CHeld w0 n m pre s wr ∧ tot = pre ++ cutR m s ∧ pre.length + s.size ≤ big ∧ B wr)
    (fun wr => match wr.cell? ⟨n + 1, 0, none⟩ with | some (.string s) => s.size | _ => 0)
  case atStart =>
    exact ⟨[], s0, h0, by rw [ht]; rfl, by simpa using hz, h1⟩
  case round =>
    obtain ⟨pre, s, hF, htot, hlen, hBw⟩ := hrel
    have hF' := hF
    obtain ⟨b1, b2, ⟨v, b6, b7⟩, b8⟩ := hF
    have c1 := b1.cell
    have c2 := b2.cell
    have f1 := b1.frozen
    have f2 := b2.frozen
    have hYY := fun (W : World) (hw : CHeld w0 n m pre s W) (he : s.size ≠ 0) => hY (pre, s) W ⟨hw, he, htot, hlen⟩
    have hEE := cutR_eq hm1 s
    unfold CJ2 cencs pieceAt at hYY
    simp only [] at hYY
    replace hn := Aside0.mk hn
    replace htot := Aside0.mk htot
    replace hEE := Aside0.mk hEE
    clear hY ht
    by_cases he : s.size = 0
    · have hs0 : s = ⟨#[]⟩ := eq_of_list (List.length_eq_zero_iff.1 (by rw [size_list]; exact he))
      subst hs0
      have hne : ((⟨#[]⟩ : ByteArray).toList != ([] : List UInt8)) = false := by rw [toList_data]; rfl
      gi_wp2
      go_end0
      have et : tot = pre := by rw [htot.out, hEE.out, if_pos he, List.append_nil]
      rw [et]
      exact ⟨⟨_, rfl⟩, .inl ⟨⟨⟨v, b6, b7⟩, b8⟩, hBw⟩⟩
    · have hne : (s.toList != ([] : List UInt8)) = true := by
        rw [bne_iff_ne]; intro h; apply he; rw [← size_list, ← toList_data, h]; rfl
      have hne2 : (!s.toList.isEmpty) = true := by
        rw [toList_data]
        cases h : s.data.toList with
        | nil => exact absurd (by rw [← size_list, h]; rfl) he
        | cons _ _ => rfl
      by_cases hsm : s.size < m
      · have hmn : min m s.size = s.size := Nat.min_eq_right (by omega)
        have hes : s.extract 0 s.size = s := by rw [extract_take, List.take_of_length_le (by rw [size_list]; omega), ← toBA_of]
        rw [hmn, hes] at hYY
        rw [hmn, hes] at hEE
        obtain ⟨yf, yt, ya, yb, hy, hR⟩ := hYY _ hF' he hBw
        clear hYY hmn hes
        gi_wp2
        refine hR.mono ?_
        rintro e W2 (⟨rfl, ⟨hF2, _, _, _⟩, hB2⟩ | ⟨rfl, hx⟩)
        · have d1 := hF2.1.cell
          have d2 := hF2.1.frozen
          have hS := hF2.setS (s.extract s.size s.size)
          gi_wp2
          have hse : s.extract s.size s.size = ByteArray.empty := eq_of_list (by rw [extract_drop, toBA_list, List.drop_of_length_le (by rw [size_list]; omega)]; rfl)
          rw [hse] at hS hEE
          refine ⟨⟨pre ++ [s], ByteArray.empty, hS, ?_, ?_, hB _ _ ((KeepsOthers.setCell _ _ _).from _) hB2⟩, ?_⟩
          · rw [htot.out, hEE.out, if_neg he]; simp
          · rw [List.length_append, List.length_singleton]
            show pre.length + 1 + 0 ≤ big
            omega
          · have e1 := hS.1.cell
            rw [e1, c1]
            show 0 < s.size
            omega
        · gi_wp2
          refine bodyPost_ret (results_none rfl _ _ _) rfl ?_
          exact ⟨⟨_, rfl⟩, .inr ⟨_, hx⟩⟩
      · have hmn : min m s.size = m := Nat.min_eq_left (by omega)
        rw [hmn] at hYY
        rw [hmn] at hEE
        obtain ⟨yf, yt, ya, yb, hy, hR⟩ := hYY _ hF' he hBw
        clear hYY hmn
        gi_wp2
        refine hR.mono ?_
        rintro e W2 (⟨rfl, ⟨hF2, _, _, _⟩, hB2⟩ | ⟨rfl, hx⟩)
        · have d1 := hF2.1.cell
          have d2 := hF2.1.frozen
          have hS := hF2.setS (s.extract m s.size)
          gi_wp2
          refine ⟨⟨pre ++ [s.extract 0 m], s.extract m s.size, hS, ?_, ?_, hB _ _ ((KeepsOthers.setCell _ _ _).from _) hB2⟩, ?_⟩
          · rw [htot.out, hEE.out, if_neg he]; simp
          · rw [List.length_append, List.length_singleton, rest_size]; omega
          · have e1 := hS.1.cell
            rw [e1, c1]
            show (s.extract m s.size).size < s.size
            rw [rest_size]; omega
        · gi_wp2
          refine bodyPost_ret (results_none rfl _ _ _) rfl ?_
          exact ⟨⟨_, rfl⟩, .inr ⟨_, hx⟩⟩
end Go.Proofs.YtmpbhbbgnmkpgaaDoor.F
