/- strings.SplitSeq at one blank: the iterator's walk. -/
import Derived.Test.YtoldelpmmlpgjaaDoorFHbox
import Derived.Test.YtoldelpmmlpgjaaDoorFHindex
import Derived.Test.YtoldelpmmlpgjaaDoorFstringsIndex
import Derived.Test.YtoldelpmmlpgjaaDoorFPzeros
namespace Go.Proofs.YtoldelpmmlpgjaaDoor.F
open Go.RowKit Go.Proofs.YtoldelpmmlpgjaaDoorW.PrintWords Go.Proofs.YtoldelpmmlpgjaaDoorW.PrintLast Go.Proofs.YtoldelpmmlpgjaaDoorW.PrintMore
set_option linter.unusedVariables false
set_option linter.unusedSimpArgs false
attribute [local go_sem] Oper.semAt_some

/-! ### what is offered, by definition -/
/-- where the first blank stands -/
def blankAt (s : ByteArray) : Int := Lib.indexByte s.data.toList 32
/-- the first word -/
def wordAt (s : ByteArray) : ByteArray := if blankAt s < 0 then s else s.extract 0 (blankAt s).toNat
/-- what stands behind it -/
def behind (s : ByteArray) : ByteArray := s.extract ((blankAt s).toNat + 1) s.size
def isWord (s word : ByteArray) : Bool := decide (s.toList = word.toList) && decide (word.toList ≠ [])
def offN : Nat → ByteArray → ByteArray → Bool
  | 0, _, _ => false
  | k + 1, s, word => isWord (wordAt s) word || (if blankAt s < 0 then false else offN k (behind s) word)
def offR (s word : ByteArray) : Bool := offN (s.size + 1) s word
theorem blank_lt {s : ByteArray} (h : ¬ blankAt s < 0) : (blankAt s).toNat < s.size := by
  have := (ib_found 32 s.data.toList (by unfold blankAt at h; omega)).1
  rw [size_list] at this
  exact this
theorem behind_size (s : ByteArray) : (behind s).size = s.size - ((blankAt s).toNat + 1) := by unfold behind; rw [extract_drop, toBA_size, List.length_drop, size_list]
theorem offN_fuel (word : ByteArray) : ∀ (k j : Nat) (s : ByteArray), s.size < k → s.size < j → offN k s word = offN j s word := by
  intro k
  induction k with
  | zero => intro j s h; omega
  | succ k ih =>
    intro j s hk hj
    obtain ⟨j, rfl⟩ : ∃ i, j = i + 1 := ⟨j - 1, by omega⟩
    simp only [offN]
    by_cases e : blankAt s < 0
    · rw [if_pos e, if_pos e]
    · have := blank_lt e
      have := behind_size s
      rw [if_neg e, if_neg e, ih j _ (by omega) (by omega)]
theorem offR_eq (s word : ByteArray) : offR s word = (isWord (wordAt s) word || (if blankAt s < 0 then false else offR (behind s) word)) := by
  unfold offR
  conv => lhs; simp only [offN]
  by_cases e : blankAt s < 0
  · rw [if_pos e, if_pos e]
  · have := blank_lt e
    have := behind_size s
    rw [if_neg e, if_neg e, offN_fuel word s.size ((behind s).size + 1) _ (by omega) (by omega)]

theorem splitSeq_calls (s sep : ByteArray) (w : World) :
    Calls Tryd.prog 16 #[.string s, .string sep] w fun e w' =>
      e = .returned (.func (.func 23) #[] #[.pointer (some ⟨w.heap.size + 1, 0, none⟩), .pointer (some ⟨w.heap.size, 0, none⟩), .pointer (some ⟨w.heap.size + 2, 0, none⟩)]) ∧
      w' = ((w.alloc (.cells #[.string s] 9)).alloc (.cells #[.string sep] 9)).alloc (.cells #[.int .i64 0] 3) := by
  go_enter Tryd.func16, Tryd.ntmps16
  go_wp2
  go_ret
  exact ⟨by simp, rfl⟩

/-- What the blocks of a call of Offers hold between two rounds. -/
def OHeld (w0 : World) (n : Nat) (word : ByteArray) (s : ByteArray) (W : World) : Prop :=
  Boxed W n 9 (.string word) ∧ Boxed W (n + 1) 4 (.bool false) ∧ Boxed W (n + 2) 9 (.string s) ∧ Boxed W (n + 3) 9 (.string ⟨#[32]⟩) ∧ Boxed W (n + 4) 3 (.int .i64 0) ∧ Below n w0 W
theorem OHeld.below {w0 : World} {n : Nat} {word s : ByteArray} {W W' : World} (h : OHeld w0 n word s W) (hb : Below W.heap.size W W') : OHeld w0 n word s W' := by
  obtain ⟨h1, h2, h3, h4, h5, h8⟩ := h
  exact ⟨boxed_below h1 hb, boxed_below h2 hb, boxed_below h3 hb, boxed_below h4 hb, boxed_below h5 hb, h8.trans (hb.mono (by have := h1.lt; omega))⟩
theorem OHeld.own {β : Type} {w0 : World} {n B : Nat} {word : ByteArray} (hn : n ≤ w0.heap.size) (hB : n ≤ B) (s : β → ByteArray) : OwnFrom B (fun (x : β) W => OHeld w0 n word (s x) W) := by
  rintro x W W' row ⟨h1, h2, h3, h4, h5, h8⟩ hg hr
  have hr' : ∀ r, row = some r → ∃ o : Obj, W.heap[r]? = some o ∧ o.isCells = false := fun r e => (hr r e).2
  exact ⟨boxed_other h1 hg hr', boxed_other h2 hg hr', boxed_other h3 hg hr', boxed_other h4 hg hr', boxed_other h5 hg hr', ownFrom_below (β := β) hn hB x W W' row h8 hg hr⟩
theorem OHeld.setS {w0 : World} {n : Nat} {word s : ByteArray} {W : World} (h : OHeld w0 n word s W) (s' : ByteArray) : OHeld w0 n word s' (W.setCell ⟨n + 2, 0, none⟩ (.string s')) := by
  obtain ⟨h1, h2, h3, h4, h5, h8⟩ := h
  have hg := grownBy_setCell' W (n + 2) (.string s')
  exact ⟨h1.kept hg (by simp), h2.kept hg (by simp), h3.set _, h4.kept hg (by simp), h5.kept hg (by simp), h8.setCell (p := ⟨n + 2, 0, none⟩) (by simp) _⟩
/-- as yield is called -/
def OJ (w0 : World) (n : Nat) (word : ByteArray) (tot : Bool) (big : Nat) (s : ByteArray) (W : World) : Prop :=
  OHeld w0 n word s W ∧ tot = offR s word ∧ s.size ≤ big
/-- behind the round -/
def OJ2 (w0 : World) (n : Nat) (word : ByteArray) (tot : Bool) (big : Nat) (s : ByteArray) (W : World) : Prop :=
  OHeld w0 n word s W ∧ tot = offR s word ∧ isWord (wordAt s) word = false ∧ s.size ≤ big
/-- at the iterator's end -/
def OE (w0 : World) (n : Nat) (tot : Bool) (W : World) : Prop :=
  Boxed W (n + 1) 4 (.bool false) ∧ tot = false ∧ Below n w0 W
def oencs (s : ByteArray) : Array Value := #[.string (wordAt s)]
set_option maxHeartbeats 4000000 in
set_option maxRecDepth 100000 in
theorem offers_iter (f : Nat) (w0 : World) (n : Nat) (hn : n = w0.heap.size) (word : ByteArray) (tot : Bool) (big : Nat) (hbig : big ≤ 4611686018427387904) (l D : Nat) (hD : n ≤ D) (B : World → Prop) (X : ByteArray → World → Prop) (W1 : World)
    (hB : ∀ W W', KeepsFrom D W W' → B W → B W') (h1 : B W1)
    (hY : ∀ s W, OJ w0 n word tot big s W → B W → YieldAt Fence.wide f Tryd.prog l (oencs s) W fun e W' =>
      (e = .returned (.bool true) ∧ OJ2 w0 n word tot big s W' ∧ B W') ∨ (e = .returned (.bool false) ∧ X s W'))
    (s0 : ByteArray) (h0 : OHeld w0 n word s0 W1) (ht : tot = offR s0 word) (hz : s0.size ≤ big) :
    CallsIn Fence.wide (f + 1) Tryd.prog 23 #[.func (.yield l) #[] #[], .pointer (some ⟨n + 3, 0, none⟩), .pointer (some ⟨n + 2, 0, none⟩), .pointer (some ⟨n + 4, 0, none⟩)] W1
      fun e W' => (∃ v, e = .returned v) ∧ ((OE w0 n tot W' ∧ B W') ∨ ∃ s, X s W') := by
  refine callsIn_of_wp Tryd.func23 rfl trivial ?_ rfl
  simp only [Tryd.ntmps23, List.size_toArray, List.length_cons, List.length_nil, Nat.reduceAdd, Nat.reduceSub, Array.replicate_succ, Array.replicate_zero, List.push_toArray, List.append_toArray, List.nil_append, List.cons_append]
  replace hn := Aside0.mk hn
  have g4 := h0.2.2.2.1.cell
  replace ht := Aside0.mk ht
  have hl1 : (⟨#[32]⟩ : ByteArray).size = 1 := rfl
  gi_wp2
  clear g4
  gi_loopw [] (fun wr => ∃ (s : ByteArray), OHeld w0 n word s wr ∧ tot = offR s word ∧ s.size ≤ big ∧ B wr)
    (fun wr => match wr.cell? ⟨n + 2, 0, none⟩ with | some (.string s) => s.size | _ => 0)
  case atStart =>
    exact ⟨s0, h0, ht.out, hz, h1⟩
  case round =>
    obtain ⟨s, hF, htot, hlen, hBw⟩ := hrel
    have hF' := hF
    obtain ⟨b0, bR, b1, b2, b3, b8⟩ := hF
    have c1 := b1.cell
    have c2 := b2.cell
    have c3 := b3.cell
    have f1 := b1.frozen
    have hix : strings_Index.f s (⟨#[32]⟩ : ByteArray) = some (blankAt s) := rfl
    have hEE := offR_eq s word
    have hYY := fun (W : World) (hw : OHeld w0 n word s W) => hY s W ⟨hw, htot, hlen⟩
    unfold OJ2 oencs wordAt at hYY
    unfold wordAt at hEE
    have HT := Aside0.mk htot
    clear hY ht htot
    have hlt := blank_lt (s := s)
    have hbs := behind_size s
    unfold behind at hbs hEE
    have hge := Lib.indexByte_ge s.data.toList 32
    replace hge : -1 ≤ blankAt s := hge
    generalize hbi : blankAt s = i at hix hYY hEE hlt hbs hge
    have HI := Aside0.mk hix
    have HBI := Aside0.mk hbi
    have HE := Aside0.mk hEE
    have HBS := Aside0.mk hbs
    clear hix hbi hEE hbs
    have hdr : ∀ nd, Below wr.heap.size wr (wr.drewN nd) := fun nd => pw_below_drewN (Below.refl _ _) nd
    by_cases hi : i < 0
    · rw [if_pos hi] at hYY
      gi_wp2_with (refine ⟨trivial, ?_⟩; gi_at_call 22; refine (callsIn_wide.2 (strings_Index.calls s ⟨#[32]⟩ i _ HI.out)).mono ?_; rintro e w' ⟨rfl, ⟨nd, rfl⟩⟩; obtain ⟨yf, yt, ya, yb, hy, hR⟩ := hYY _ (hF'.below (hdr nd)) (hB _ _ (keepsFrom_below (hdr nd)) hBw))
      refine hR.mono ?_
      rintro e W2 (⟨rfl, ⟨hF2, _, hw2, _⟩, hB2⟩ | ⟨rfl, hx⟩)
      · have et : tot = false := by
          rw [HT.out, HE.out, if_pos hi, if_pos hi]
          rw [hw2]; rfl
        have ET := Aside0.mk et
        clear et hw2
        have hf2 := hF2.2.1
        have hf3 := hF2.2.2.2.2.2
        gi_wp2
        go_end0
        exact ⟨⟨_, rfl⟩, .inl ⟨⟨hf2, ET.out, hf3⟩, hB2⟩⟩
      · gi_wp2
        go_end0
        exact ⟨⟨_, rfl⟩, .inr ⟨_, hx⟩⟩
    · obtain ⟨k, rfl⟩ : ∃ k : Nat, i = k := ⟨i.toNat, by omega⟩
      rw [if_neg hi] at hYY
      have hk := hlt hi
      rw [Int.toNat_natCast] at hk
      simp only [Int.toNat_natCast] at hYY
      clear hlt
      gi_wp2_with (refine ⟨trivial, ?_⟩; gi_at_call 22; refine (callsIn_wide.2 (strings_Index.calls s ⟨#[32]⟩ k _ HI.out)).mono ?_; rintro e w' ⟨rfl, ⟨nd, rfl⟩⟩; obtain ⟨yf, yt, ya, yb, hy, hR⟩ := hYY _ (hF'.below (hdr nd)) (hB _ _ (keepsFrom_below (hdr nd)) hBw))
      refine hR.mono ?_
      rintro e W2 (⟨rfl, ⟨hF2, _, hw2, _⟩, hB2⟩ | ⟨rfl, hx⟩)
      · have d1 := hF2.2.2.1.cell
        have d2 := hF2.2.2.1.frozen
        have d3 := hF2.2.2.2.1.cell
        have hS := hF2.setS (s.extract (k + 1) s.size)
        have HW := Aside0.mk hw2
        clear hw2
        gi_wp2
        refine ⟨⟨s.extract (k + 1) s.size, hS, ?_, ?_, hB _ _ ((KeepsOthers.setCell _ _ _).from _) hB2⟩, ?_⟩
        · have hw3 := HW.out
          have hi' : ¬ ((k : Nat) : Int) < 0 := by omega
          rw [HT.out, HE.out, if_neg hi', if_neg hi']
          simp only [Int.toNat_natCast]
          rw [hw3]; rfl
        · have := HBS.out
          simp only [Int.toNat_natCast] at this
          omega
        · have e1 := hS.2.2.1.cell
          have := HBS.out
          simp only [Int.toNat_natCast] at this
          rw [e1, c1]
          show (s.extract (k + 1) s.size).size < s.size
          omega
      · gi_wp2
        refine bodyPost_ret (results_none rfl _ _ _) rfl ?_
        exact ⟨⟨_, rfl⟩, .inr ⟨_, hx⟩⟩
end Go.Proofs.YtoldelpmmlpgjaaDoor.F
