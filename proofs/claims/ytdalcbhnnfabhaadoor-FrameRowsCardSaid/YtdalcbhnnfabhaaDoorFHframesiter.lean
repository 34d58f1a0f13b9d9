/- frame.frames' iterator: the walk of its body. -/
import Derived.Test.YtdalcbhnnfabhaaDoorFHframes
namespace Go.Proofs.YtdalcbhnnfabhaaDoor.F
open Go.RowKit Go.Proofs.YtdalcbhnnfabhaaDoorW.PrintWords Go.Proofs.YtdalcbhnnfabhaaDoorW.PrintLast Go.Proofs.YtdalcbhnnfabhaaDoorW.PrintMore
set_option linter.unusedVariables false
set_option linter.unusedSimpArgs false
attribute [local go_sem] Oper.semAt_some

/-- What the blocks of a call of Split hold between two rounds. -/
def FHeld (w0 : World) (n : Nat) (endv : Value) (most : Int) (pre : List S29) (s : ByteArray) (W : World) : Prop :=
  Boxed W (n + 3) 9 (.string s) ∧ Boxed W (n + 4) 3 (.int .i64 most) ∧ Boxed W (n + 5) 57 endv ∧ Boxed W n 9 (.string ⟨#[]⟩) ∧ Boxed W (n + 1) 24 (.int .i64 0) ∧
    (∃ v, Boxed W (n + 2) 36 v ∧ Kd.R k29 29 W n (fun _ => True) v pre) ∧ Below n w0 W
theorem boxed_below {W W' : World} {B : Nat} {t : TypeId} {v : Value} (h : Boxed W B t v) (hb : Below W.heap.size W W') : Boxed W' B t v := (hb.block B h.lt).trans h
theorem FHeld.below {w0 : World} {n : Nat} {endv : Value} {most : Int} {pre : List S29} {s : ByteArray} {W W' : World} (h : FHeld w0 n endv most pre s W) (hb : Below W.heap.size W W') : FHeld w0 n endv most pre s W' := by
  obtain ⟨h1, h2, h3, h4, h5, ⟨v, h6, h7⟩, h8⟩ := h
  exact ⟨boxed_below h1 hb, boxed_below h2 hb, boxed_below h3 hb, boxed_below h4 hb, boxed_below h5 hb, ⟨v, boxed_below h6 hb, Kd.R_below h7 hb⟩, h8.trans (hb.mono (by have := h1.lt; omega))⟩
theorem R_other {α : Type} {d : Kd α} {e base : Nat} {ok : Nat → Prop} {W W' : World} {v : Value} {xs : List α} (h : d.R e W base ok v xs) {row : Option Nat} (hg : W.grownBy W' row) (hr : ∀ r, row = some r → ∃ o : Obj, W.heap[r]? = some o ∧ o.isCells = false) : d.R e W' base ok v xs := by
  refine Kd.R_mono (Kd.R_grown (Kd.R_bound h) hg fun k hk e => ?_) (fun k hk => hk.1)
  obtain ⟨_, _, _, q, _, cells, hc⟩ := hk
  obtain ⟨o, ho, hn⟩ := hr k e.symm
  rw [hc] at ho; cases ho; cases hn
theorem boxed_other {W W' : World} {B : Nat} {t : TypeId} {v : Value} (h : Boxed W B t v) {row : Option Nat} (hg : W.grownBy W' row) (hr : ∀ r, row = some r → ∃ o : Obj, W.heap[r]? = some o ∧ o.isCells = false) : Boxed W' B t v :=
  h.kept hg fun e => by
    obtain ⟨o, ho, hn⟩ := hr B e.symm
    rw [show W.heap[B]? = _ from h] at ho; cases ho; cases hn
theorem FHeld.own {β : Type} {w0 : World} {n B : Nat} (hn : n ≤ w0.heap.size) (hB : n ≤ B) {endv : Value} {most : Int} (pre : β → List S29) (s : β → ByteArray) : OwnFrom B (fun (x : β) W => FHeld w0 n endv most (pre x) (s x) W) := by
  rintro x W W' row ⟨h1, h2, h3, h4, h5, ⟨v, h6, h7⟩, h8⟩ hg hr
  have hr' : ∀ r, row = some r → ∃ o : Obj, W.heap[r]? = some o ∧ o.isCells = false := fun r e => (hr r e).2
  exact ⟨boxed_other h1 hg hr', boxed_other h2 hg hr', boxed_other h3 hg hr', boxed_other h4 hg hr', boxed_other h5 hg hr', ⟨v, boxed_other h6 hg hr', R_other h7 hg hr'⟩, ownFrom_below (β := β) hn hB x W W' row h8 hg hr⟩
theorem frame_row (q : Nat) (hq : q ∈ 29 :: k29.E) : q = 29 := by
  simpa [k29, Kd.iso, Kd.pair, Kd.int, Kd.scalar, Kd.string] using hq
theorem FHeld.setS {w0 : World} {n : Nat} {endv : Value} {most : Int} {pre : List S29} {s : ByteArray} {W : World} (h : FHeld w0 n endv most pre s W) (s' : ByteArray) : FHeld w0 n endv most pre s' (W.setCell ⟨n + 3, 0, none⟩ (.string s')) := by
  obtain ⟨h1, h2, h3, h4, h5, ⟨v, h6, h7⟩, h8⟩ := h
  have hg := grownBy_setCell' W (n + 3) (.string s')
  exact ⟨h1.set _, h2.kept hg (by simp), h3.kept hg (by simp), h4.kept hg (by simp), h5.kept hg (by simp), ⟨v, h6.kept hg (by simp), Kd.R_set h7 h1 (fun q hq => by rw [frame_row q hq]; decide) 0 _⟩, h8.setCell (p := ⟨n + 3, 0, none⟩) (by simp) _⟩
/-- the end, where more is wanted -/
theorem FHeld.more {w0 : World} {n : Nat} {endv : Value} {most : Int} {pre : List S29} {s : ByteArray} {W : World} (h : FHeld w0 n endv most pre s W) :
    Boxed (W.setCell ⟨n, 0, none⟩ (.string s)) n 9 (.string s) ∧ Boxed (W.setCell ⟨n, 0, none⟩ (.string s)) (n + 1) 24 (.int .i64 0) ∧
    (∃ v, Boxed (W.setCell ⟨n, 0, none⟩ (.string s)) (n + 2) 36 v ∧ Kd.R k29 29 (W.setCell ⟨n, 0, none⟩ (.string s)) n (fun _ => True) v pre) ∧ Below n w0 (W.setCell ⟨n, 0, none⟩ (.string s)) := by
  obtain ⟨h1, h2, h3, h4, h5, ⟨v, h6, h7⟩, h8⟩ := h
  have hg := grownBy_setCell' W n (.string s)
  exact ⟨h4.set _, h5.kept hg (by simp), ⟨v, h6.kept hg (by simp), Kd.R_set h7 h4 (fun q hq => by rw [frame_row q hq]; decide) 0 _⟩, h8.setCell (p := ⟨n, 0, none⟩) (by simp) _⟩
/-- the end, where the bytes are bad -/
theorem FHeld.bad {w0 : World} {n : Nat} {endv : Value} {most : Int} {pre : List S29} {s : ByteArray} {W : World} (h : FHeld w0 n endv most pre s W) (e : Int) :
    Boxed (W.setCell ⟨n + 1, 0, none⟩ (.int .i64 e)) n 9 (.string ⟨#[]⟩) ∧ Boxed (W.setCell ⟨n + 1, 0, none⟩ (.int .i64 e)) (n + 1) 24 (.int .i64 e) ∧
    (∃ v, Boxed (W.setCell ⟨n + 1, 0, none⟩ (.int .i64 e)) (n + 2) 36 v ∧ Kd.R k29 29 (W.setCell ⟨n + 1, 0, none⟩ (.int .i64 e)) n (fun _ => True) v pre) ∧ Below n w0 (W.setCell ⟨n + 1, 0, none⟩ (.int .i64 e)) := by
  obtain ⟨h1, h2, h3, h4, h5, ⟨v, h6, h7⟩, h8⟩ := h
  have hg := grownBy_setCell' W (n + 1) (.int .i64 e)
  exact ⟨h4.kept hg (by simp), h5.set _, ⟨v, h6.kept hg (by simp), Kd.R_set h7 h5 (fun q hq => by rw [frame_row q hq]; decide) 0 _⟩, h8.setCell (p := ⟨n + 1, 0, none⟩) (by simp) _⟩
theorem keepsFrom_below {B : Nat} {W W' : World} (h : Below W.heap.size W W') : KeepsFrom B W W' :=
  ⟨h.size, fun k o _ hk _ => (h.block k (Array.getElem?_eq_some_iff.1 hk).1).trans hk⟩

/-- as yield is called -/
def FJ (w0 : World) (n : Nat) (endv : Value) (most : Int) (tot : Splitted) (big : Nat) (x : List S29 × ByteArray) (W : World) : Prop :=
  FHeld w0 n endv most x.1 x.2 W ∧ (takeL (mostN most) x.2.data.toList).2.2.2.2 = 0 ∧ tot = (x.1 ++ (splitR (mostN most) x.2).1, (splitR (mostN most) x.2).2) ∧ x.1.length + x.2.size ≤ big
/-- behind the round -/
def FJ2 (w0 : World) (n : Nat) (endv : Value) (most : Int) (tot : Splitted) (big : Nat) (x : List S29 × ByteArray) (W : World) : Prop :=
  FHeld w0 n endv most (x.1 ++ [toF (takeL (mostN most) x.2.data.toList)]) x.2 W ∧ (takeL (mostN most) x.2.data.toList).2.2.2.2 = 0 ∧ tot = (x.1 ++ (splitR (mostN most) x.2).1, (splitR (mostN most) x.2).2) ∧ x.1.length + x.2.size ≤ big
/-- at the iterator's end -/
def FE (w0 : World) (n : Nat) (tot : Splitted) (W : World) : Prop :=
  Boxed W n 9 (.string tot.2.1) ∧ Boxed W (n + 1) 24 (.int .i64 tot.2.2) ∧ (∃ v, Boxed W (n + 2) 36 v ∧ Kd.R k29 29 W n (fun _ => True) v tot.1) ∧ Below n w0 W
def fencs (most : Int) (x : List S29 × ByteArray) : Array Value :=
  #[.agg #[.int .i64 (takeL (mostN most) x.2.data.toList).1, .int .i64 (takeL (mostN most) x.2.data.toList).2.1, .string (takeL (mostN most) x.2.data.toList).2.2.1]]
set_option maxHeartbeats 4000000 in
set_option maxRecDepth 100000 in
theorem frames_iter (m : Nat) (w0 : World) (hL : Laid w0) (n : Nat) (hn : n = w0.heap.size) (most : Int) (tot : Splitted) (big : Nat) (hbig : big ≤ 4611686018427387904) (l D : Nat) (hD : n ≤ D) (B : World → Prop) (X : List S29 × ByteArray → World → Prop) (W1 : World)
    (hB : ∀ W W', KeepsFrom D W W' → B W → B W') (h1 : B W1)
    (hY : ∀ s W, FJ w0 n (.func (.func 28) #[] #[.pointer (some ⟨n, 0, none⟩), .pointer (some ⟨n + 1, 0, none⟩)]) most tot big s W → B W → YieldAt Fence.wide m Tryd.prog l (fencs most s) W fun e W' =>
      (e = .returned (.bool true) ∧ FJ2 w0 n (.func (.func 28) #[] #[.pointer (some ⟨n, 0, none⟩), .pointer (some ⟨n + 1, 0, none⟩)]) most tot big s W' ∧ B W') ∨ (e = .returned (.bool false) ∧ X s W'))
    (s0 : ByteArray) (h0 : FHeld w0 n (.func (.func 28) #[] #[.pointer (some ⟨n, 0, none⟩), .pointer (some ⟨n + 1, 0, none⟩)]) most [] s0 W1) (ht : tot = splitR (mostN most) s0) (hz : s0.size ≤ big) :
    CallsIn Fence.wide (m + 1) Tryd.prog 34 #[.func (.yield l) #[] #[], .pointer (some ⟨n + 3, 0, none⟩), .pointer (some ⟨n + 4, 0, none⟩), .pointer (some ⟨n + 5, 0, none⟩)] W1
      fun e W' => (∃ v, e = .returned v) ∧ ((FE w0 n tot W' ∧ B W') ∨ ∃ s, X s W') := by
  refine callsIn_of_wp Tryd.func34 rfl trivial ?_ rfl
  simp only [Tryd.ntmps34, List.size_toArray, List.length_cons, List.length_nil, Nat.reduceAdd, Nat.reduceSub, Array.replicate_succ, Array.replicate_zero, List.push_toArray, List.append_toArray, List.nil_append, List.cons_append]
  gi_wp2
  gi_loopw [] (fun wr => ∃ (pre : List S29) (s : ByteArray), FHeld w0 n (.func (.func 28) #[] #[.pointer (some ⟨n, 0, none⟩), .pointer (some ⟨n + 1, 0, none⟩)]) most pre s wr ∧ tot = (pre ++ (splitR (mostN most) s).1, (splitR (mostN most) s).2) ∧ pre.length + s.size ≤ big ∧ B wr)
    (fun wr => match wr.cell? ⟨n + 3, 0, none⟩ with | some (.string s) => s.size | _ => 0)
  case atStart =>
    exact ⟨[], s0, h0, by rw [ht]; rfl, by simpa using hz, h1⟩
  case round =>
    obtain ⟨pre, s, hF, htot, hlen, hBw⟩ := hrel
    have hF' := hF
    obtain ⟨b1, b2, b3, b4, b5, ⟨v, b6, b7⟩, b8⟩ := hF
    have c1 := b1.cell
    have c2 := b2.cell
    have c3 := b3.cell
    have f1 := b1.frozen
    have f2 := b2.frozen
    have f3 := b3.frozen
    have hTk : ∀ w', w' = wr → Calls Tryd.prog 14 #[.string s, .int .i64 most] w' fun e w'' => e = .returned (.tuple #[.agg #[.int .i64 (takeL (mostN most) s.data.toList).1, .int .i64 (takeL (mostN most) s.data.toList).2.1, .string (takeL (mostN most) s.data.toList).2.2.1], .string (takeL (mostN most) s.data.toList).2.2.2.1, .int .i64 (takeL (mostN most) s.data.toList).2.2.2.2]) ∧ Below w'.heap.size w' w'' := by
      rintro w' rfl
      exact frame_Take.calls 13 s most _ _ _ _ _ w' (hL.below (hn ▸ b8)) (ftake_k (by decide) s (by omega) most)
    have hYY := fun (W : World) (hw : FHeld w0 n (.func (.func 28) #[] #[.pointer (some ⟨n, 0, none⟩), .pointer (some ⟨n + 1, 0, none⟩)]) most pre s W) (he : (takeL (mostN most) s.data.toList).2.2.2.2 = 0) => hY (pre, s) W ⟨hw, he, htot, hlen⟩
    have hEE := splitR_eq (mostN most) s
    have hless := fun h => take_less (M := mostN most) (s := s) h
    unfold FJ2 fencs at hYY
    simp only [] at hYY
    generalize hT : takeL (mostN most) s.data.toList = t at hTk hYY hEE hless
    obtain ⟨t1, t2, t3, t4, t5⟩ := t
    simp only [] at hTk hYY hEE hless
    replace hn := Aside0.mk hn
    replace htot := Aside0.mk htot
    replace hEE := Aside0.mk hEE
    replace hT := Aside0.mk hT
    clear hY
    have hbo : ∀ {w' : World}, Below wr.heap.size wr w' → Below wr.heap.size wr (w'.alloc (.cells #[.int .i64 t1, .int .i64 t2, .string t3] 29)) := fun hb => hb.alloc hb.size _
    have hBB : ∀ {w' : World}, Below wr.heap.size wr w' → B (w'.alloc (.cells #[.int .i64 t1, .int .i64 t2, .string t3] 29)) := fun hb => hB _ _ (keepsFrom_below (hbo hb)) hBw
    clear ht
    by_cases he : t5 = 0
    · subst he
      gi_wp2_with (refine ⟨trivial, ?_⟩; gi_at_call 14; refine (callsIn_wide.2 (hTk _ rfl)).mono ?_; rintro e w' ⟨rfl, hb⟩; obtain ⟨yf, yt, ya, yb, hy, hR⟩ := hYY _ (hF'.below (hbo hb)) rfl (hBB hb))
      refine hR.mono ?_
      rintro e W2 (⟨rfl, ⟨hF2, _, _, _⟩, hB2⟩ | ⟨rfl, hx⟩)
      · have d1 := hF2.1.cell
        have d2 := hF2.1.frozen
        have hS := hF2.setS t4
        gi_wp2
        refine ⟨⟨pre ++ [toF (t1, t2, t3, t4, 0)], t4, hS, ?_, ?_, hB _ _ ((KeepsOthers.setCell _ _ _).from _) hB2⟩, ?_⟩
        · rw [htot.out, hEE.out]; simp
        · have := hless (by trivial)
          rw [List.length_append, List.length_singleton]; omega
        · have := hless (by trivial)
          have e1 := hS.1.cell
          rw [e1, c1]
          show t4.size < s.size
          omega
      · gi_wp2
        refine bodyPost_ret (results_none rfl _ _ _) rfl ?_
        exact ⟨⟨_, rfl⟩, .inr ⟨_, hx⟩⟩
    · have he' : (t5 != 0) = true := by simpa using he
      gi_wp2_with (first | (refine ⟨trivial, ?_⟩; gi_at_call 14; refine (callsIn_wide.2 (hTk _ rfl)).mono ?_; rintro e w' ⟨rfl, hb⟩; have c1' := (boxed_below b1 (hbo hb)).cell; have f1' := (boxed_below b1 (hbo hb)).frozen; have c3' := (boxed_below b3 (hbo hb)).cell; have f3' := (boxed_below b3 (hbo hb)).frozen) | (refine ⟨trivial, ?_⟩; gi_at_call 28; refine (callsIn_wide.2 (splitEnd_calls s t5 n (n + 1) _ _ _ (boxed_below b4 (hbo hb)) (boxed_below b5 (hbo hb)))).mono ?_; rintro e w2 ⟨⟨v2, rfl⟩, hw2⟩; replace hw2 := Aside0.mk hw2))
      refine bodyPost_ret (results_none rfl _ _ _) rfl ?_
      have hFa := hF'.below (hbo hb)
      have hBa := hBB hb
      refine ⟨⟨_, rfl⟩, .inl ?_⟩
      have hw3 := hw2.out
      by_cases e2 : t5 = 2
      · rw [if_pos e2] at hw3
        subst hw3
        have et : tot = (pre, s, 0) := by rw [htot.out, hEE.out, if_neg he, if_pos e2]; simp
        rw [et]
        exact ⟨hFa.more, hB _ _ ((KeepsOthers.setCell _ _ _).from _) hBa⟩
      · rw [if_neg e2] at hw3
        subst hw3
        have et : tot = (pre, ⟨#[]⟩, t5) := by rw [htot.out, hEE.out, if_neg he, if_neg e2]; simp
        rw [et]
        exact ⟨hFa.bad t5, hB _ _ ((KeepsOthers.setCell _ _ _).from _) hBa⟩
end Go.Proofs.YtdalcbhnnfabhaaDoor.F
