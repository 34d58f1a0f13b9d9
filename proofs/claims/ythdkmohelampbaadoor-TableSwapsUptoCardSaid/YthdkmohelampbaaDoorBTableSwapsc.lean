/- Texts of this session for the law TableSwaps, one behind the other: Hrefval, interchangeref03table, interchangeref03Deep. -/
import Derived.Test.YthdkmohelampbaaDoorBTableSwapsa
import Derived.Test.YthdkmohelampbaaDoorBTableSwapsb
namespace Go.Proofs.YthdkmohelampbaaDoor.F
open Go.RowKit Go.Proofs.YthdkmohelampbaaDoorW.PrintWords Go.Proofs.YthdkmohelampbaaDoorW.PrintLast Go.Proofs.YthdkmohelampbaaDoorW.PrintMore
set_option linter.unusedVariables false
set_option linter.unusedSimpArgs false
open Go.Maps
/-- (what is left, how deep, why not) -/
abbrev Rk := ByteArray × Int × Int
def rItems (val : ByteArray → Int → Rk) (fields : Bool) (depth : Int) : Nat → ByteArray → Int → Int × Int
  | 0, _, dp => (dp, 0)
  | k + 1, s, dp => if s.size = 0 then (dp, 0) else
      if fields = true ∧ ¬ (ltakeR 1 s).2.2 = 0 then (0, 3) else
      if (if (val (if fields = true then (ltakeR 1 s).2.1 else s) depth).2.2 = 2 then 3 else (val (if fields = true then (ltakeR 1 s).2.1 else s) depth).2.2) = 0 then
        rItems val fields depth k (val (if fields = true then (ltakeR 1 s).2.1 else s) depth).1 (if dp < (val (if fields = true then (ltakeR 1 s).2.1 else s) depth).2.1 then (val (if fields = true then (ltakeR 1 s).2.1 else s) depth).2.1 else dp)
      else (0, if (val (if fields = true then (ltakeR 1 s).2.1 else s) depth).2.2 = 2 then 3 else (val (if fields = true then (ltakeR 1 s).2.1 else s) depth).2.2)
def rRow (val : ByteArray → Int → Rk) (s : ByteArray) (depth : Int) (fields : Bool) : Int × Int := rItems val fields depth s.size s depth
def rVal : Nat → ByteArray → Int → Rk
  | 0, _, _ => (⟨#[]⟩, 0, 2)
  | k + 1, s, depth => if s.size = 0 then (⟨#[]⟩, 0, 2) else
      match sizeU (kindOf s) with
      | some n => if s.size < 1 + n then (⟨#[]⟩, 0, 2) else (s.extract (1 + n) s.size, depth, 0)
      | none => if kindOf s = 83 ∨ kindOf s = 120 then (if (ltakeR 4 (tailOf s)).2.2 = 0 then ((ltakeR 4 (tailOf s)).2.1, depth, 0) else (⟨#[]⟩, 0, 2))
        else if kindOf s = 65 then (if (ltakeR 4 (tailOf s)).2.2 = 0 then (if 32 ≤ depth then (⟨#[]⟩, 0, 5) else ((ltakeR 4 (tailOf s)).2.1, (rRow (rVal k) (ltakeR 4 (tailOf s)).1 (depth + 1) false).1, (rRow (rVal k) (ltakeR 4 (tailOf s)).1 (depth + 1) false).2)) else (⟨#[]⟩, 0, 2))
        else if kindOf s = 70 then (if (ltakeR 4 (tailOf s)).2.2 = 0 then (if 32 ≤ depth then (⟨#[]⟩, 0, 5) else ((ltakeR 4 (tailOf s)).2.1, (rRow (rVal k) (ltakeR 4 (tailOf s)).1 (depth + 1) true).1, (rRow (rVal k) (ltakeR 4 (tailOf s)).1 (depth + 1) true).2)) else (⟨#[]⟩, 0, 2))
        else (⟨#[]⟩, 0, 3)
/-- what is taken is something -/
def RLess (val : ByteArray → Int → Rk) : Prop := ∀ s depth, (val s depth).2.2 = 0 → (val s depth).1.size < s.size
theorem rval_less (k : Nat) : RLess (rVal k) := by
  intro s depth h
  cases k with
  | zero => exact absurd h (show ¬ (2 : Int) = 0 by decide)
  | succ k =>
    have h2 : ¬ (2 : Int) = 0 := by decide
    have h5 : ¬ (5 : Int) = 0 := by decide
    have h3 : ¬ (3 : Int) = 0 := by decide
    simp only [rVal] at h ⊢
    by_cases h0 : s.size = 0
    · rw [if_pos h0] at h; exact absurd h h2
    rw [if_neg h0] at h ⊢
    have ht := tail_size h0
    have hl := ltake_less (n := 4) (t := tailOf s)
    cases hs : sizeU (kindOf s) with
    | some n =>
      rw [hs] at h
      simp only at h ⊢
      by_cases hn : s.size < 1 + n
      · rw [if_pos hn] at h; exact absurd h h2
      · rw [if_neg hn]
        simp only
        rw [extract_size']
        omega
    | none =>
      rw [hs] at h
      simp only at h ⊢
      by_cases e : (ltakeR 4 (tailOf s)).2.2 = 0
      · replace hl := hl e (by decide) isW4
        simp only [if_pos e] at h ⊢
        by_cases hd : 32 ≤ depth
        · simp only [if_pos hd] at h ⊢
          by_cases c1 : kindOf s = 83 ∨ kindOf s = 120
          · rw [if_pos c1]; simp only; omega
          · rw [if_neg c1] at h ⊢
            by_cases c2 : kindOf s = 65
            · rw [if_pos c2] at h; exact absurd h h5
            · rw [if_neg c2] at h ⊢
              by_cases c3 : kindOf s = 70
              · rw [if_pos c3] at h; exact absurd h h5
              · rw [if_neg c3] at h; exact absurd h h3
        · simp only [if_neg hd] at h ⊢
          by_cases c1 : kindOf s = 83 ∨ kindOf s = 120
          · rw [if_pos c1]; simp only; omega
          · rw [if_neg c1] at h ⊢
            by_cases c2 : kindOf s = 65
            · rw [if_pos c2]; simp only; omega
            · rw [if_neg c2] at h ⊢
              by_cases c3 : kindOf s = 70
              · rw [if_pos c3]; simp only; omega
              · rw [if_neg c3] at h; exact absurd h h3
      · simp only [if_neg e] at h
        by_cases c1 : kindOf s = 83 ∨ kindOf s = 120
        · rw [if_pos c1] at h; exact absurd h h2
        · rw [if_neg c1] at h
          by_cases c2 : kindOf s = 65
          · rw [if_pos c2] at h; exact absurd h h2
          · rw [if_neg c2] at h
            by_cases c3 : kindOf s = 70
            · rw [if_pos c3] at h; exact absurd h h2
            · rw [if_neg c3] at h; exact absurd h h3
set_option maxHeartbeats 4000000 in
set_option maxRecDepth 100000 in
theorem row_calls (val : ByteArray → Int → Rk) (hless : RLess val) (s : ByteArray) (hz : s.size ≤ 4611686018427387904) (depth : Int) (fields : Bool)
    (hval : ∀ (i : ByteArray) (W : World), i.size ≤ s.size → Calls Tryd.prog 35 #[.string i, .int .i64 depth] W fun e w' => e = .returned (.tuple #[.string (val i depth).1, .int .i64 (val i depth).2.1, .int .i64 (val i depth).2.2]) ∧ Drawn0 W w') (w : World) :
    Calls Tryd.prog 43 #[.string s, .int .i64 depth, .bool fields] w fun e w' => e = .returned (.tuple #[.int .i64 (rRow val s depth fields).1, .int .i64 (rRow val s depth fields).2]) ∧ Drawn0 w w' := by
  generalize hR : rRow val s depth fields = res
  unfold rRow at hR
  have HR := Aside0.mk hR
  clear hR
  go_enter Tryd.func43, Tryd.ntmps43
  go_wp2
  go_loopw [0, 8] (fun v0 v8 wr => ∃ (i : ByteArray) (dp : Int) (k : Nat), v0 = .string i ∧ v8 = .int .i64 dp ∧ Aside0 (i.size ≤ k) ∧ Aside0 (i.size ≤ s.size) ∧ Aside0 (rItems val fields depth k i dp = res) ∧ Drawn0 w wr) (fun v0 _ _ => match v0 with | .string i => i.size | _ => 0)
  case atStart => exact ⟨s, depth, s.size, rfl, rfl, ⟨Nat.le_refl _⟩, ⟨Nat.le_refl _⟩, HR, Drawn0.refl _⟩
  case round =>
    clear HR
    obtain ⟨i, dp, k, rfl, rfl, hk, hq, hit, ⟨nw, rfl⟩⟩ := hrel
    by_cases h0 : i.size = 0
    · have hri : rItems val fields depth k i dp = (dp, 0) := by
        cases k with
        | zero => rfl
        | succ k => rw [rItems, if_pos h0]
      have hres : res = (dp, 0) := by rw [← hit.out, hri]
      have hd0 : decide ((0 : Int) < (i.size : Int)) = false := by rw [h0]; rfl
      subst hres
      go_wp2
      go_ret2
      exact ⟨rfl, nw, rfl⟩
    · have hd0 : decide ((0 : Int) < (i.size : Int)) = true := decide_eq_true (by omega)
      obtain ⟨k, rfl⟩ : ∃ k', k = k' + 1 := ⟨k - 1, by have := hk.out; omega⟩
      have hit' := hit.out
      rw [rItems, if_neg h0] at hit'
      cases fields with
      | true =>
        have htk := Aside0.mk (rtshort_f i (by have := hq.out; omega))
        have hsm := ltake_less (n := 1) (t := i)
        simp only [if_true] at hit'
        generalize ltakeR 1 i = t at htk hsm hit'
        obtain ⟨t1, t2, t3⟩ := t
        simp only at hsm hit'
        by_cases e : t3 = 0
        · subst e
          replace hsm := hsm rfl (by decide) isW1
          rw [if_neg (fun h => h.2 rfl)] at hit'
          have hv := fun W => hval t2 W (by have := hq.out; omega)
          have hlo := hless t2 depth
          generalize val t2 depth = o at hit' hv hlo
          obtain ⟨o1, o2, o3⟩ := o
          simp only at hit' hlo hv
          by_cases e2 : o3 = 2
          · subst e2
            have hres : res = (0, 3) := by rw [← hit']; rfl
            subst hres
            clear hit'
            go_wp2_with (first | (go_at_call 47; refine (interchangeref02_TakeShort.calls _ _ _ _ _ htk.out).mono ?_; rintro e w' ⟨rfl, ⟨nd0, rfl⟩⟩) | (go_at_call 35; refine (hv _).mono ?_; rintro e w' ⟨rfl, ⟨nd, rfl⟩⟩))
            go_ret2
            exact ⟨rfl, ⟨_, rfl⟩⟩
          · rw [if_neg e2] at hit'
            have e2' : (o3 == 2) = false := by simpa using e2
            by_cases e0 : o3 = 0
            · subst e0
              rw [if_pos rfl] at hit'
              replace hlo := hlo rfl
              have HIT := Aside0.mk hit'
              clear hit'
              by_cases hdp : dp < o2
              · rw [if_pos hdp] at HIT
                have hdp' : decide (dp < o2) = true := decide_eq_true hdp
                go_wp2_with (first | (go_at_call 47; refine (interchangeref02_TakeShort.calls _ _ _ _ _ htk.out).mono ?_; rintro e w' ⟨rfl, ⟨nd0, rfl⟩⟩) | (go_at_call 35; refine (hv _).mono ?_; rintro e w' ⟨rfl, ⟨nd, rfl⟩⟩))
                exact ⟨⟨o1, o2, k, rfl, rfl, ⟨by have := hk.out; omega⟩, ⟨by have := hq.out; omega⟩, HIT, ⟨_, rfl⟩⟩, by show o1.size < i.size; omega⟩
              · rw [if_neg hdp] at HIT
                have hdp' : decide (dp < o2) = false := decide_eq_false hdp
                go_wp2_with (first | (go_at_call 47; refine (interchangeref02_TakeShort.calls _ _ _ _ _ htk.out).mono ?_; rintro e w' ⟨rfl, ⟨nd0, rfl⟩⟩) | (go_at_call 35; refine (hv _).mono ?_; rintro e w' ⟨rfl, ⟨nd, rfl⟩⟩))
                exact ⟨⟨o1, dp, k, rfl, rfl, ⟨by have := hk.out; omega⟩, ⟨by have := hq.out; omega⟩, HIT, ⟨_, rfl⟩⟩, by show o1.size < i.size; omega⟩
            · rw [if_neg e0] at hit'
              have e0' : (o3 != 0) = true := by simpa using e0
              subst hit'
              go_wp2_with (first | (go_at_call 47; refine (interchangeref02_TakeShort.calls _ _ _ _ _ htk.out).mono ?_; rintro e w' ⟨rfl, ⟨nd0, rfl⟩⟩) | (go_at_call 35; refine (hv _).mono ?_; rintro e w' ⟨rfl, ⟨nd, rfl⟩⟩))
              go_ret2
              exact ⟨rfl, ⟨_, rfl⟩⟩
        · have e' : (t3 != 0) = true := by simpa using e
          rw [if_pos ⟨trivial, e⟩] at hit'
          subst hit'
          clear hsm
          go_wp2_with (first | (go_at_call 47; refine (interchangeref02_TakeShort.calls _ _ _ _ _ htk.out).mono ?_; rintro e w' ⟨rfl, ⟨nd0, rfl⟩⟩) )
          go_ret2
          exact ⟨rfl, ⟨_, rfl⟩⟩
      | false =>
        rw [if_neg (fun h => Bool.noConfusion h.1)] at hit'
        simp only [Bool.false_eq_true, if_false] at hit'
        have hv := fun W => hval i W (by exact hq.out)
        have hlo := hless i depth
        generalize val i depth = o at hit' hv hlo
        obtain ⟨o1, o2, o3⟩ := o
        simp only at hit' hlo hv
        by_cases e2 : o3 = 2
        · subst e2
          have hres : res = (0, 3) := by rw [← hit']; rfl
          subst hres
          clear hit'
          go_wp2_with (first | (go_at_call 35; refine (hv _).mono ?_; rintro e w' ⟨rfl, ⟨nd, rfl⟩⟩))
          go_ret2
          exact ⟨rfl, ⟨_, rfl⟩⟩
        · rw [if_neg e2] at hit'
          have e2' : (o3 == 2) = false := by simpa using e2
          by_cases e0 : o3 = 0
          · subst e0
            rw [if_pos rfl] at hit'
            replace hlo := hlo rfl
            have HIT := Aside0.mk hit'
            clear hit'
            by_cases hdp : dp < o2
            · rw [if_pos hdp] at HIT
              have hdp' : decide (dp < o2) = true := decide_eq_true hdp
              go_wp2_with (first | (go_at_call 35; refine (hv _).mono ?_; rintro e w' ⟨rfl, ⟨nd, rfl⟩⟩))
              exact ⟨⟨o1, o2, k, rfl, rfl, ⟨by have := hk.out; omega⟩, ⟨by have := hq.out; omega⟩, HIT, ⟨_, rfl⟩⟩, by show o1.size < i.size; omega⟩
            · rw [if_neg hdp] at HIT
              have hdp' : decide (dp < o2) = false := decide_eq_false hdp
              go_wp2_with (first | (go_at_call 35; refine (hv _).mono ?_; rintro e w' ⟨rfl, ⟨nd, rfl⟩⟩))
              exact ⟨⟨o1, dp, k, rfl, rfl, ⟨by have := hk.out; omega⟩, ⟨by have := hq.out; omega⟩, HIT, ⟨_, rfl⟩⟩, by show o1.size < i.size; omega⟩
          · rw [if_neg e0] at hit'
            have e0' : (o3 != 0) = true := by simpa using e0
            subst hit'
            go_wp2_with (first | (go_at_call 35; refine (hv _).mono ?_; rintro e w' ⟨rfl, ⟨nd, rfl⟩⟩))
            go_ret2
            exact ⟨rfl, ⟨_, rfl⟩⟩
theorem sizeU_le {c n : Nat} (h : sizeU c = some n) : n ≤ 8 := by
  unfold sizeU at h
  repeat' split at h
  all_goals first | (cases h; decide) | cases h
theorem kind_at {s : ByteArray} (h : 0 < s.size) : (kindOf s : Int) = ((s[0]'h).toNat : Int) := by
  unfold kindOf
  obtain ⟨⟨l⟩⟩ := s
  cases l with
  | nil => exact absurd h (by decide)
  | cons a l => rfl
set_option maxHeartbeats 4000000 in
set_option maxRecDepth 100000 in
theorem rval_calls : ∀ (k : Nat) (s : ByteArray) (hz : s.size ≤ 4611686018427387904) (hk : s.size < k) (depth : Int) (hd0 : 0 ≤ depth) (hd1 : depth ≤ 32) (w : World),
    Calls Tryd.prog 35 #[.string s, .int .i64 depth] w fun e w' => e = .returned (.tuple #[.string (rVal k s depth).1, .int .i64 (rVal k s depth).2.1, .int .i64 (rVal k s depth).2.2]) ∧ Drawn0 w w' := by
  intro k
  induction k with
  | zero => intro s hz hk; omega
  | succ k ih =>
    intro s hz hk depth hd0 hd1 w
    generalize hw : rVal (k + 1) s depth = res
    rw [rVal] at hw
    by_cases h0 : s.size = 0
    · rw [if_pos h0] at hw
      subst hw
      have hd : ((s.size : Int) == 0) = true := by rw [h0]; rfl
      go_enter Tryd.func35, Tryd.ntmps35
      go_wp2
      refine bodyPost_ret (results_tmp3 rfl _ _ _) rfl ?_
      exact ⟨rfl, Drawn0.refl _⟩
    · rw [if_neg h0] at hw
      have hd : ((s.size : Int) == 0) = false := beq_eq_false_iff_ne.mpr (by omega)
      have hpos : 0 < s.size := by omega
      have hts := tail_size h0
      obtain ⟨b, hb⟩ : ∃ b : UInt8, kindOf s = b.toNat := ⟨_, rfl⟩
      have hx : ∀ h : 0 < s.size, ((s[0]'h).toNat : Int) = (b.toNat : Int) := by intro h; rw [← hb, kind_at h]
      have hsz := Aside0.mk (rsize_k (k := 40) (Nat.le_refl _) b)
      rw [hb] at hw
      clear hb
      generalize b.toNat = c at hx hsz hw
      unfold sizeI at hsz
      cases hs : sizeU c with
      | some n =>
        rw [hs] at hw hsz
        simp only at hw hsz
        have hn := sizeU_le hs
        have hn0 : decide ((0 : Int) ≤ (n : Int)) = true := decide_eq_true (by omega)
        have hwr : IntKind.i64.wrap (1 + (n : Int)) = 1 + (n : Int) := by rw [i64_w]; exact wrap64_of (by omega) (by omega)
        have hnt : (1 + (n : Int)).toNat = 1 + n := by omega
        by_cases hl : s.size < 1 + n
        · rw [if_pos hl] at hw
          subst hw
          have hl' : decide ((s.size : Int) < 1 + (n : Int)) = true := decide_eq_true (by omega)
          go_enter Tryd.func35, Tryd.ntmps35
          go_wp2_with (first | (go_at_call 46; refine (interchangeref03_size.calls _ _ _ _ hsz.out).mono ?_; rintro e w' ⟨rfl, ⟨nd0, rfl⟩⟩))
          refine bodyPost_ret (results_tmp3 rfl _ _ _) rfl ?_
          exact ⟨rfl, ⟨_, rfl⟩⟩
        · rw [if_neg hl] at hw
          subst hw
          have hl' : decide ((s.size : Int) < 1 + (n : Int)) = false := decide_eq_false (by omega)
          have hl2 : (1 + (n : Int)) ≤ (s.size : Int) := by omega
          have hl3 : (0 : Int) ≤ 1 + (n : Int) := by omega
          go_enter Tryd.func35, Tryd.ntmps35
          go_wp2_with (first | (go_at_call 46; refine (interchangeref03_size.calls _ _ _ _ hsz.out).mono ?_; rintro e w' ⟨rfl, ⟨nd0, rfl⟩⟩))
          refine bodyPost_ret (results_tmp3 rfl _ _ _) rfl ?_
          exact ⟨rfl, ⟨_, rfl⟩⟩
      | none =>
        rw [hs] at hw hsz
        simp only at hw hsz
        clear hs
        have hfl := ltake_fail (n := 4) (t := tailOf s)
        have hsm := ltake_less (n := 4) (t := tailOf s)
        by_cases e83 : c = 83
        · rw [if_pos (.inl e83)] at hw
          rw [show (c : Int) = 83 from by omega] at hx hsz
          have hin := Aside0.mk (rinside_k (k := 12) (by decide) (tailOf s) (by omega))
          generalize ltakeR 4 (tailOf s) = t at hin hw hfl hsm
          obtain ⟨t1, t2, t3⟩ := t
          simp only at hw hfl hsm
          by_cases e : t3 = 0
          · subst e
            rw [if_pos rfl] at hw
            subst hw
            clear hsm
            go_enter Tryd.func35, Tryd.ntmps35
            go_wp2_with (first | (go_at_call 46; refine (interchangeref03_size.calls _ _ _ _ hsz.out).mono ?_; rintro e w' ⟨rfl, ⟨nd0, rfl⟩⟩) | (go_at_call 42; refine (interchangeref03_inside.calls 12 (tailOf s) _ _ _ _ hin.out).mono ?_; rintro e w' ⟨rfl, ⟨nd1, rfl⟩⟩))
            repeat (go_quiet (fail); try go_wp2_with (first | (go_at_call 46; refine (interchangeref03_size.calls _ _ _ _ hsz.out).mono ?_; rintro e w' ⟨rfl, ⟨nd0, rfl⟩⟩) | (go_at_call 42; refine (interchangeref03_inside.calls 12 (tailOf s) _ _ _ _ hin.out).mono ?_; rintro e w' ⟨rfl, ⟨nd1, rfl⟩⟩)))
            refine bodyPost_ret (results_tmp3 rfl _ _ _) rfl ?_
            exact ⟨rfl, ⟨_, rfl⟩⟩
          · rw [if_neg e] at hw
            have e' : (t3 != 0) = true := by simpa using e
            obtain ⟨-, -, rfl⟩ := tup3 (hfl e isW4)
            subst hw
            clear hsm
            go_enter Tryd.func35, Tryd.ntmps35
            go_wp2_with (first | (go_at_call 46; refine (interchangeref03_size.calls _ _ _ _ hsz.out).mono ?_; rintro e w' ⟨rfl, ⟨nd0, rfl⟩⟩) | (go_at_call 42; refine (interchangeref03_inside.calls 12 (tailOf s) _ _ _ _ hin.out).mono ?_; rintro e w' ⟨rfl, ⟨nd1, rfl⟩⟩))
            repeat (go_quiet (fail); try go_wp2_with (first | (go_at_call 46; refine (interchangeref03_size.calls _ _ _ _ hsz.out).mono ?_; rintro e w' ⟨rfl, ⟨nd0, rfl⟩⟩) | (go_at_call 42; refine (interchangeref03_inside.calls 12 (tailOf s) _ _ _ _ hin.out).mono ?_; rintro e w' ⟨rfl, ⟨nd1, rfl⟩⟩)))
            refine bodyPost_ret (results_tmp3 rfl _ _ _) rfl ?_
            exact ⟨rfl, ⟨_, rfl⟩⟩
        by_cases e120 : c = 120
        · rw [if_pos (.inr e120)] at hw
          rw [show (c : Int) = 120 from by omega] at hx hsz
          have hin := Aside0.mk (rinside_k (k := 12) (by decide) (tailOf s) (by omega))
          generalize ltakeR 4 (tailOf s) = t at hin hw hfl hsm
          obtain ⟨t1, t2, t3⟩ := t
          simp only at hw hfl hsm
          by_cases e : t3 = 0
          · subst e
            rw [if_pos rfl] at hw
            subst hw
            clear hsm
            go_enter Tryd.func35, Tryd.ntmps35
            go_wp2_with (first | (go_at_call 46; refine (interchangeref03_size.calls _ _ _ _ hsz.out).mono ?_; rintro e w' ⟨rfl, ⟨nd0, rfl⟩⟩) | (go_at_call 42; refine (interchangeref03_inside.calls 12 (tailOf s) _ _ _ _ hin.out).mono ?_; rintro e w' ⟨rfl, ⟨nd1, rfl⟩⟩))
            repeat (go_quiet (fail); try go_wp2_with (first | (go_at_call 46; refine (interchangeref03_size.calls _ _ _ _ hsz.out).mono ?_; rintro e w' ⟨rfl, ⟨nd0, rfl⟩⟩) | (go_at_call 42; refine (interchangeref03_inside.calls 12 (tailOf s) _ _ _ _ hin.out).mono ?_; rintro e w' ⟨rfl, ⟨nd1, rfl⟩⟩)))
            refine bodyPost_ret (results_tmp3 rfl _ _ _) rfl ?_
            exact ⟨rfl, ⟨_, rfl⟩⟩
          · rw [if_neg e] at hw
            have e' : (t3 != 0) = true := by simpa using e
            obtain ⟨-, -, rfl⟩ := tup3 (hfl e isW4)
            subst hw
            clear hsm
            go_enter Tryd.func35, Tryd.ntmps35
            go_wp2_with (first | (go_at_call 46; refine (interchangeref03_size.calls _ _ _ _ hsz.out).mono ?_; rintro e w' ⟨rfl, ⟨nd0, rfl⟩⟩) | (go_at_call 42; refine (interchangeref03_inside.calls 12 (tailOf s) _ _ _ _ hin.out).mono ?_; rintro e w' ⟨rfl, ⟨nd1, rfl⟩⟩))
            repeat (go_quiet (fail); try go_wp2_with (first | (go_at_call 46; refine (interchangeref03_size.calls _ _ _ _ hsz.out).mono ?_; rintro e w' ⟨rfl, ⟨nd0, rfl⟩⟩) | (go_at_call 42; refine (interchangeref03_inside.calls 12 (tailOf s) _ _ _ _ hin.out).mono ?_; rintro e w' ⟨rfl, ⟨nd1, rfl⟩⟩)))
            refine bodyPost_ret (results_tmp3 rfl _ _ _) rfl ?_
            exact ⟨rfl, ⟨_, rfl⟩⟩
        rw [if_neg (by omega)] at hw
        by_cases e65 : c = 65
        · rw [if_pos e65] at hw
          rw [show (c : Int) = 65 from by omega] at hx hsz
          have hin := Aside0.mk (rinside_k (k := 12) (by decide) (tailOf s) (by omega))
          generalize ltakeR 4 (tailOf s) = t at hin hw hfl hsm
          obtain ⟨t1, t2, t3⟩ := t
          simp only at hw hfl hsm
          by_cases e : t3 = 0
          · subst e
            rw [if_pos rfl] at hw
            replace hsm := hsm rfl (by decide) isW4
            by_cases hdp : 32 ≤ depth
            · rw [if_pos hdp] at hw
              have hdp' : decide (32 ≤ depth) = true := decide_eq_true hdp
              subst hw
              go_enter Tryd.func35, Tryd.ntmps35
              go_wp2_with (first | (go_at_call 46; refine (interchangeref03_size.calls _ _ _ _ hsz.out).mono ?_; rintro e w' ⟨rfl, ⟨nd0, rfl⟩⟩) | (go_at_call 42; refine (interchangeref03_inside.calls 12 (tailOf s) _ _ _ _ hin.out).mono ?_; rintro e w' ⟨rfl, ⟨nd1, rfl⟩⟩))
              repeat (go_quiet (fail); try go_wp2_with (first | (go_at_call 46; refine (interchangeref03_size.calls _ _ _ _ hsz.out).mono ?_; rintro e w' ⟨rfl, ⟨nd0, rfl⟩⟩) | (go_at_call 42; refine (interchangeref03_inside.calls 12 (tailOf s) _ _ _ _ hin.out).mono ?_; rintro e w' ⟨rfl, ⟨nd1, rfl⟩⟩)))
              refine bodyPost_ret (results_tmp3 rfl _ _ _) rfl ?_
              exact ⟨rfl, ⟨_, rfl⟩⟩
            · rw [if_neg hdp] at hw
              have hdp' : decide (32 ≤ depth) = false := decide_eq_false hdp
              have hrow := row_calls (rVal k) (rval_less k) t1 (by omega) (depth + 1) false (fun i W hi => ih i (by omega) (by omega) (depth + 1) (by omega) (by omega) W)
              generalize rRow (rVal k) t1 (depth + 1) false = r at hrow hw
              subst hw
              have hdw : IntKind.i64.wrap (depth + 1) = depth + 1 := by rw [i64_w]; exact wrap64_of (by omega) (by omega)
              go_enter Tryd.func35, Tryd.ntmps35
              go_wp2_with (first | (go_at_call 46; refine (interchangeref03_size.calls _ _ _ _ hsz.out).mono ?_; rintro e w' ⟨rfl, ⟨nd0, rfl⟩⟩) | (go_at_call 42; refine (interchangeref03_inside.calls 12 (tailOf s) _ _ _ _ hin.out).mono ?_; rintro e w' ⟨rfl, ⟨nd1, rfl⟩⟩) | (go_at_call 43; refine (hrow _).mono ?_; rintro e w' ⟨rfl, ⟨nd2, rfl⟩⟩))
              repeat (go_quiet (fail); try go_wp2_with (first | (go_at_call 46; refine (interchangeref03_size.calls _ _ _ _ hsz.out).mono ?_; rintro e w' ⟨rfl, ⟨nd0, rfl⟩⟩) | (go_at_call 42; refine (interchangeref03_inside.calls 12 (tailOf s) _ _ _ _ hin.out).mono ?_; rintro e w' ⟨rfl, ⟨nd1, rfl⟩⟩) | (go_at_call 43; refine (hrow _).mono ?_; rintro e w' ⟨rfl, ⟨nd2, rfl⟩⟩)))
              refine bodyPost_ret (results_tmp3 rfl _ _ _) rfl ?_
              exact ⟨rfl, ⟨_, rfl⟩⟩
          · rw [if_neg e] at hw
            have e' : (t3 != 0) = true := by simpa using e
            obtain ⟨-, -, rfl⟩ := tup3 (hfl e isW4)
            subst hw
            clear hsm
            go_enter Tryd.func35, Tryd.ntmps35
            go_wp2_with (first | (go_at_call 46; refine (interchangeref03_size.calls _ _ _ _ hsz.out).mono ?_; rintro e w' ⟨rfl, ⟨nd0, rfl⟩⟩) | (go_at_call 42; refine (interchangeref03_inside.calls 12 (tailOf s) _ _ _ _ hin.out).mono ?_; rintro e w' ⟨rfl, ⟨nd1, rfl⟩⟩))
            repeat (go_quiet (fail); try go_wp2_with (first | (go_at_call 46; refine (interchangeref03_size.calls _ _ _ _ hsz.out).mono ?_; rintro e w' ⟨rfl, ⟨nd0, rfl⟩⟩) | (go_at_call 42; refine (interchangeref03_inside.calls 12 (tailOf s) _ _ _ _ hin.out).mono ?_; rintro e w' ⟨rfl, ⟨nd1, rfl⟩⟩)))
            refine bodyPost_ret (results_tmp3 rfl _ _ _) rfl ?_
            exact ⟨rfl, ⟨_, rfl⟩⟩
        rw [if_neg e65] at hw
        by_cases e70 : c = 70
        · rw [if_pos e70] at hw
          rw [show (c : Int) = 70 from by omega] at hx hsz
          have hin := Aside0.mk (rinside_k (k := 12) (by decide) (tailOf s) (by omega))
          generalize ltakeR 4 (tailOf s) = t at hin hw hfl hsm
          obtain ⟨t1, t2, t3⟩ := t
          simp only at hw hfl hsm
          by_cases e : t3 = 0
          · subst e
            rw [if_pos rfl] at hw
            replace hsm := hsm rfl (by decide) isW4
            by_cases hdp : 32 ≤ depth
            · rw [if_pos hdp] at hw
              have hdp' : decide (32 ≤ depth) = true := decide_eq_true hdp
              subst hw
              go_enter Tryd.func35, Tryd.ntmps35
              go_wp2_with (first | (go_at_call 46; refine (interchangeref03_size.calls _ _ _ _ hsz.out).mono ?_; rintro e w' ⟨rfl, ⟨nd0, rfl⟩⟩) | (go_at_call 42; refine (interchangeref03_inside.calls 12 (tailOf s) _ _ _ _ hin.out).mono ?_; rintro e w' ⟨rfl, ⟨nd1, rfl⟩⟩))
              repeat (go_quiet (fail); try go_wp2_with (first | (go_at_call 46; refine (interchangeref03_size.calls _ _ _ _ hsz.out).mono ?_; rintro e w' ⟨rfl, ⟨nd0, rfl⟩⟩) | (go_at_call 42; refine (interchangeref03_inside.calls 12 (tailOf s) _ _ _ _ hin.out).mono ?_; rintro e w' ⟨rfl, ⟨nd1, rfl⟩⟩)))
              refine bodyPost_ret (results_tmp3 rfl _ _ _) rfl ?_
              exact ⟨rfl, ⟨_, rfl⟩⟩
            · rw [if_neg hdp] at hw
              have hdp' : decide (32 ≤ depth) = false := decide_eq_false hdp
              have hrow := row_calls (rVal k) (rval_less k) t1 (by omega) (depth + 1) true (fun i W hi => ih i (by omega) (by omega) (depth + 1) (by omega) (by omega) W)
              generalize rRow (rVal k) t1 (depth + 1) true = r at hrow hw
              subst hw
              have hdw : IntKind.i64.wrap (depth + 1) = depth + 1 := by rw [i64_w]; exact wrap64_of (by omega) (by omega)
              go_enter Tryd.func35, Tryd.ntmps35
              go_wp2_with (first | (go_at_call 46; refine (interchangeref03_size.calls _ _ _ _ hsz.out).mono ?_; rintro e w' ⟨rfl, ⟨nd0, rfl⟩⟩) | (go_at_call 42; refine (interchangeref03_inside.calls 12 (tailOf s) _ _ _ _ hin.out).mono ?_; rintro e w' ⟨rfl, ⟨nd1, rfl⟩⟩) | (go_at_call 43; refine (hrow _).mono ?_; rintro e w' ⟨rfl, ⟨nd2, rfl⟩⟩))
              repeat (go_quiet (fail); try go_wp2_with (first | (go_at_call 46; refine (interchangeref03_size.calls _ _ _ _ hsz.out).mono ?_; rintro e w' ⟨rfl, ⟨nd0, rfl⟩⟩) | (go_at_call 42; refine (interchangeref03_inside.calls 12 (tailOf s) _ _ _ _ hin.out).mono ?_; rintro e w' ⟨rfl, ⟨nd1, rfl⟩⟩) | (go_at_call 43; refine (hrow _).mono ?_; rintro e w' ⟨rfl, ⟨nd2, rfl⟩⟩)))
              refine bodyPost_ret (results_tmp3 rfl _ _ _) rfl ?_
              exact ⟨rfl, ⟨_, rfl⟩⟩
          · rw [if_neg e] at hw
            have e' : (t3 != 0) = true := by simpa using e
            obtain ⟨-, -, rfl⟩ := tup3 (hfl e isW4)
            subst hw
            clear hsm
            go_enter Tryd.func35, Tryd.ntmps35
            go_wp2_with (first | (go_at_call 46; refine (interchangeref03_size.calls _ _ _ _ hsz.out).mono ?_; rintro e w' ⟨rfl, ⟨nd0, rfl⟩⟩) | (go_at_call 42; refine (interchangeref03_inside.calls 12 (tailOf s) _ _ _ _ hin.out).mono ?_; rintro e w' ⟨rfl, ⟨nd1, rfl⟩⟩))
            repeat (go_quiet (fail); try go_wp2_with (first | (go_at_call 46; refine (interchangeref03_size.calls _ _ _ _ hsz.out).mono ?_; rintro e w' ⟨rfl, ⟨nd0, rfl⟩⟩) | (go_at_call 42; refine (interchangeref03_inside.calls 12 (tailOf s) _ _ _ _ hin.out).mono ?_; rintro e w' ⟨rfl, ⟨nd1, rfl⟩⟩)))
            refine bodyPost_ret (results_tmp3 rfl _ _ _) rfl ?_
            exact ⟨rfl, ⟨_, rfl⟩⟩
        rw [if_neg e70] at hw
        subst hw
        clear hfl hsm
        have c83 : ((c : Int) != 83) = true := bne_iff_ne.mpr (by omega)
        have c120 : ((c : Int) != 120) = true := bne_iff_ne.mpr (by omega)
        have c65 : ((c : Int) != 65) = true := bne_iff_ne.mpr (by omega)
        have c70 : ((c : Int) != 70) = true := bne_iff_ne.mpr (by omega)
        go_enter Tryd.func35, Tryd.ntmps35
        go_wp2_with (first | (go_at_call 46; refine (interchangeref03_size.calls _ _ _ _ hsz.out).mono ?_; rintro e w' ⟨rfl, ⟨nd0, rfl⟩⟩))
        repeat (go_quiet (fail); try go_wp2)
        refine bodyPost_ret (results_tmp3 rfl _ _ _) rfl ?_
        exact ⟨rfl, ⟨_, rfl⟩⟩
def interchangeref03_value.f (a0 : ByteArray) (a1 : Int) : Option (ByteArray × Int × Int) := if a0.size ≤ 4611686018427387904 ∧ 0 ≤ a1 ∧ a1 ≤ 32 then some (rVal (a0.size + 1) a0 a1) else none
def interchangeref03_row.f (a0 : ByteArray) (a1 : Int) (a2 : Bool) : Option (Int × Int) := if a0.size ≤ 4611686018427387904 ∧ 0 ≤ a1 ∧ a1 ≤ 32 then some (rRow (rVal (a0.size + 1)) a0 a1 a2) else none
theorem interchangeref03_value.calls (a0 : ByteArray) (a1 : Int) (r1 : ByteArray) (r2 r3 : Int) (w : World) (h : interchangeref03_value.f a0 a1 = some (r1, r2, r3)) :
    Calls Tryd.prog 35 #[.string a0, .int .i64 a1] w fun e w' => e = .returned (.tuple #[.string r1, .int .i64 r2, .int .i64 r3]) ∧ Drawn0 w w' := by
  unfold interchangeref03_value.f at h
  by_cases e : a0.size ≤ 4611686018427387904 ∧ 0 ≤ a1 ∧ a1 ≤ 32
  · rw [if_pos e] at h
    have := rval_calls (a0.size + 1) a0 e.1 (by omega) a1 e.2.1 e.2.2 w
    rw [Option.some.inj h] at this
    exact this
  · rw [if_neg e] at h; cases h
theorem interchangeref03_row.calls (a0 : ByteArray) (a1 : Int) (a2 : Bool) (r1 r2 : Int) (w : World) (h : interchangeref03_row.f a0 a1 a2 = some (r1, r2)) :
    Calls Tryd.prog 43 #[.string a0, .int .i64 a1, .bool a2] w fun e w' => e = .returned (.tuple #[.int .i64 r1, .int .i64 r2]) ∧ Drawn0 w w' := by
  unfold interchangeref03_row.f at h
  by_cases e : a0.size ≤ 4611686018427387904 ∧ 0 ≤ a1 ∧ a1 ≤ 32
  · rw [if_pos e] at h
    have := row_calls (rVal (a0.size + 1)) (rval_less _) a0 e.1 a1 a2 (fun i W hi => rval_calls (a0.size + 1) i (by omega) (by omega) a1 e.2.1 e.2.2 W) w
    rw [Option.some.inj h] at this
    exact this
  · rw [if_neg e] at h; cases h
end Go.Proofs.YthdkmohelampbaaDoor.F
namespace Go.Proofs.YthdkmohelampbaaDoor.F
open Go.RowKit Go.Proofs.YthdkmohelampbaaDoorW.PrintWords Go.Proofs.YthdkmohelampbaaDoorW.PrintLast Go.Proofs.YthdkmohelampbaaDoorW.PrintMore
attribute [local go_sem] max2_int min2_int max_two min_two max_three min_three max_four min_four
set_option linter.unusedVariables false
set_option linter.unusedSimpArgs false

/-! ### interchangeref03_table: function 32 -/
def interchangeref03_table.f (k : Nat) (a0 : ByteArray) : Option (ByteArray × Int × Int) := (interchangeref03_inside.f k a0).bind fun bt138 => (if bt138.2.2 = 0 then ((interchangeref03_row.f bt138.1 1 true).bind fun bt141 => (some (bt138.2.1, bt141.1, bt141.2))) else (some ((⟨#[]⟩ : ByteArray), 0, bt138.2.2)))
theorem interchangeref03_table.mono : ∀ a0 k, LeO (interchangeref03_table.f k a0) (interchangeref03_table.f (k + 1) a0) := by
  intro a0 k
  unfold interchangeref03_table.f
  repeat' first
      | (with_reducible exact interchangeref03_inside.mono _ _)
      | (with_reducible exact LeO.refl _)
      | (with_reducible exact LeO.none _)
      | (with_reducible refine LeO.ite ?_ ?_)
      | (with_reducible refine LeO.bind ?_ (fun _ => ?_))
      | exact interchangeref03_inside.mono _ _
      | exact LeO.none _
      | refine LeO.ite ?_ ?_
      | refine LeO.bind ?_ (fun _ => ?_)
set_option maxHeartbeats 8000000 in
set_option maxRecDepth 100000 in
theorem interchangeref03_table.calls (k : Nat) (a0 : ByteArray) (r1 : ByteArray) (r2 : Int) (r3 : Int) (w : World) (h : interchangeref03_table.f k a0 = some (r1, r2, r3)) :
    Calls Tryd.prog 32 #[.string a0] w fun e w' => e = .returned (.tuple #[.string r1, .int .i64 r2, .int .i64 r3]) ∧ Drawn0 w w' := by
  have H : ((interchangeref03_inside.f k a0).bind fun bt138 => (if bt138.2.2 = 0 then ((interchangeref03_row.f bt138.1 1 true).bind fun bt141 => (some (bt138.2.1, bt141.1, bt141.2))) else (some ((⟨#[]⟩ : ByteArray), 0, bt138.2.2)))) = some (r1, r2, r3) := h
  clear h
  replace H := Option.bind_eq_some_iff.mp H
  obtain ⟨⟨t138, t139, t140⟩, A20, H⟩ := H
  replace H : (if t140 = 0 then ((interchangeref03_row.f t138 1 true).bind fun bt141 => (some (t139, bt141.1, bt141.2))) else (some ((⟨#[]⟩ : ByteArray), 0, t140))) = some (r1, r2, r3) := H
  have A2 := Aside0.mk A20
  clear A20
  by_cases c3 : t140 = 0
  · rw [if_pos c3] at H
    have c3b0 : (t140 == 0) = true := beq_iff_eq.mpr c3
    have c3b1 : (t140 != 0) = false := bne_eq_false_iff_eq.mpr c3
    clear c3
    replace H := Option.bind_eq_some_iff.mp H
    obtain ⟨⟨t141, t142⟩, A40, H⟩ := H
    replace H : (some (t139, t141, t142)) = some (r1, r2, r3) := H
    have A4 := Aside0.mk A40
    clear A40
    simp only [Option.some.injEq, Prod.mk.injEq] at H
    obtain ⟨rfl, rfl, rfl⟩ := H
    go_enter Tryd.func32, Tryd.ntmps32
    go_wp2_with (first | ((with_reducible refine gate_callee (f := 42) rfl ?_); refine goesL_ (some 12) rfl rfl Tryd.func42 (by kernel_rfl) rfl #[.string a0] rfl (by (try simp only [List.map_toArray, List.map_cons, List.map_nil]); first | done | rfl | (simp only [List.length_drop, List.length_take]; rfl)) ?_; (with_reducible refine (interchangeref03_inside.calls k a0 t138 t139 t140 _ A2.out).mono ?_); rintro e w' ⟨rfl, ⟨nd, rfl⟩⟩; refine ⟨_, rfl, ?_⟩) | ((with_reducible refine gate_callee (f := 43) rfl ?_); refine goesL_ (some 21) rfl rfl Tryd.func43 (by kernel_rfl) rfl #[.string t138, .int .i64 1, .bool true] rfl (by (try simp only [List.map_toArray, List.map_cons, List.map_nil]); first | done | rfl | (simp only [List.length_drop, List.length_take]; rfl)) ?_; (with_reducible refine (interchangeref03_row.calls t138 1 true t141 t142 _ A4.out).mono ?_); rintro e w' ⟨rfl, ⟨nd, rfl⟩⟩; refine ⟨_, rfl, ?_⟩))
    go_ret3
    exact ⟨by first | rfl | (simp; done) | (simp [*]; done), by repeat (first | exact Drawn0.refl _ | apply Drawn0.step)⟩
  · rw [if_neg c3] at H
    have c3b0 : (t140 == 0) = false := beq_eq_false_iff_ne.mpr c3
    have c3b1 : (t140 != 0) = true := bne_iff_ne.mpr c3
    simp only [Option.some.injEq, Prod.mk.injEq] at H
    obtain ⟨rfl, rfl, rfl⟩ := H
    go_enter Tryd.func32, Tryd.ntmps32
    go_wp2_with (first | ((with_reducible refine gate_callee (f := 42) rfl ?_); refine goesL_ (some 12) rfl rfl Tryd.func42 (by kernel_rfl) rfl #[.string a0] rfl (by (try simp only [List.map_toArray, List.map_cons, List.map_nil]); first | done | rfl | (simp only [List.length_drop, List.length_take]; rfl)) ?_; (with_reducible refine (interchangeref03_inside.calls k a0 t138 t139 t140 _ A2.out).mono ?_); rintro e w' ⟨rfl, ⟨nd, rfl⟩⟩; refine ⟨_, rfl, ?_⟩))
    go_ret3
    exact ⟨by first | rfl | (simp; done) | (simp [*]; done), by repeat (first | exact Drawn0.refl _ | apply Drawn0.step)⟩


end Go.Proofs.YthdkmohelampbaaDoor.F
namespace Go.Proofs.YthdkmohelampbaaDoor.F
open Go.RowKit Go.Proofs.YthdkmohelampbaaDoorW.PrintWords Go.Proofs.YthdkmohelampbaaDoorW.PrintLast Go.Proofs.YthdkmohelampbaaDoorW.PrintMore
attribute [local go_sem] max2_int min2_int max_two min_two max_three min_three max_four min_four
set_option linter.unusedVariables false
set_option linter.unusedSimpArgs false

/-! ### interchangeref03_Deep: function 13 -/
def interchangeref03_Deep.f (k : Nat) (a0 : ByteArray) : Option (Int × Int) := (interchangeref03_table.f k a0).bind fun bt143 => (if bt143.2.2 = 0 then (if (bt143.1.size : Int) > 0 then (some (0, 3)) else (some (bt143.2.1, 0))) else (some (0, bt143.2.2)))
theorem interchangeref03_Deep.mono : ∀ a0 k, LeO (interchangeref03_Deep.f k a0) (interchangeref03_Deep.f (k + 1) a0) := by
  intro a0 k
  unfold interchangeref03_Deep.f
  repeat' first
      | (with_reducible exact interchangeref03_table.mono _ _)
      | (with_reducible exact LeO.refl _)
      | (with_reducible exact LeO.none _)
      | (with_reducible refine LeO.ite ?_ ?_)
      | (with_reducible refine LeO.bind ?_ (fun _ => ?_))
      | exact interchangeref03_table.mono _ _
      | exact LeO.none _
      | refine LeO.ite ?_ ?_
      | refine LeO.bind ?_ (fun _ => ?_)
set_option maxHeartbeats 8000000 in
set_option maxRecDepth 100000 in
theorem interchangeref03_Deep.calls (k : Nat) (a0 : ByteArray) (r1 : Int) (r2 : Int) (w : World) (h : interchangeref03_Deep.f k a0 = some (r1, r2)) :
    Calls Tryd.prog 13 #[.string a0] w fun e w' => e = .returned (.tuple #[.int .i64 r1, .int .i64 r2]) ∧ Drawn0 w w' := by
  have H : ((interchangeref03_table.f k a0).bind fun bt143 => (if bt143.2.2 = 0 then (if (bt143.1.size : Int) > 0 then (some (0, 3)) else (some (bt143.2.1, 0))) else (some (0, bt143.2.2)))) = some (r1, r2) := h
  clear h
  replace H := Option.bind_eq_some_iff.mp H
  obtain ⟨⟨t143, t144, t145⟩, A20, H⟩ := H
  replace H : (if t145 = 0 then (if (t143.size : Int) > 0 then (some (0, 3)) else (some (t144, 0))) else (some (0, t145))) = some (r1, r2) := H
  have A2 := Aside0.mk A20
  clear A20
  by_cases c3 : t145 = 0
  · rw [if_pos c3] at H
    have c3b0 : (t145 == 0) = true := beq_iff_eq.mpr c3
    have c3b1 : (t145 != 0) = false := bne_eq_false_iff_eq.mpr c3
    clear c3
    by_cases c4 : (t143.size : Int) > 0
    · rw [if_pos c4] at H
      have c4b0 : decide (0 < (t143.size : Int)) = true := decide_eq_true c4
      have c4b1 : decide (0 < t143.size) = true := decide_eq_true (by omega)
      clear c4
      simp only [Option.some.injEq, Prod.mk.injEq] at H
      obtain ⟨rfl, rfl⟩ := H
      go_enter Tryd.func13, Tryd.ntmps13
      go_wp2_with (first | ((with_reducible refine gate_callee (f := 32) rfl ?_); refine goesL_ (some 9) rfl rfl Tryd.func32 (by kernel_rfl) rfl #[.string a0] rfl (by (try simp only [List.map_toArray, List.map_cons, List.map_nil]); first | done | rfl | (simp only [List.length_drop, List.length_take]; rfl)) ?_; (with_reducible refine (interchangeref03_table.calls k a0 t143 t144 t145 _ A2.out).mono ?_); rintro e w' ⟨rfl, ⟨nd, rfl⟩⟩; refine ⟨_, rfl, ?_⟩))
      go_ret2
      exact ⟨by first | rfl | (simp; done) | (simp [*]; done), by repeat (first | exact Drawn0.refl _ | apply Drawn0.step)⟩
    · rw [if_neg c4] at H
      have c4b0 : decide (0 < (t143.size : Int)) = false := decide_eq_false c4
      have c4b1 : decide (0 < t143.size) = false := decide_eq_false (by omega)
      clear c4
      simp only [Option.some.injEq, Prod.mk.injEq] at H
      obtain ⟨rfl, rfl⟩ := H
      go_enter Tryd.func13, Tryd.ntmps13
      go_wp2_with (first | ((with_reducible refine gate_callee (f := 32) rfl ?_); refine goesL_ (some 9) rfl rfl Tryd.func32 (by kernel_rfl) rfl #[.string a0] rfl (by (try simp only [List.map_toArray, List.map_cons, List.map_nil]); first | done | rfl | (simp only [List.length_drop, List.length_take]; rfl)) ?_; (with_reducible refine (interchangeref03_table.calls k a0 t143 t144 t145 _ A2.out).mono ?_); rintro e w' ⟨rfl, ⟨nd, rfl⟩⟩; refine ⟨_, rfl, ?_⟩))
      go_ret2
      exact ⟨by first | rfl | (simp; done) | (simp [*]; done), by repeat (first | exact Drawn0.refl _ | apply Drawn0.step)⟩
  · rw [if_neg c3] at H
    have c3b0 : (t145 == 0) = false := beq_eq_false_iff_ne.mpr c3
    have c3b1 : (t145 != 0) = true := bne_iff_ne.mpr c3
    simp only [Option.some.injEq, Prod.mk.injEq] at H
    obtain ⟨rfl, rfl⟩ := H
    go_enter Tryd.func13, Tryd.ntmps13
    go_wp2_with (first | ((with_reducible refine gate_callee (f := 32) rfl ?_); refine goesL_ (some 9) rfl rfl Tryd.func32 (by kernel_rfl) rfl #[.string a0] rfl (by (try simp only [List.map_toArray, List.map_cons, List.map_nil]); first | done | rfl | (simp only [List.length_drop, List.length_take]; rfl)) ?_; (with_reducible refine (interchangeref03_table.calls k a0 t143 t144 t145 _ A2.out).mono ?_); rintro e w' ⟨rfl, ⟨nd, rfl⟩⟩; refine ⟨_, rfl, ?_⟩))
    go_ret2
    exact ⟨by first | rfl | (simp; done) | (simp [*]; done), by repeat (first | exact Drawn0.refl _ | apply Drawn0.step)⟩


end Go.Proofs.YthdkmohelampbaaDoor.F
