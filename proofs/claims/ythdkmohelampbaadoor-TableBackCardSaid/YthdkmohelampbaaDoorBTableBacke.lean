/- What is made is taken, whatever stands behind it; its keys are those that it was made with; the first value of each is found, for every input. -/
import Derived.Test.YthdkmohelampbaaDoorCards
import Derived.Test.YthdkmohelampbaaDoorTie
import Derived.WalkKit
import Derived.ProofKit
import Derived.OpenShut
import Derived.Deep.DeepHandedRow
import Derived.Lib.LaidTab
import Derived.SizedLaws
import Derived.Carry
import Derived.SevenTiedAt
import Derived.Test.YthdkmohelampbaaDoorBTableBacka
import Derived.Test.YthdkmohelampbaaDoorBTableBackb
import Derived.Test.YthdkmohelampbaaDoorBTableBackc
import Derived.Test.YthdkmohelampbaaDoorBTableBackd
namespace Go.Proofs.YthdkmohelampbaaDoor.F
open Go.RowKit Go.Proofs.YthdkmohelampbaaDoorW.PrintWords Go.Proofs.YthdkmohelampbaaDoorW.PrintLast Go.Proofs.YthdkmohelampbaaDoorW.PrintMore
set_option linter.unusedVariables false
set_option linter.unusedSimpArgs false
open Go.Maps
/-- (what is left, how deep, why not) -/
abbrev Rk := ByteArray × Int × Int
def rItems (val : ByteArray → Int → Rk) (fields : Bool) (depth : Int) : Nat → ByteArray → Int → Int × Int
  | 0, _, dp => (dp, 0)
  | k + 1, s, dp => if s.size = 0 then (dp, 0) else
      if fields = true ∧ ¬ (ltakeR 1 s).2.2 = 0 then (0, 3) else
      if (if (val (if fields = true then (ltakeR 1 s).2.1 else s) depth).2.2 = 2 then 3 else (val (if fields = true then (ltakeR 1 s).2.1 else s) depth).2.2) = 0 then
        rItems val fields depth k (val (if fields = true then (ltakeR 1 s).2.1 else s) depth).1 (if dp < (val (if fields = true then (ltakeR 1 s).2.1 else s) depth).2.1 then (val (if fields = true then (ltakeR 1 s).2.1 else s) depth).2.1 else dp)
      else (0, if (val (if fields = true then (ltakeR 1 s).2.1 else s) depth).2.2 = 2 then 3 else (val (if fields = true then (ltakeR 1 s).2.1 else s) depth).2.2)
def rRow (val : ByteArray → Int → Rk) (s : ByteArray) (depth : Int) (fields : Bool) : Int × Int := rItems val fields depth s.size s depth
def rVal : Nat → ByteArray → Int → Rk
  | 0, _, _ => (⟨#[]⟩, 0, 2)
  | k + 1, s, depth => if s.size = 0 then (⟨#[]⟩, 0, 2) else
      match sizeU (kindOf s) with
      | some n => if s.size < 1 + n then (⟨#[]⟩, 0, 2) else (s.extract (1 + n) s.size, depth, 0)
      | none => if kindOf s = 83 ∨ kindOf s = 120 then (if (ltakeR 4 (tailOf s)).2.2 = 0 then ((ltakeR 4 (tailOf s)).2.1, depth, 0) else (⟨#[]⟩, 0, 2))
        else if kindOf s = 65 then (if (ltakeR 4 (tailOf s)).2.2 = 0 then (if 32 ≤ depth then (⟨#[]⟩, 0, 5) else ((ltakeR 4 (tailOf s)).2.1, (rRow (rVal k) (ltakeR 4 (tailOf s)).1 (depth + 1) false).1, (rRow (rVal k) (ltakeR 4 (tailOf s)).1 (depth + 1) false).2)) else (⟨#[]⟩, 0, 2))
        else if kindOf s = 70 then (if (ltakeR 4 (tailOf s)).2.2 = 0 then (if 32 ≤ depth then (⟨#[]⟩, 0, 5) else ((ltakeR 4 (tailOf s)).2.1, (rRow (rVal k) (ltakeR 4 (tailOf s)).1 (depth + 1) true).1, (rRow (rVal k) (ltakeR 4 (tailOf s)).1 (depth + 1) true).2)) else (⟨#[]⟩, 0, 2))
        else (⟨#[]⟩, 0, 3)
/-- what is taken is something -/
def RLess (val : ByteArray → Int → Rk) : Prop := ∀ s depth, (val s depth).2.2 = 0 → (val s depth).1.size < s.size
theorem rval_less (k : Nat) : RLess (rVal k) := by
  intro s depth h
  cases k with
  | zero => exact absurd h (show ¬ (2 : Int) = 0 by decide)
  | succ k =>
    have h2 : ¬ (2 : Int) = 0 := by decide
    have h5 : ¬ (5 : Int) = 0 := by decide
    have h3 : ¬ (3 : Int) = 0 := by decide
    simp only [rVal] at h ⊢
    by_cases h0 : s.size = 0
    · rw [if_pos h0] at h; exact absurd h h2
    rw [if_neg h0] at h ⊢
    have ht := tail_size h0
    have hl := ltake_less (n := 4) (t := tailOf s)
    cases hs : sizeU (kindOf s) with
    | some n =>
      rw [hs] at h
      simp only at h ⊢
      by_cases hn : s.size < 1 + n
      · rw [if_pos hn] at h; exact absurd h h2
      · rw [if_neg hn]
        simp only
        rw [extract_size']
        omega
    | none =>
      rw [hs] at h
      simp only at h ⊢
      by_cases e : (ltakeR 4 (tailOf s)).2.2 = 0
      · replace hl := hl e (by decide) isW4
        simp only [if_pos e] at h ⊢
        by_cases hd : 32 ≤ depth
        · simp only [if_pos hd] at h ⊢
          by_cases c1 : kindOf s = 83 ∨ kindOf s = 120
          · rw [if_pos c1]; simp only; omega
          · rw [if_neg c1] at h ⊢
            by_cases c2 : kindOf s = 65
            · rw [if_pos c2] at h; exact absurd h h5
            · rw [if_neg c2] at h ⊢
              by_cases c3 : kindOf s = 70
              · rw [if_pos c3] at h; exact absurd h h5
              · rw [if_neg c3] at h; exact absurd h h3
        · simp only [if_neg hd] at h ⊢
          by_cases c1 : kindOf s = 83 ∨ kindOf s = 120
          · rw [if_pos c1]; simp only; omega
          · rw [if_neg c1] at h ⊢
            by_cases c2 : kindOf s = 65
            · rw [if_pos c2]; simp only; omega
            · rw [if_neg c2] at h ⊢
              by_cases c3 : kindOf s = 70
              · rw [if_pos c3]; simp only; omega
              · rw [if_neg c3] at h; exact absurd h h3
      · simp only [if_neg e] at h
        by_cases c1 : kindOf s = 83 ∨ kindOf s = 120
        · rw [if_pos c1] at h; exact absurd h h2
        · rw [if_neg c1] at h
          by_cases c2 : kindOf s = 65
          · rw [if_pos c2] at h; exact absurd h h2
          · rw [if_neg c2] at h
            by_cases c3 : kindOf s = 70
            · rw [if_pos c3] at h; exact absurd h h2
            · rw [if_neg c3] at h; exact absurd h h3
set_option maxHeartbeats 4000000 in
set_option maxRecDepth 100000 in
theorem row_calls (val : ByteArray → Int → Rk) (hless : RLess val) (s : ByteArray) (hz : s.size ≤ 4611686018427387904) (depth : Int) (fields : Bool)
    (hval : ∀ (i : ByteArray) (W : World), i.size ≤ s.size → Calls Tryd.prog 35 #[.string i, .int .i64 depth] W fun e w' => e = .returned (.tuple #[.string (val i depth).1, .int .i64 (val i depth).2.1, .int .i64 (val i depth).2.2]) ∧ Drawn0 W w') (w : World) :
    Calls Tryd.prog 43 #[.string s, .int .i64 depth, .bool fields] w fun e w' => e = .returned (.tuple #[.int .i64 (rRow val s depth fields).1, .int .i64 (rRow val s depth fields).2]) ∧ Drawn0 w w' := by
  generalize hR : rRow val s depth fields = res
  unfold rRow at hR
  have HR := Aside0.mk hR
  clear hR
  go_enter Tryd.func43, Tryd.ntmps43
  go_wp2
  go_loopw [0, 8] (fun v0 v8 wr => ∃ (i : ByteArray) (dp : Int) (k : Nat), v0 = .string i ∧ v8 = .int .i64 dp ∧ Aside0 (i.size ≤ k) ∧ Aside0 (i.size ≤ s.size) ∧ Aside0 (rItems val fields depth k i dp = res) ∧ Drawn0 w wr) (fun v0 _ _ => match v0 with | .string i => i.size | _ => 0)
  case atStart => exact ⟨s, depth, s.size, rfl, rfl, ⟨Nat.le_refl _⟩, ⟨Nat.le_refl _⟩, HR, Drawn0.refl _⟩
  case round =>
    clear HR
    obtain ⟨i, dp, k, rfl, rfl, hk, hq, hit, ⟨nw, rfl⟩⟩ := hrel
    by_cases h0 : i.size = 0
    · have hri : rItems val fields depth k i dp = (dp, 0) := by
        cases k with
        | zero => rfl
        | succ k => rw [rItems, if_pos h0]
      have hres : res = (dp, 0) := by rw [← hit.out, hri]
      have hd0 : decide ((0 : Int) < (i.size : Int)) = false := by rw [h0]; rfl
      subst hres
      go_wp2
      go_ret2
      exact ⟨rfl, nw, rfl⟩
    · have hd0 : decide ((0 : Int) < (i.size : Int)) = true := decide_eq_true (by omega)
      obtain ⟨k, rfl⟩ : ∃ k', k = k' + 1 := ⟨k - 1, by have := hk.out; omega⟩
      have hit' := hit.out
      rw [rItems, if_neg h0] at hit'
      cases fields with
      | true =>
        have htk := Aside0.mk (rtshort_f i (by have := hq.out; omega))
        have hsm := ltake_less (n := 1) (t := i)
        simp only [if_true] at hit'
        generalize ltakeR 1 i = t at htk hsm hit'
        obtain ⟨t1, t2, t3⟩ := t
        simp only at hsm hit'
        by_cases e : t3 = 0
        · subst e
          replace hsm := hsm rfl (by decide) isW1
          rw [if_neg (fun h => h.2 rfl)] at hit'
          have hv := fun W => hval t2 W (by have := hq.out; omega)
          have hlo := hless t2 depth
          generalize val t2 depth = o at hit' hv hlo
          obtain ⟨o1, o2, o3⟩ := o
          simp only at hit' hlo hv
          by_cases e2 : o3 = 2
          · subst e2
            have hres : res = (0, 3) := by rw [← hit']; rfl
            subst hres
            clear hit'
            go_wp2_with (first | (go_at_call 47; refine (interchangeref02_TakeShort.calls _ _ _ _ _ htk.out).mono ?_; rintro e w' ⟨rfl, ⟨nd0, rfl⟩⟩) | (go_at_call 35; refine (hv _).mono ?_; rintro e w' ⟨rfl, ⟨nd, rfl⟩⟩))
            go_ret2
            exact ⟨rfl, ⟨_, rfl⟩⟩
          · rw [if_neg e2] at hit'
            have e2' : (o3 == 2) = false := by simpa using e2
            by_cases e0 : o3 = 0
            · subst e0
              rw [if_pos rfl] at hit'
              replace hlo := hlo rfl
              have HIT := Aside0.mk hit'
              clear hit'
              by_cases hdp : dp < o2
              · rw [if_pos hdp] at HIT
                have hdp' : decide (dp < o2) = true := decide_eq_true hdp
                go_wp2_with (first | (go_at_call 47; refine (interchangeref02_TakeShort.calls _ _ _ _ _ htk.out).mono ?_; rintro e w' ⟨rfl, ⟨nd0, rfl⟩⟩) | (go_at_call 35; refine (hv _).mono ?_; rintro e w' ⟨rfl, ⟨nd, rfl⟩⟩))
                exact ⟨⟨o1, o2, k, rfl, rfl, ⟨by have := hk.out; omega⟩, ⟨by have := hq.out; omega⟩, HIT, ⟨_, rfl⟩⟩, by show o1.size < i.size; omega⟩
              · rw [if_neg hdp] at HIT
                have hdp' : decide (dp < o2) = false := decide_eq_false hdp
                go_wp2_with (first | (go_at_call 47; refine (interchangeref02_TakeShort.calls _ _ _ _ _ htk.out).mono ?_; rintro e w' ⟨rfl, ⟨nd0, rfl⟩⟩) | (go_at_call 35; refine (hv _).mono ?_; rintro e w' ⟨rfl, ⟨nd, rfl⟩⟩))
                exact ⟨⟨o1, dp, k, rfl, rfl, ⟨by have := hk.out; omega⟩, ⟨by have := hq.out; omega⟩, HIT, ⟨_, rfl⟩⟩, by show o1.size < i.size; omega⟩
            · rw [if_neg e0] at hit'
              have e0' : (o3 != 0) = true := by simpa using e0
              subst hit'
              go_wp2_with (first | (go_at_call 47; refine (interchangeref02_TakeShort.calls _ _ _ _ _ htk.out).mono ?_; rintro e w' ⟨rfl, ⟨nd0, rfl⟩⟩) | (go_at_call 35; refine (hv _).mono ?_; rintro e w' ⟨rfl, ⟨nd, rfl⟩⟩))
              go_ret2
              exact ⟨rfl, ⟨_, rfl⟩⟩
        · have e' : (t3 != 0) = true := by simpa using e
          rw [if_pos ⟨trivial, e⟩] at hit'
          subst hit'
          clear hsm
          go_wp2_with (first | (go_at_call 47; refine (interchangeref02_TakeShort.calls _ _ _ _ _ htk.out).mono ?_; rintro e w' ⟨rfl, ⟨nd0, rfl⟩⟩) )
          go_ret2
          exact ⟨rfl, ⟨_, rfl⟩⟩
      | false =>
        rw [if_neg (fun h => Bool.noConfusion h.1)] at hit'
        simp only [Bool.false_eq_true, if_false] at hit'
        have hv := fun W => hval i W (by exact hq.out)
        have hlo := hless i depth
        generalize val i depth = o at hit' hv hlo
        obtain ⟨o1, o2, o3⟩ := o
        simp only at hit' hlo hv
        by_cases e2 : o3 = 2
        · subst e2
          have hres : res = (0, 3) := by rw [← hit']; rfl
          subst hres
          clear hit'
          go_wp2_with (first | (go_at_call 35; refine (hv _).mono ?_; rintro e w' ⟨rfl, ⟨nd, rfl⟩⟩))
          go_ret2
          exact ⟨rfl, ⟨_, rfl⟩⟩
        · rw [if_neg e2] at hit'
          have e2' : (o3 == 2) = false := by simpa using e2
          by_cases e0 : o3 = 0
          · subst e0
            rw [if_pos rfl] at hit'
            replace hlo := hlo rfl
            have HIT := Aside0.mk hit'
            clear hit'
            by_cases hdp : dp < o2
            · rw [if_pos hdp] at HIT
              have hdp' : decide (dp < o2) = true := decide_eq_true hdp
              go_wp2_with (first | (go_at_call 35; refine (hv _).mono ?_; rintro e w' ⟨rfl, ⟨nd, rfl⟩⟩))
              exact ⟨⟨o1, o2, k, rfl, rfl, ⟨by have := hk.out; omega⟩, ⟨by have := hq.out; omega⟩, HIT, ⟨_, rfl⟩⟩, by show o1.size < i.size; omega⟩
            · rw [if_neg hdp] at HIT
              have hdp' : decide (dp < o2) = false := decide_eq_false hdp
              go_wp2_with (first | (go_at_call 35; refine (hv _).mono ?_; rintro e w' ⟨rfl, ⟨nd, rfl⟩⟩))
              exact ⟨⟨o1, dp, k, rfl, rfl, ⟨by have := hk.out; omega⟩, ⟨by have := hq.out; omega⟩, HIT, ⟨_, rfl⟩⟩, by show o1.size < i.size; omega⟩
          · rw [if_neg e0] at hit'
            have e0' : (o3 != 0) = true := by simpa using e0
            subst hit'
            go_wp2_with (first | (go_at_call 35; refine (hv _).mono ?_; rintro e w' ⟨rfl, ⟨nd, rfl⟩⟩))
            go_ret2
            exact ⟨rfl, ⟨_, rfl⟩⟩
theorem sizeU_le {c n : Nat} (h : sizeU c = some n) : n ≤ 8 := by
  unfold sizeU at h
  repeat' split at h
  all_goals first | (cases h; decide) | cases h
theorem kind_at {s : ByteArray} (h : 0 < s.size) : (kindOf s : Int) = ((s[0]'h).toNat : Int) := by
  unfold kindOf
  obtain ⟨⟨l⟩⟩ := s
  cases l with
  | nil => exact absurd h (by decide)
  | cons a l => rfl
set_option maxHeartbeats 4000000 in
set_option maxRecDepth 100000 in
theorem rval_calls : ∀ (k : Nat) (s : ByteArray) (hz : s.size ≤ 4611686018427387904) (hk : s.size < k) (depth : Int) (hd0 : 0 ≤ depth) (hd1 : depth ≤ 32) (w : World),
    Calls Tryd.prog 35 #[.string s, .int .i64 depth] w fun e w' => e = .returned (.tuple #[.string (rVal k s depth).1, .int .i64 (rVal k s depth).2.1, .int .i64 (rVal k s depth).2.2]) ∧ Drawn0 w w' := by
  intro k
  induction k with
  | zero => intro s hz hk; omega
  | succ k ih =>
    intro s hz hk depth hd0 hd1 w
    generalize hw : rVal (k + 1) s depth = res
    rw [rVal] at hw
    by_cases h0 : s.size = 0
    · rw [if_pos h0] at hw
      subst hw
      have hd : ((s.size : Int) == 0) = true := by rw [h0]; rfl
      go_enter Tryd.func35, Tryd.ntmps35
      go_wp2
      refine bodyPost_ret (results_tmp3 rfl _ _ _) rfl ?_
      exact ⟨rfl, Drawn0.refl _⟩
    · rw [if_neg h0] at hw
      have hd : ((s.size : Int) == 0) = false := beq_eq_false_iff_ne.mpr (by omega)
      have hpos : 0 < s.size := by omega
      have hts := tail_size h0
      obtain ⟨b, hb⟩ : ∃ b : UInt8, kindOf s = b.toNat := ⟨_, rfl⟩
      have hx : ∀ h : 0 < s.size, ((s[0]'h).toNat : Int) = (b.toNat : Int) := by intro h; rw [← hb, kind_at h]
      have hsz := Aside0.mk (rsize_k (k := 40) (Nat.le_refl _) b)
      rw [hb] at hw
      clear hb
      generalize b.toNat = c at hx hsz hw
      unfold sizeI at hsz
      cases hs : sizeU c with
      | some n =>
        rw [hs] at hw hsz
        simp only at hw hsz
        have hn := sizeU_le hs
        have hn0 : decide ((0 : Int) ≤ (n : Int)) = true := decide_eq_true (by omega)
        have hwr : IntKind.i64.wrap (1 + (n : Int)) = 1 + (n : Int) := by rw [i64_w]; exact wrap64_of (by omega) (by omega)
        have hnt : (1 + (n : Int)).toNat = 1 + n := by omega
        by_cases hl : s.size < 1 + n
        · rw [if_pos hl] at hw
          subst hw
          have hl' : decide ((s.size : Int) < 1 + (n : Int)) = true := decide_eq_true (by omega)
          go_enter Tryd.func35, Tryd.ntmps35
          go_wp2_with (first | (go_at_call 46; refine (interchangeref03_size.calls _ _ _ _ hsz.out).mono ?_; rintro e w' ⟨rfl, ⟨nd0, rfl⟩⟩))
          refine bodyPost_ret (results_tmp3 rfl _ _ _) rfl ?_
          exact ⟨rfl, ⟨_, rfl⟩⟩
        · rw [if_neg hl] at hw
          subst hw
          have hl' : decide ((s.size : Int) < 1 + (n : Int)) = false := decide_eq_false (by omega)
          have hl2 : (1 + (n : Int)) ≤ (s.size : Int) := by omega
          have hl3 : (0 : Int) ≤ 1 + (n : Int) := by omega
          go_enter Tryd.func35, Tryd.ntmps35
          go_wp2_with (first | (go_at_call 46; refine (interchangeref03_size.calls _ _ _ _ hsz.out).mono ?_; rintro e w' ⟨rfl, ⟨nd0, rfl⟩⟩))
          refine bodyPost_ret (results_tmp3 rfl _ _ _) rfl ?_
          exact ⟨rfl, ⟨_, rfl⟩⟩
      | none =>
        rw [hs] at hw hsz
        simp only at hw hsz
        clear hs
        have hfl := ltake_fail (n := 4) (t := tailOf s)
        have hsm := ltake_less (n := 4) (t := tailOf s)
        by_cases e83 : c = 83
        · rw [if_pos (.inl e83)] at hw
          rw [show (c : Int) = 83 from by omega] at hx hsz
          have hin := Aside0.mk (rinside_k (k := 12) (by decide) (tailOf s) (by omega))
          generalize ltakeR 4 (tailOf s) = t at hin hw hfl hsm
          obtain ⟨t1, t2, t3⟩ := t
          simp only at hw hfl hsm
          by_cases e : t3 = 0
          · subst e
            rw [if_pos rfl] at hw
            subst hw
            clear hsm
            go_enter Tryd.func35, Tryd.ntmps35
            go_wp2_with (first | (go_at_call 46; refine (interchangeref03_size.calls _ _ _ _ hsz.out).mono ?_; rintro e w' ⟨rfl, ⟨nd0, rfl⟩⟩) | (go_at_call 42; refine (interchangeref03_inside.calls 12 (tailOf s) _ _ _ _ hin.out).mono ?_; rintro e w' ⟨rfl, ⟨nd1, rfl⟩⟩))
            repeat (go_quiet (fail); try go_wp2_with (first | (go_at_call 46; refine (interchangeref03_size.calls _ _ _ _ hsz.out).mono ?_; rintro e w' ⟨rfl, ⟨nd0, rfl⟩⟩) | (go_at_call 42; refine (interchangeref03_inside.calls 12 (tailOf s) _ _ _ _ hin.out).mono ?_; rintro e w' ⟨rfl, ⟨nd1, rfl⟩⟩)))
            refine bodyPost_ret (results_tmp3 rfl _ _ _) rfl ?_
            exact ⟨rfl, ⟨_, rfl⟩⟩
          · rw [if_neg e] at hw
            have e' : (t3 != 0) = true := by simpa using e
            obtain ⟨-, -, rfl⟩ := tup3 (hfl e isW4)
            subst hw
            clear hsm
            go_enter Tryd.func35, Tryd.ntmps35
            go_wp2_with (first | (go_at_call 46; refine (interchangeref03_size.calls _ _ _ _ hsz.out).mono ?_; rintro e w' ⟨rfl, ⟨nd0, rfl⟩⟩) | (go_at_call 42; refine (interchangeref03_inside.calls 12 (tailOf s) _ _ _ _ hin.out).mono ?_; rintro e w' ⟨rfl, ⟨nd1, rfl⟩⟩))
            repeat (go_quiet (fail); try go_wp2_with (first | (go_at_call 46; refine (interchangeref03_size.calls _ _ _ _ hsz.out).mono ?_; rintro e w' ⟨rfl, ⟨nd0, rfl⟩⟩) | (go_at_call 42; refine (interchangeref03_inside.calls 12 (tailOf s) _ _ _ _ hin.out).mono ?_; rintro e w' ⟨rfl, ⟨nd1, rfl⟩⟩)))
            refine bodyPost_ret (results_tmp3 rfl _ _ _) rfl ?_
            exact ⟨rfl, ⟨_, rfl⟩⟩
        by_cases e120 : c = 120
        · rw [if_pos (.inr e120)] at hw
          rw [show (c : Int) = 120 from by omega] at hx hsz
          have hin := Aside0.mk (rinside_k (k := 12) (by decide) (tailOf s) (by omega))
          generalize ltakeR 4 (tailOf s) = t at hin hw hfl hsm
          obtain ⟨t1, t2, t3⟩ := t
          simp only at hw hfl hsm
          by_cases e : t3 = 0
          · subst e
            rw [if_pos rfl] at hw
            subst hw
            clear hsm
            go_enter Tryd.func35, Tryd.ntmps35
            go_wp2_with (first | (go_at_call 46; refine (interchangeref03_size.calls _ _ _ _ hsz.out).mono ?_; rintro e w' ⟨rfl, ⟨nd0, rfl⟩⟩) | (go_at_call 42; refine (interchangeref03_inside.calls 12 (tailOf s) _ _ _ _ hin.out).mono ?_; rintro e w' ⟨rfl, ⟨nd1, rfl⟩⟩))
            repeat (go_quiet (fail); try go_wp2_with (first | (go_at_call 46; refine (interchangeref03_size.calls _ _ _ _ hsz.out).mono ?_; rintro e w' ⟨rfl, ⟨nd0, rfl⟩⟩) | (go_at_call 42; refine (interchangeref03_inside.calls 12 (tailOf s) _ _ _ _ hin.out).mono ?_; rintro e w' ⟨rfl, ⟨nd1, rfl⟩⟩)))
            refine bodyPost_ret (results_tmp3 rfl _ _ _) rfl ?_
            exact ⟨rfl, ⟨_, rfl⟩⟩
          · rw [if_neg e] at hw
            have e' : (t3 != 0) = true := by simpa using e
            obtain ⟨-, -, rfl⟩ := tup3 (hfl e isW4)
            subst hw
            clear hsm
            go_enter Tryd.func35, Tryd.ntmps35
            go_wp2_with (first | (go_at_call 46; refine (interchangeref03_size.calls _ _ _ _ hsz.out).mono ?_; rintro e w' ⟨rfl, ⟨nd0, rfl⟩⟩) | (go_at_call 42; refine (interchangeref03_inside.calls 12 (tailOf s) _ _ _ _ hin.out).mono ?_; rintro e w' ⟨rfl, ⟨nd1, rfl⟩⟩))
            repeat (go_quiet (fail); try go_wp2_with (first | (go_at_call 46; refine (interchangeref03_size.calls _ _ _ _ hsz.out).mono ?_; rintro e w' ⟨rfl, ⟨nd0, rfl⟩⟩) | (go_at_call 42; refine (interchangeref03_inside.calls 12 (tailOf s) _ _ _ _ hin.out).mono ?_; rintro e w' ⟨rfl, ⟨nd1, rfl⟩⟩)))
            refine bodyPost_ret (results_tmp3 rfl _ _ _) rfl ?_
            exact ⟨rfl, ⟨_, rfl⟩⟩
        rw [if_neg (by omega)] at hw
        by_cases e65 : c = 65
        · rw [if_pos e65] at hw
          rw [show (c : Int) = 65 from by omega] at hx hsz
          have hin := Aside0.mk (rinside_k (k := 12) (by decide) (tailOf s) (by omega))
          generalize ltakeR 4 (tailOf s) = t at hin hw hfl hsm
          obtain ⟨t1, t2, t3⟩ := t
          simp only at hw hfl hsm
          by_cases e : t3 = 0
          · subst e
            rw [if_pos rfl] at hw
            replace hsm := hsm rfl (by decide) isW4
            by_cases hdp : 32 ≤ depth
            · rw [if_pos hdp] at hw
              have hdp' : decide (32 ≤ depth) = true := decide_eq_true hdp
              subst hw
              go_enter Tryd.func35, Tryd.ntmps35
              go_wp2_with (first | (go_at_call 46; refine (interchangeref03_size.calls _ _ _ _ hsz.out).mono ?_; rintro e w' ⟨rfl, ⟨nd0, rfl⟩⟩) | (go_at_call 42; refine (interchangeref03_inside.calls 12 (tailOf s) _ _ _ _ hin.out).mono ?_; rintro e w' ⟨rfl, ⟨nd1, rfl⟩⟩))
              repeat (go_quiet (fail); try go_wp2_with (first | (go_at_call 46; refine (interchangeref03_size.calls _ _ _ _ hsz.out).mono ?_; rintro e w' ⟨rfl, ⟨nd0, rfl⟩⟩) | (go_at_call 42; refine (interchangeref03_inside.calls 12 (tailOf s) _ _ _ _ hin.out).mono ?_; rintro e w' ⟨rfl, ⟨nd1, rfl⟩⟩)))
              refine bodyPost_ret (results_tmp3 rfl _ _ _) rfl ?_
              exact ⟨rfl, ⟨_, rfl⟩⟩
            · rw [if_neg hdp] at hw
              have hdp' : decide (32 ≤ depth) = false := decide_eq_false hdp
              have hrow := row_calls (rVal k) (rval_less k) t1 (by omega) (depth + 1) false (fun i W hi => ih i (by omega) (by omega) (depth + 1) (by omega) (by omega) W)
              generalize rRow (rVal k) t1 (depth + 1) false = r at hrow hw
              subst hw
              have hdw : IntKind.i64.wrap (depth + 1) = depth + 1 := by rw [i64_w]; exact wrap64_of (by omega) (by omega)
              go_enter Tryd.func35, Tryd.ntmps35
              go_wp2_with (first | (go_at_call 46; refine (interchangeref03_size.calls _ _ _ _ hsz.out).mono ?_; rintro e w' ⟨rfl, ⟨nd0, rfl⟩⟩) | (go_at_call 42; refine (interchangeref03_inside.calls 12 (tailOf s) _ _ _ _ hin.out).mono ?_; rintro e w' ⟨rfl, ⟨nd1, rfl⟩⟩) | (go_at_call 43; refine (hrow _).mono ?_; rintro e w' ⟨rfl, ⟨nd2, rfl⟩⟩))
              repeat (go_quiet (fail); try go_wp2_with (first | (go_at_call 46; refine (interchangeref03_size.calls _ _ _ _ hsz.out).mono ?_; rintro e w' ⟨rfl, ⟨nd0, rfl⟩⟩) | (go_at_call 42; refine (interchangeref03_inside.calls 12 (tailOf s) _ _ _ _ hin.out).mono ?_; rintro e w' ⟨rfl, ⟨nd1, rfl⟩⟩) | (go_at_call 43; refine (hrow _).mono ?_; rintro e w' ⟨rfl, ⟨nd2, rfl⟩⟩)))
              refine bodyPost_ret (results_tmp3 rfl _ _ _) rfl ?_
              exact ⟨rfl, ⟨_, rfl⟩⟩
          · rw [if_neg e] at hw
            have e' : (t3 != 0) = true := by simpa using e
            obtain ⟨-, -, rfl⟩ := tup3 (hfl e isW4)
            subst hw
            clear hsm
            go_enter Tryd.func35, Tryd.ntmps35
            go_wp2_with (first | (go_at_call 46; refine (interchangeref03_size.calls _ _ _ _ hsz.out).mono ?_; rintro e w' ⟨rfl, ⟨nd0, rfl⟩⟩) | (go_at_call 42; refine (interchangeref03_inside.calls 12 (tailOf s) _ _ _ _ hin.out).mono ?_; rintro e w' ⟨rfl, ⟨nd1, rfl⟩⟩))
            repeat (go_quiet (fail); try go_wp2_with (first | (go_at_call 46; refine (interchangeref03_size.calls _ _ _ _ hsz.out).mono ?_; rintro e w' ⟨rfl, ⟨nd0, rfl⟩⟩) | (go_at_call 42; refine (interchangeref03_inside.calls 12 (tailOf s) _ _ _ _ hin.out).mono ?_; rintro e w' ⟨rfl, ⟨nd1, rfl⟩⟩)))
            refine bodyPost_ret (results_tmp3 rfl _ _ _) rfl ?_
            exact ⟨rfl, ⟨_, rfl⟩⟩
        rw [if_neg e65] at hw
        by_cases e70 : c = 70
        · rw [if_pos e70] at hw
          rw [show (c : Int) = 70 from by omega] at hx hsz
          have hin := Aside0.mk (rinside_k (k := 12) (by decide) (tailOf s) (by omega))
          generalize ltakeR 4 (tailOf s) = t at hin hw hfl hsm
          obtain ⟨t1, t2, t3⟩ := t
          simp only at hw hfl hsm
          by_cases e : t3 = 0
          · subst e
            rw [if_pos rfl] at hw
            replace hsm := hsm rfl (by decide) isW4
            by_cases hdp : 32 ≤ depth
            · rw [if_pos hdp] at hw
              have hdp' : decide (32 ≤ depth) = true := decide_eq_true hdp
              subst hw
              go_enter Tryd.func35, Tryd.ntmps35
              go_wp2_with (first | (go_at_call 46; refine (interchangeref03_size.calls _ _ _ _ hsz.out).mono ?_; rintro e w' ⟨rfl, ⟨nd0, rfl⟩⟩) | (go_at_call 42; refine (interchangeref03_inside.calls 12 (tailOf s) _ _ _ _ hin.out).mono ?_; rintro e w' ⟨rfl, ⟨nd1, rfl⟩⟩))
              repeat (go_quiet (fail); try go_wp2_with (first | (go_at_call 46; refine (interchangeref03_size.calls _ _ _ _ hsz.out).mono ?_; rintro e w' ⟨rfl, ⟨nd0, rfl⟩⟩) | (go_at_call 42; refine (interchangeref03_inside.calls 12 (tailOf s) _ _ _ _ hin.out).mono ?_; rintro e w' ⟨rfl, ⟨nd1, rfl⟩⟩)))
              refine bodyPost_ret (results_tmp3 rfl _ _ _) rfl ?_
              exact ⟨rfl, ⟨_, rfl⟩⟩
            · rw [if_neg hdp] at hw
              have hdp' : decide (32 ≤ depth) = false := decide_eq_false hdp
              have hrow := row_calls (rVal k) (rval_less k) t1 (by omega) (depth + 1) true (fun i W hi => ih i (by omega) (by omega) (depth + 1) (by omega) (by omega) W)
              generalize rRow (rVal k) t1 (depth + 1) true = r at hrow hw
              subst hw
              have hdw : IntKind.i64.wrap (depth + 1) = depth + 1 := by rw [i64_w]; exact wrap64_of (by omega) (by omega)
              go_enter Tryd.func35, Tryd.ntmps35
              go_wp2_with (first | (go_at_call 46; refine (interchangeref03_size.calls _ _ _ _ hsz.out).mono ?_; rintro e w' ⟨rfl, ⟨nd0, rfl⟩⟩) | (go_at_call 42; refine (interchangeref03_inside.calls 12 (tailOf s) _ _ _ _ hin.out).mono ?_; rintro e w' ⟨rfl, ⟨nd1, rfl⟩⟩) | (go_at_call 43; refine (hrow _).mono ?_; rintro e w' ⟨rfl, ⟨nd2, rfl⟩⟩))
              repeat (go_quiet (fail); try go_wp2_with (first | (go_at_call 46; refine (interchangeref03_size.calls _ _ _ _ hsz.out).mono ?_; rintro e w' ⟨rfl, ⟨nd0, rfl⟩⟩) | (go_at_call 42; refine (interchangeref03_inside.calls 12 (tailOf s) _ _ _ _ hin.out).mono ?_; rintro e w' ⟨rfl, ⟨nd1, rfl⟩⟩) | (go_at_call 43; refine (hrow _).mono ?_; rintro e w' ⟨rfl, ⟨nd2, rfl⟩⟩)))
              refine bodyPost_ret (results_tmp3 rfl _ _ _) rfl ?_
              exact ⟨rfl, ⟨_, rfl⟩⟩
          · rw [if_neg e] at hw
            have e' : (t3 != 0) = true := by simpa using e
            obtain ⟨-, -, rfl⟩ := tup3 (hfl e isW4)
            subst hw
            clear hsm
            go_enter Tryd.func35, Tryd.ntmps35
            go_wp2_with (first | (go_at_call 46; refine (interchangeref03_size.calls _ _ _ _ hsz.out).mono ?_; rintro e w' ⟨rfl, ⟨nd0, rfl⟩⟩) | (go_at_call 42; refine (interchangeref03_inside.calls 12 (tailOf s) _ _ _ _ hin.out).mono ?_; rintro e w' ⟨rfl, ⟨nd1, rfl⟩⟩))
            repeat (go_quiet (fail); try go_wp2_with (first | (go_at_call 46; refine (interchangeref03_size.calls _ _ _ _ hsz.out).mono ?_; rintro e w' ⟨rfl, ⟨nd0, rfl⟩⟩) | (go_at_call 42; refine (interchangeref03_inside.calls 12 (tailOf s) _ _ _ _ hin.out).mono ?_; rintro e w' ⟨rfl, ⟨nd1, rfl⟩⟩)))
            refine bodyPost_ret (results_tmp3 rfl _ _ _) rfl ?_
            exact ⟨rfl, ⟨_, rfl⟩⟩
        rw [if_neg e70] at hw
        subst hw
        clear hfl hsm
        have c83 : ((c : Int) != 83) = true := bne_iff_ne.mpr (by omega)
        have c120 : ((c : Int) != 120) = true := bne_iff_ne.mpr (by omega)
        have c65 : ((c : Int) != 65) = true := bne_iff_ne.mpr (by omega)
        have c70 : ((c : Int) != 70) = true := bne_iff_ne.mpr (by omega)
        go_enter Tryd.func35, Tryd.ntmps35
        go_wp2_with (first | (go_at_call 46; refine (interchangeref03_size.calls _ _ _ _ hsz.out).mono ?_; rintro e w' ⟨rfl, ⟨nd0, rfl⟩⟩))
        repeat (go_quiet (fail); try go_wp2)
        refine bodyPost_ret (results_tmp3 rfl _ _ _) rfl ?_
        exact ⟨rfl, ⟨_, rfl⟩⟩
def interchangeref03_value.f (a0 : ByteArray) (a1 : Int) : Option (ByteArray × Int × Int) := if a0.size ≤ 4611686018427387904 ∧ 0 ≤ a1 ∧ a1 ≤ 32 then some (rVal (a0.size + 1) a0 a1) else none
def interchangeref03_row.f (a0 : ByteArray) (a1 : Int) (a2 : Bool) : Option (Int × Int) := if a0.size ≤ 4611686018427387904 ∧ 0 ≤ a1 ∧ a1 ≤ 32 then some (rRow (rVal (a0.size + 1)) a0 a1 a2) else none
theorem interchangeref03_value.calls (a0 : ByteArray) (a1 : Int) (r1 : ByteArray) (r2 r3 : Int) (w : World) (h : interchangeref03_value.f a0 a1 = some (r1, r2, r3)) :
    Calls Tryd.prog 35 #[.string a0, .int .i64 a1] w fun e w' => e = .returned (.tuple #[.string r1, .int .i64 r2, .int .i64 r3]) ∧ Drawn0 w w' := by
  unfold interchangeref03_value.f at h
  by_cases e : a0.size ≤ 4611686018427387904 ∧ 0 ≤ a1 ∧ a1 ≤ 32
  · rw [if_pos e] at h
    have := rval_calls (a0.size + 1) a0 e.1 (by omega) a1 e.2.1 e.2.2 w
    rw [Option.some.inj h] at this
    exact this
  · rw [if_neg e] at h; cases h
theorem interchangeref03_row.calls (a0 : ByteArray) (a1 : Int) (a2 : Bool) (r1 r2 : Int) (w : World) (h : interchangeref03_row.f a0 a1 a2 = some (r1, r2)) :
    Calls Tryd.prog 43 #[.string a0, .int .i64 a1, .bool a2] w fun e w' => e = .returned (.tuple #[.int .i64 r1, .int .i64 r2]) ∧ Drawn0 w w' := by
  unfold interchangeref03_row.f at h
  by_cases e : a0.size ≤ 4611686018427387904 ∧ 0 ≤ a1 ∧ a1 ≤ 32
  · rw [if_pos e] at h
    have := row_calls (rVal (a0.size + 1)) (rval_less _) a0 e.1 a1 a2 (fun i W hi => rval_calls (a0.size + 1) i (by omega) (by omega) a1 e.2.1 e.2.2 W) w
    rw [Option.some.inj h] at this
    exact this
  · rw [if_neg e] at h; cases h
end Go.Proofs.YthdkmohelampbaaDoor.F
namespace Go.Proofs.YthdkmohelampbaaDoor.F
open Go.RowKit Go.Proofs.YthdkmohelampbaaDoorW.PrintWords Go.Proofs.YthdkmohelampbaaDoorW.PrintLast Go.Proofs.YthdkmohelampbaaDoorW.PrintMore
set_option linter.unusedVariables false
set_option linter.unusedSimpArgs false
/-- alike: the same error; where there is none, the same rest, and how deep -/
def Alike (d : Int) (t : Tk) (r : Rk) : Prop := t.2.1 = r.2.2 ∧ (t.2.1 = 0 → t.1 = r.1 ∧ t.2.2 = max d r.2.1)
def rOne (val : ByteArray → Int → Rk) (fields : Bool) (s : ByteArray) (depth : Int) : Rk := if fields = true ∧ ¬ (ltakeR 1 s).2.2 = 0 then (⟨#[]⟩, 0, 2) else val (if fields = true then (ltakeR 1 s).2.1 else s) depth
theorem rItems_succ (val : ByteArray → Int → Rk) (fields : Bool) (depth : Int) (k : Nat) (s : ByteArray) (dp : Int) : rItems val fields depth (k + 1) s dp = if s.size = 0 then (dp, 0) else
    if (if (rOne val fields s depth).2.2 = 2 then 3 else (rOne val fields s depth).2.2) = 0 then rItems val fields depth k (rOne val fields s depth).1 (if dp < (rOne val fields s depth).2.1 then (rOne val fields s depth).2.1 else dp)
    else (0, if (rOne val fields s depth).2.2 = 2 then 3 else (rOne val fields s depth).2.2) := by
  rw [rItems]
  unfold rOne
  by_cases e : s.size = 0
  · rw [if_pos e, if_pos e]
  · rw [if_neg e, if_neg e]
    by_cases c : fields = true ∧ ¬ (ltakeR 1 s).2.2 = 0
    · simp only [if_pos c]
      rfl
    · simp only [if_neg c]
theorem items_alike {one : ByteArray → Int → Int → Tk} {val : ByteArray → Int → Rk} {fields : Bool} (hl : Less one) {dep : Int} : ∀ (k : Nat) (s : ByteArray) (d dp : Int), dp ≤ d → dep ≤ dp → (∀ i d, i.size ≤ s.size → dep ≤ d → Alike d (one i dep d) (rOne val fields i dep)) →
    (itemsR one k s dep d).1 = (rItems val fields dep k s dp).2 ∧ ((itemsR one k s dep d).1 = 0 → dp ≤ (rItems val fields dep k s dp).1 ∧ (itemsR one k s dep d).2 = max d (rItems val fields dep k s dp).1)
  | 0, s, d, dp, h, _, _ => ⟨rfl, fun _ => ⟨Int.le_refl _, by show d = max d dp; omega⟩⟩
  | k + 1, s, d, dp, h, h1, H => by
    rw [itemsR, rItems_succ]
    by_cases e : s.size = 0
    · rw [if_pos e, if_pos e]
      exact ⟨rfl, fun _ => ⟨Int.le_refl _, by show d = max d dp; omega⟩⟩
    · rw [if_neg e, if_neg e]
      obtain ⟨a1, a2⟩ := H s d (Nat.le_refl _) (by omega)
      have hls := hl s dep d
      generalize rOne val fields s dep = r at a1 a2 ⊢
      generalize one s dep d = t at a1 a2 hls ⊢
      obtain ⟨t1, t2, t3⟩ := t
      obtain ⟨r1, r2, r3⟩ := r
      simp only at a1 a2 hls ⊢
      subst a1
      by_cases e0 : t2 = 0
      · subst e0
        obtain ⟨rfl, rfl⟩ := a2 rfl
        replace hls := hls rfl
        rw [if_pos (show (if (0 : Int) = 2 then (3 : Int) else 0) = 0 by decide), if_pos (show (if (0 : Int) = 2 then (3 : Int) else 0) = 0 by decide)]
        obtain ⟨m, hm⟩ : ∃ m : Int, m = if dp < r2 then r2 else dp := ⟨_, rfl⟩
        have hm1 : dp ≤ m ∧ r2 ≤ m ∧ m ≤ max d r2 := by rw [hm]; split <;> omega
        rw [← hm]
        obtain ⟨b1, b2⟩ := items_alike hl k t1 (max d r2) m (by omega) (by omega) (fun i d hi hd => H i d (by omega) hd)
        refine ⟨b1, fun h0 => ?_⟩
        obtain ⟨c1, c2⟩ := b2 h0
        exact ⟨by omega, by omega⟩
      · by_cases e2 : t2 = 2
        · subst e2
          exact ⟨rfl, fun h => absurd h (show ¬ (3 : Int) = 0 by decide)⟩
        · rw [if_neg e2, if_neg e0, if_neg e0]
          exact ⟨rfl, fun h => absurd h e0⟩
theorem within_alike {one : ByteArray → Int → Int → Tk} {val : ByteArray → Int → Rk} {fields : Bool} (hl : Less one) {s : ByteArray} {dep d : Int} (hd : dep ≤ d)
    (H : ∀ i d', i.size ≤ (ltakeR 4 s).1.size → dep + 1 ≤ d' → Alike d' (one i (dep + 1) d') (rOne val fields i (dep + 1))) :
    Alike d (withinR one s (dep + 1) d) (if (ltakeR 4 s).2.2 = 0 then (if 32 ≤ dep then (⟨#[]⟩, 0, 5) else ((ltakeR 4 s).2.1, (rRow val (ltakeR 4 s).1 (dep + 1) fields).1, (rRow val (ltakeR 4 s).1 (dep + 1) fields).2)) else (⟨#[]⟩, 0, 2)) := by
  unfold withinR rRow Alike
  by_cases e : (ltakeR 4 s).2.2 = 0
  · have hs := ltake_less e (by decide) isW4
    rw [if_pos e, if_pos e]
    by_cases c : 32 ≤ dep
    · rw [if_pos c, if_neg (show ¬ dep + 1 ≤ 32 by omega)]
      exact ⟨rfl, fun h => absurd h (show ¬ (5 : Int) = 0 by decide)⟩
    · rw [if_neg c, if_pos (show dep + 1 ≤ 32 by omega)]
      obtain ⟨m, hm⟩ : ∃ m : Int, m = if d < dep + 1 then dep + 1 else d := ⟨_, rfl⟩
      have hm1 : dep + 1 ≤ m ∧ m = max d (dep + 1) := by rw [hm]; split <;> omega
      rw [← hm]
      obtain ⟨b1, b2⟩ := items_alike (val := val) (fields := fields) hl (ltakeR 4 s).1.size (ltakeR 4 s).1 m (dep + 1) hm1.1 (Int.le_refl _) (fun i d' hi hd' => H i d' hi hd')
      refine ⟨b1, fun h => ⟨rfl, ?_⟩⟩
      obtain ⟨c1, c2⟩ := b2 h
      show (itemsR one (ltakeR 4 s).1.size (ltakeR 4 s).1 (dep + 1) m).2 = max d (rItems val fields (dep + 1) (ltakeR 4 s).1.size (ltakeR 4 s).1 (dep + 1)).1
      omega
  · rw [if_neg e, if_neg e, ltake_fail e isW4]
    exact ⟨rfl, fun h => absurd h (show ¬ (2 : Int) = 0 by decide)⟩
theorem one_alike {val : ByteArray → Int → Rk} {s : ByteArray} {dep d : Int} (H : ∀ i, i.size ≤ s.size → Alike d (valT i dep d) (val i dep)) : Alike d (fieldR valT s dep d) (rOne val true s dep) := by
  unfold fieldR rOne
  by_cases e : (ltakeR 1 s).2.2 = 0
  · rw [if_pos e, if_neg (fun h => h.2 e), if_pos rfl]
    exact H _ (ltake_size 1 s).2
  · rw [if_neg e, if_pos ⟨rfl, e⟩, ltake_fail e isW1]
    exact ⟨rfl, fun h => absurd h (show ¬ (2 : Int) = 0 by decide)⟩
theorem one_alike' {val : ByteArray → Int → Rk} {s : ByteArray} {dep d : Int} (H : Alike d (valT s dep d) (val s dep)) : Alike d (valT s dep d) (rOne val false s dep) := by
  unfold rOne
  rw [if_neg (fun h => Bool.noConfusion h.1), if_neg (by decide)]
  exact H
theorem val_alike : ∀ (n k : Nat) (s : ByteArray) (dep d : Int), s.size < n → s.size < k → dep ≤ d → Alike d (valT s dep d) (rVal k s dep) := by
  intro n
  induction n with
  | zero => intro k s dep d h; omega
  | succ n ih =>
    intro k s dep d hn hk hd
    obtain ⟨k, rfl⟩ : ∃ j, k = j + 1 := ⟨k - 1, by omega⟩
    rw [valT_eq, rVal]
    by_cases e : s.size = 0
    · rw [if_pos e, if_pos e]
      exact ⟨rfl, fun h => absurd h (show ¬ (2 : Int) = 0 by decide)⟩
    have ht := tail_size e
    have hl4 := (ltake_size 4 (tailOf s)).1
    rw [if_neg e, if_neg e]
    cases hs : sizeU (kindOf s) with
    | some m =>
      simp only
      unfold skipR
      by_cases c : s.size < 1 + m
      · rw [if_pos c, if_neg (by omega)]
        exact ⟨rfl, fun h => absurd h (show ¬ (2 : Int) = 0 by decide)⟩
      · rw [if_neg c, if_pos (by omega)]
        refine ⟨rfl, fun _ => ⟨?_, by show d = max d dep; omega⟩⟩
        show (tailOf s).extract m (tailOf s).size = s.extract (1 + m) s.size
        unfold tailOf
        exact eq_of_list (by rw [extract_drop, toBA_list, extract_drop, toBA_list, extract_drop, toBA_list, List.drop_drop])
    | none =>
      simp only
      by_cases c1 : kindOf s = 83 ∨ kindOf s = 120
      · rw [if_pos c1, if_pos c1]
        by_cases el : (ltakeR 4 (tailOf s)).2.2 = 0
        · rw [if_pos el]
          exact ⟨el, fun _ => ⟨rfl, by show d = max d dep; omega⟩⟩
        · rw [if_neg el, ltake_fail el isW4]
          exact ⟨rfl, fun h => absurd h (show ¬ (2 : Int) = 0 by decide)⟩
      · rw [if_neg c1, if_neg c1]
        by_cases c2 : kindOf s = 65
        · rw [if_pos c2, if_pos c2]
          exact within_alike valT_less hd (fun i d' hi hd' => one_alike' (ih k i _ d' (by omega) (by omega) hd'))
        · rw [if_neg c2, if_neg c2]
          by_cases c3 : kindOf s = 70
          · rw [if_pos c3, if_pos c3]
            exact within_alike (field_less valT_less) hd (fun i d' hi hd' => one_alike (fun i2 hi2 => ih k i2 _ d' (by omega) (by omega) hd'))
          · rw [if_neg c3, if_neg c3]
            exact ⟨rfl, fun h => absurd h (show ¬ (3 : Int) = 0 by decide)⟩
end Go.Proofs.YthdkmohelampbaaDoor.F
namespace Go.Proofs.YthdkmohelampbaaDoor.F
open Go.RowKit Go.Proofs.YthdkmohelampbaaDoorW.PrintWords Go.Proofs.YthdkmohelampbaaDoorW.PrintLast Go.Proofs.YthdkmohelampbaaDoorW.PrintMore
attribute [local go_sem] max2_int min2_int max_two min_two max_three min_three max_four min_four
set_option linter.unusedVariables false
set_option linter.unusedSimpArgs false

/-! ### interchangeref03_table: function 32 -/
def interchangeref03_table.f (k : Nat) (a0 : ByteArray) : Option (ByteArray × Int × Int) := (interchangeref03_inside.f k a0).bind fun bt138 => (if bt138.2.2 = 0 then ((interchangeref03_row.f bt138.1 1 true).bind fun bt141 => (some (bt138.2.1, bt141.1, bt141.2))) else (some ((⟨#[]⟩ : ByteArray), 0, bt138.2.2)))
theorem interchangeref03_table.mono : ∀ a0 k, LeO (interchangeref03_table.f k a0) (interchangeref03_table.f (k + 1) a0) := by
  intro a0 k
  unfold interchangeref03_table.f
  repeat' first
      | (with_reducible exact interchangeref03_inside.mono _ _)
      | (with_reducible exact LeO.refl _)
      | (with_reducible exact LeO.none _)
      | (with_reducible refine LeO.ite ?_ ?_)
      | (with_reducible refine LeO.bind ?_ (fun _ => ?_))
      | exact interchangeref03_inside.mono _ _
      | exact LeO.none _
      | refine LeO.ite ?_ ?_
      | refine LeO.bind ?_ (fun _ => ?_)
set_option maxHeartbeats 8000000 in
set_option maxRecDepth 100000 in
theorem interchangeref03_table.calls (k : Nat) (a0 : ByteArray) (r1 : ByteArray) (r2 : Int) (r3 : Int) (w : World) (h : interchangeref03_table.f k a0 = some (r1, r2, r3)) :
    Calls Tryd.prog 32 #[.string a0] w fun e w' => e = .returned (.tuple #[.string r1, .int .i64 r2, .int .i64 r3]) ∧ Drawn0 w w' := by
  have H : ((interchangeref03_inside.f k a0).bind fun bt138 => (if bt138.2.2 = 0 then ((interchangeref03_row.f bt138.1 1 true).bind fun bt141 => (some (bt138.2.1, bt141.1, bt141.2))) else (some ((⟨#[]⟩ : ByteArray), 0, bt138.2.2)))) = some (r1, r2, r3) := h
  clear h
  replace H := Option.bind_eq_some_iff.mp H
  obtain ⟨⟨t138, t139, t140⟩, A20, H⟩ := H
  replace H : (if t140 = 0 then ((interchangeref03_row.f t138 1 true).bind fun bt141 => (some (t139, bt141.1, bt141.2))) else (some ((⟨#[]⟩ : ByteArray), 0, t140))) = some (r1, r2, r3) := H
  have A2 := Aside0.mk A20
  clear A20
  by_cases c3 : t140 = 0
  · rw [if_pos c3] at H
    have c3b0 : (t140 == 0) = true := beq_iff_eq.mpr c3
    have c3b1 : (t140 != 0) = false := bne_eq_false_iff_eq.mpr c3
    clear c3
    replace H := Option.bind_eq_some_iff.mp H
    obtain ⟨⟨t141, t142⟩, A40, H⟩ := H
    replace H : (some (t139, t141, t142)) = some (r1, r2, r3) := H
    have A4 := Aside0.mk A40
    clear A40
    simp only [Option.some.injEq, Prod.mk.injEq] at H
    obtain ⟨rfl, rfl, rfl⟩ := H
    go_enter Tryd.func32, Tryd.ntmps32
    go_wp2_with (first | ((with_reducible refine gate_callee (f := 42) rfl ?_); refine goesL_ (some 12) rfl rfl Tryd.func42 (by kernel_rfl) rfl #[.string a0] rfl (by (try simp only [List.map_toArray, List.map_cons, List.map_nil]); first | done | rfl | (simp only [List.length_drop, List.length_take]; rfl)) ?_; (with_reducible refine (interchangeref03_inside.calls k a0 t138 t139 t140 _ A2.out).mono ?_); rintro e w' ⟨rfl, ⟨nd, rfl⟩⟩; refine ⟨_, rfl, ?_⟩) | ((with_reducible refine gate_callee (f := 43) rfl ?_); refine goesL_ (some 21) rfl rfl Tryd.func43 (by kernel_rfl) rfl #[.string t138, .int .i64 1, .bool true] rfl (by (try simp only [List.map_toArray, List.map_cons, List.map_nil]); first | done | rfl | (simp only [List.length_drop, List.length_take]; rfl)) ?_; (with_reducible refine (interchangeref03_row.calls t138 1 true t141 t142 _ A4.out).mono ?_); rintro e w' ⟨rfl, ⟨nd, rfl⟩⟩; refine ⟨_, rfl, ?_⟩))
    go_ret3
    exact ⟨by first | rfl | (simp; done) | (simp [*]; done), by repeat (first | exact Drawn0.refl _ | apply Drawn0.step)⟩
  · rw [if_neg c3] at H
    have c3b0 : (t140 == 0) = false := beq_eq_false_iff_ne.mpr c3
    have c3b1 : (t140 != 0) = true := bne_iff_ne.mpr c3
    simp only [Option.some.injEq, Prod.mk.injEq] at H
    obtain ⟨rfl, rfl, rfl⟩ := H
    go_enter Tryd.func32, Tryd.ntmps32
    go_wp2_with (first | ((with_reducible refine gate_callee (f := 42) rfl ?_); refine goesL_ (some 12) rfl rfl Tryd.func42 (by kernel_rfl) rfl #[.string a0] rfl (by (try simp only [List.map_toArray, List.map_cons, List.map_nil]); first | done | rfl | (simp only [List.length_drop, List.length_take]; rfl)) ?_; (with_reducible refine (interchangeref03_inside.calls k a0 t138 t139 t140 _ A2.out).mono ?_); rintro e w' ⟨rfl, ⟨nd, rfl⟩⟩; refine ⟨_, rfl, ?_⟩))
    go_ret3
    exact ⟨by first | rfl | (simp; done) | (simp [*]; done), by repeat (first | exact Drawn0.refl _ | apply Drawn0.step)⟩


end Go.Proofs.YthdkmohelampbaaDoor.F
namespace Go.Proofs.YthdkmohelampbaaDoor.F
open Go.RowKit Go.Proofs.YthdkmohelampbaaDoorW.PrintWords Go.Proofs.YthdkmohelampbaaDoorW.PrintLast Go.Proofs.YthdkmohelampbaaDoorW.PrintMore
attribute [local go_sem] max2_int min2_int max_two min_two max_three min_three max_four min_four
set_option linter.unusedVariables false
set_option linter.unusedSimpArgs false

/-! ### interchangeref03_Take: function 19 -/
def interchangeref03_Take.f (k : Nat) (a0 : ByteArray) : Option (ByteArray × ByteArray × Int) := (interchangeref03_table.f k a0).bind fun bt224 => (if bt224.2.2 = 0 then (if 0 ≤ (wrap64 ((a0.size : Int) - (bt224.1.size : Int))) then (if (wrap64 ((a0.size : Int) - (bt224.1.size : Int))) ≤ (a0.size : Int) then (some (a0.extract 0 ((wrap64 ((a0.size : Int) - (bt224.1.size : Int))) : Int).toNat, bt224.1, 0)) else (none)) else (none)) else (some ((⟨#[]⟩ : ByteArray), (⟨#[]⟩ : ByteArray), bt224.2.2)))
theorem interchangeref03_Take.mono : ∀ a0 k, LeO (interchangeref03_Take.f k a0) (interchangeref03_Take.f (k + 1) a0) := by
  intro a0 k
  unfold interchangeref03_Take.f
  repeat' first
      | (with_reducible exact interchangeref03_table.mono _ _)
      | (with_reducible exact LeO.refl _)
      | (with_reducible exact LeO.none _)
      | (with_reducible refine LeO.ite ?_ ?_)
      | (with_reducible refine LeO.bind ?_ (fun _ => ?_))
      | exact interchangeref03_table.mono _ _
      | exact LeO.none _
      | refine LeO.ite ?_ ?_
      | refine LeO.bind ?_ (fun _ => ?_)
set_option maxHeartbeats 8000000 in
set_option maxRecDepth 100000 in
theorem interchangeref03_Take.calls (k : Nat) (a0 : ByteArray) (r1 : ByteArray) (r2 : ByteArray) (r3 : Int) (w : World) (h : interchangeref03_Take.f k a0 = some (r1, r2, r3)) :
    Calls Tryd.prog 19 #[.string a0] w fun e w' => e = .returned (.tuple #[.string r1, .string r2, .int .i64 r3]) ∧ Drawn0 w w' := by
  have H : ((interchangeref03_table.f k a0).bind fun bt224 => (if bt224.2.2 = 0 then (if 0 ≤ (wrap64 ((a0.size : Int) - (bt224.1.size : Int))) then (if (wrap64 ((a0.size : Int) - (bt224.1.size : Int))) ≤ (a0.size : Int) then (some (a0.extract 0 ((wrap64 ((a0.size : Int) - (bt224.1.size : Int))) : Int).toNat, bt224.1, 0)) else (none)) else (none)) else (some ((⟨#[]⟩ : ByteArray), (⟨#[]⟩ : ByteArray), bt224.2.2)))) = some (r1, r2, r3) := h
  clear h
  replace H := Option.bind_eq_some_iff.mp H
  obtain ⟨⟨t224, t225, t226⟩, A20, H⟩ := H
  replace H : (if t226 = 0 then (if 0 ≤ (wrap64 ((a0.size : Int) - (t224.size : Int))) then (if (wrap64 ((a0.size : Int) - (t224.size : Int))) ≤ (a0.size : Int) then (some (a0.extract 0 ((wrap64 ((a0.size : Int) - (t224.size : Int))) : Int).toNat, t224, 0)) else (none)) else (none)) else (some ((⟨#[]⟩ : ByteArray), (⟨#[]⟩ : ByteArray), t226))) = some (r1, r2, r3) := H
  have A2 := Aside0.mk A20
  clear A20
  by_cases c3 : t226 = 0
  · rw [if_pos c3] at H
    have c3b0 : (t226 == 0) = true := beq_iff_eq.mpr c3
    have c3b1 : (t226 != 0) = false := bne_eq_false_iff_eq.mpr c3
    clear c3
    obtain ⟨ji4, hji4⟩ : ∃ j_ : Int, (wrap64 ((a0.size : Int) - (t224.size : Int))) = j_ := ⟨_, rfl⟩
    replace H : (if 0 ≤ (ji4) then (if (ji4) ≤ (a0.size : Int) then (some (a0.extract 0 ((ji4) : Int).toNat, t224, 0)) else (none)) else (none)) = some (r1, r2, r3) := by first | (rw [hji4] at H; exact H) | (simp only [hji4] at H ⊢; exact H)
    (try rw [hji4] at A2)
    have hji4w : (IntKind.i64.wrap ((a0.size : Int) - (t224.size : Int))) = ji4 := (i64_w _).trans hji4
    by_cases c5 : 0 ≤ (ji4)
    · rw [if_pos c5] at H
      have c5b0 := eq_true c5
      have c5b1 : decide (0 ≤ (ji4)) = true := decide_eq_true c5
      clear c5
      by_cases c6 : (ji4) ≤ (a0.size : Int)
      · rw [if_pos c6] at H
        have c6b0 := eq_true c6
        have c6b1 : decide ((ji4) ≤ (a0.size : Int)) = true := decide_eq_true c6
        clear c6
        simp only [Option.some.injEq, Prod.mk.injEq] at H
        obtain ⟨rfl, rfl, rfl⟩ := H
        go_enter Tryd.func19, Tryd.ntmps19
        go_wp2_with (first | ((with_reducible refine gate_callee (f := 32) rfl ?_); refine goesL_ (some 10) rfl rfl Tryd.func32 (by kernel_rfl) rfl #[.string a0] rfl (by (try simp only [List.map_toArray, List.map_cons, List.map_nil]); first | done | rfl | (simp only [List.length_drop, List.length_take]; rfl)) ?_; (with_reducible refine (interchangeref03_table.calls k a0 t224 t225 t226 _ A2.out).mono ?_); rintro e w' ⟨rfl, ⟨nd, rfl⟩⟩; refine ⟨_, rfl, ?_⟩))
        go_ret3
        exact ⟨by first | rfl | (simp; done) | (simp only [← hji4] <;> (first | rfl | simp)) | (simp [*]; done), by repeat (first | exact Drawn0.refl _ | apply Drawn0.step)⟩
      · rw [if_neg c6] at H
        exact absurd H (by simp)
    · rw [if_neg c5] at H
      exact absurd H (by simp)
  · rw [if_neg c3] at H
    have c3b0 : (t226 == 0) = false := beq_eq_false_iff_ne.mpr c3
    have c3b1 : (t226 != 0) = true := bne_iff_ne.mpr c3
    simp only [Option.some.injEq, Prod.mk.injEq] at H
    obtain ⟨rfl, rfl, rfl⟩ := H
    go_enter Tryd.func19, Tryd.ntmps19
    go_wp2_with (first | ((with_reducible refine gate_callee (f := 32) rfl ?_); refine goesL_ (some 10) rfl rfl Tryd.func32 (by kernel_rfl) rfl #[.string a0] rfl (by (try simp only [List.map_toArray, List.map_cons, List.map_nil]); first | done | rfl | (simp only [List.length_drop, List.length_take]; rfl)) ?_; (with_reducible refine (interchangeref03_table.calls k a0 t224 t225 t226 _ A2.out).mono ?_); rintro e w' ⟨rfl, ⟨nd, rfl⟩⟩; refine ⟨_, rfl, ?_⟩))
    go_ret3
    exact ⟨by first | rfl | (simp; done) | (simp [*]; done), by repeat (first | exact Drawn0.refl _ | apply Drawn0.step)⟩


end Go.Proofs.YthdkmohelampbaaDoor.F
namespace Go.Proofs.YthdkmohelampbaaDoor.F
open Go.RowKit Go.Proofs.YthdkmohelampbaaDoorW.PrintWords Go.Proofs.YthdkmohelampbaaDoorW.PrintLast Go.Proofs.YthdkmohelampbaaDoorW.PrintMore
attribute [local go_sem] max2_int min2_int max_two min_two max_three min_three max_four min_four
set_option linter.unusedVariables false
set_option linter.unusedSimpArgs false

/-! ### interchangeref03_Deep: function 13 -/
def interchangeref03_Deep.f (k : Nat) (a0 : ByteArray) : Option (Int × Int) := (interchangeref03_table.f k a0).bind fun bt143 => (if bt143.2.2 = 0 then (if (bt143.1.size : Int) > 0 then (some (0, 3)) else (some (bt143.2.1, 0))) else (some (0, bt143.2.2)))
theorem interchangeref03_Deep.mono : ∀ a0 k, LeO (interchangeref03_Deep.f k a0) (interchangeref03_Deep.f (k + 1) a0) := by
  intro a0 k
  unfold interchangeref03_Deep.f
  repeat' first
      | (with_reducible exact interchangeref03_table.mono _ _)
      | (with_reducible exact LeO.refl _)
      | (with_reducible exact LeO.none _)
      | (with_reducible refine LeO.ite ?_ ?_)
      | (with_reducible refine LeO.bind ?_ (fun _ => ?_))
      | exact interchangeref03_table.mono _ _
      | exact LeO.none _
      | refine LeO.ite ?_ ?_
      | refine LeO.bind ?_ (fun _ => ?_)
set_option maxHeartbeats 8000000 in
set_option maxRecDepth 100000 in
theorem interchangeref03_Deep.calls (k : Nat) (a0 : ByteArray) (r1 : Int) (r2 : Int) (w : World) (h : interchangeref03_Deep.f k a0 = some (r1, r2)) :
    Calls Tryd.prog 13 #[.string a0] w fun e w' => e = .returned (.tuple #[.int .i64 r1, .int .i64 r2]) ∧ Drawn0 w w' := by
  have H : ((interchangeref03_table.f k a0).bind fun bt143 => (if bt143.2.2 = 0 then (if (bt143.1.size : Int) > 0 then (some (0, 3)) else (some (bt143.2.1, 0))) else (some (0, bt143.2.2)))) = some (r1, r2) := h
  clear h
  replace H := Option.bind_eq_some_iff.mp H
  obtain ⟨⟨t143, t144, t145⟩, A20, H⟩ := H
  replace H : (if t145 = 0 then (if (t143.size : Int) > 0 then (some (0, 3)) else (some (t144, 0))) else (some (0, t145))) = some (r1, r2) := H
  have A2 := Aside0.mk A20
  clear A20
  by_cases c3 : t145 = 0
  · rw [if_pos c3] at H
    have c3b0 : (t145 == 0) = true := beq_iff_eq.mpr c3
    have c3b1 : (t145 != 0) = false := bne_eq_false_iff_eq.mpr c3
    clear c3
    by_cases c4 : (t143.size : Int) > 0
    · rw [if_pos c4] at H
      have c4b0 : decide (0 < (t143.size : Int)) = true := decide_eq_true c4
      have c4b1 : decide (0 < t143.size) = true := decide_eq_true (by omega)
      clear c4
      simp only [Option.some.injEq, Prod.mk.injEq] at H
      obtain ⟨rfl, rfl⟩ := H
      go_enter Tryd.func13, Tryd.ntmps13
      go_wp2_with (first | ((with_reducible refine gate_callee (f := 32) rfl ?_); refine goesL_ (some 9) rfl rfl Tryd.func32 (by kernel_rfl) rfl #[.string a0] rfl (by (try simp only [List.map_toArray, List.map_cons, List.map_nil]); first | done | rfl | (simp only [List.length_drop, List.length_take]; rfl)) ?_; (with_reducible refine (interchangeref03_table.calls k a0 t143 t144 t145 _ A2.out).mono ?_); rintro e w' ⟨rfl, ⟨nd, rfl⟩⟩; refine ⟨_, rfl, ?_⟩))
      go_ret2
      exact ⟨by first | rfl | (simp; done) | (simp [*]; done), by repeat (first | exact Drawn0.refl _ | apply Drawn0.step)⟩
    · rw [if_neg c4] at H
      have c4b0 : decide (0 < (t143.size : Int)) = false := decide_eq_false c4
      have c4b1 : decide (0 < t143.size) = false := decide_eq_false (by omega)
      clear c4
      simp only [Option.some.injEq, Prod.mk.injEq] at H
      obtain ⟨rfl, rfl⟩ := H
      go_enter Tryd.func13, Tryd.ntmps13
      go_wp2_with (first | ((with_reducible refine gate_callee (f := 32) rfl ?_); refine goesL_ (some 9) rfl rfl Tryd.func32 (by kernel_rfl) rfl #[.string a0] rfl (by (try simp only [List.map_toArray, List.map_cons, List.map_nil]); first | done | rfl | (simp only [List.length_drop, List.length_take]; rfl)) ?_; (with_reducible refine (interchangeref03_table.calls k a0 t143 t144 t145 _ A2.out).mono ?_); rintro e w' ⟨rfl, ⟨nd, rfl⟩⟩; refine ⟨_, rfl, ?_⟩))
      go_ret2
      exact ⟨by first | rfl | (simp; done) | (simp [*]; done), by repeat (first | exact Drawn0.refl _ | apply Drawn0.step)⟩
  · rw [if_neg c3] at H
    have c3b0 : (t145 == 0) = false := beq_eq_false_iff_ne.mpr c3
    have c3b1 : (t145 != 0) = true := bne_iff_ne.mpr c3
    simp only [Option.some.injEq, Prod.mk.injEq] at H
    obtain ⟨rfl, rfl⟩ := H
    go_enter Tryd.func13, Tryd.ntmps13
    go_wp2_with (first | ((with_reducible refine gate_callee (f := 32) rfl ?_); refine goesL_ (some 9) rfl rfl Tryd.func32 (by kernel_rfl) rfl #[.string a0] rfl (by (try simp only [List.map_toArray, List.map_cons, List.map_nil]); first | done | rfl | (simp only [List.length_drop, List.length_take]; rfl)) ?_; (with_reducible refine (interchangeref03_table.calls k a0 t143 t144 t145 _ A2.out).mono ?_); rintro e w' ⟨rfl, ⟨nd, rfl⟩⟩; refine ⟨_, rfl, ?_⟩))
    go_ret2
    exact ⟨by first | rfl | (simp; done) | (simp [*]; done), by repeat (first | exact Drawn0.refl _ | apply Drawn0.step)⟩


end Go.Proofs.YthdkmohelampbaaDoor.F
namespace Go.Proofs.YthdkmohelampbaaDoor.F
open Go.RowKit Go.Proofs.YthdkmohelampbaaDoorW.PrintWords Go.Proofs.YthdkmohelampbaaDoorW.PrintLast Go.Proofs.YthdkmohelampbaaDoorW.PrintMore
attribute [local go_sem] max2_int min2_int max_two min_two max_three min_three max_four min_four
set_option linter.unusedVariables false
set_option linter.unusedSimpArgs false

/-! ### interchangeref03_Value: function 20 -/
def interchangeref03_Value.f (a0 : ByteArray) : Option (ByteArray × ByteArray × Int) := (interchangeref03_value.f a0 0).bind fun bt227 => (if bt227.2.2 = 0 then (if 0 ≤ (wrap64 ((a0.size : Int) - (bt227.1.size : Int))) then (if (wrap64 ((a0.size : Int) - (bt227.1.size : Int))) ≤ (a0.size : Int) then (some (a0.extract 0 ((wrap64 ((a0.size : Int) - (bt227.1.size : Int))) : Int).toNat, bt227.1, 0)) else (none)) else (none)) else (some ((⟨#[]⟩ : ByteArray), (⟨#[]⟩ : ByteArray), bt227.2.2)))
set_option maxHeartbeats 8000000 in
set_option maxRecDepth 100000 in
theorem interchangeref03_Value.calls (a0 : ByteArray) (r1 : ByteArray) (r2 : ByteArray) (r3 : Int) (w : World) (h : interchangeref03_Value.f a0 = some (r1, r2, r3)) :
    Calls Tryd.prog 20 #[.string a0] w fun e w' => e = .returned (.tuple #[.string r1, .string r2, .int .i64 r3]) ∧ Drawn0 w w' := by
  have H : ((interchangeref03_value.f a0 0).bind fun bt227 => (if bt227.2.2 = 0 then (if 0 ≤ (wrap64 ((a0.size : Int) - (bt227.1.size : Int))) then (if (wrap64 ((a0.size : Int) - (bt227.1.size : Int))) ≤ (a0.size : Int) then (some (a0.extract 0 ((wrap64 ((a0.size : Int) - (bt227.1.size : Int))) : Int).toNat, bt227.1, 0)) else (none)) else (none)) else (some ((⟨#[]⟩ : ByteArray), (⟨#[]⟩ : ByteArray), bt227.2.2)))) = some (r1, r2, r3) := h
  clear h
  replace H := Option.bind_eq_some_iff.mp H
  obtain ⟨⟨t227, t228, t229⟩, A20, H⟩ := H
  replace H : (if t229 = 0 then (if 0 ≤ (wrap64 ((a0.size : Int) - (t227.size : Int))) then (if (wrap64 ((a0.size : Int) - (t227.size : Int))) ≤ (a0.size : Int) then (some (a0.extract 0 ((wrap64 ((a0.size : Int) - (t227.size : Int))) : Int).toNat, t227, 0)) else (none)) else (none)) else (some ((⟨#[]⟩ : ByteArray), (⟨#[]⟩ : ByteArray), t229))) = some (r1, r2, r3) := H
  have A2 := Aside0.mk A20
  clear A20
  by_cases c3 : t229 = 0
  · rw [if_pos c3] at H
    have c3b0 : (t229 == 0) = true := beq_iff_eq.mpr c3
    have c3b1 : (t229 != 0) = false := bne_eq_false_iff_eq.mpr c3
    clear c3
    obtain ⟨ji4, hji4⟩ : ∃ j_ : Int, (wrap64 ((a0.size : Int) - (t227.size : Int))) = j_ := ⟨_, rfl⟩
    replace H : (if 0 ≤ (ji4) then (if (ji4) ≤ (a0.size : Int) then (some (a0.extract 0 ((ji4) : Int).toNat, t227, 0)) else (none)) else (none)) = some (r1, r2, r3) := by first | (rw [hji4] at H; exact H) | (simp only [hji4] at H ⊢; exact H)
    (try rw [hji4] at A2)
    have hji4w : (IntKind.i64.wrap ((a0.size : Int) - (t227.size : Int))) = ji4 := (i64_w _).trans hji4
    by_cases c5 : 0 ≤ (ji4)
    · rw [if_pos c5] at H
      have c5b0 := eq_true c5
      have c5b1 : decide (0 ≤ (ji4)) = true := decide_eq_true c5
      clear c5
      by_cases c6 : (ji4) ≤ (a0.size : Int)
      · rw [if_pos c6] at H
        have c6b0 := eq_true c6
        have c6b1 : decide ((ji4) ≤ (a0.size : Int)) = true := decide_eq_true c6
        clear c6
        simp only [Option.some.injEq, Prod.mk.injEq] at H
        obtain ⟨rfl, rfl, rfl⟩ := H
        go_enter Tryd.func20, Tryd.ntmps20
        go_wp2_with (first | ((with_reducible refine gate_callee (f := 35) rfl ?_); refine goesL_ (some 10) rfl rfl Tryd.func35 (by kernel_rfl) rfl #[.string a0, .int .i64 0] rfl (by (try simp only [List.map_toArray, List.map_cons, List.map_nil]); first | done | rfl | (simp only [List.length_drop, List.length_take]; rfl)) ?_; (with_reducible refine (interchangeref03_value.calls a0 0 t227 t228 t229 _ A2.out).mono ?_); rintro e w' ⟨rfl, ⟨nd, rfl⟩⟩; refine ⟨_, rfl, ?_⟩))
        go_ret3
        exact ⟨by first | rfl | (simp; done) | (simp only [← hji4] <;> (first | rfl | simp)) | (simp [*]; done), by repeat (first | exact Drawn0.refl _ | apply Drawn0.step)⟩
      · rw [if_neg c6] at H
        exact absurd H (by simp)
    · rw [if_neg c5] at H
      exact absurd H (by simp)
  · rw [if_neg c3] at H
    have c3b0 : (t229 == 0) = false := beq_eq_false_iff_ne.mpr c3
    have c3b1 : (t229 != 0) = true := bne_iff_ne.mpr c3
    simp only [Option.some.injEq, Prod.mk.injEq] at H
    obtain ⟨rfl, rfl, rfl⟩ := H
    go_enter Tryd.func20, Tryd.ntmps20
    go_wp2_with (first | ((with_reducible refine gate_callee (f := 35) rfl ?_); refine goesL_ (some 10) rfl rfl Tryd.func35 (by kernel_rfl) rfl #[.string a0, .int .i64 0] rfl (by (try simp only [List.map_toArray, List.map_cons, List.map_nil]); first | done | rfl | (simp only [List.length_drop, List.length_take]; rfl)) ?_; (with_reducible refine (interchangeref03_value.calls a0 0 t227 t228 t229 _ A2.out).mono ?_); rintro e w' ⟨rfl, ⟨nd, rfl⟩⟩; refine ⟨_, rfl, ?_⟩))
    go_ret3
    exact ⟨by first | rfl | (simp; done) | (simp [*]; done), by repeat (first | exact Drawn0.refl _ | apply Drawn0.step)⟩


end Go.Proofs.YthdkmohelampbaaDoor.F
namespace Go.Proofs.YthdkmohelampbaaDoor.F
open Go.RowKit Go.Proofs.YthdkmohelampbaaDoorW.PrintWords Go.Proofs.YthdkmohelampbaaDoorW.PrintLast Go.Proofs.YthdkmohelampbaaDoorW.PrintMore
attribute [local go_sem] max2_int min2_int max_two min_two max_three min_three max_four min_four
set_option linter.unusedVariables false
set_option linter.unusedSimpArgs false

/-! ### interchangeref03_both: function 36 -/
def interchangeref03_both.l0 : Nat → ByteArray → List ByteArray → List ByteArray → Option (List ByteArray × List ByteArray)
  | 0, _, _, _ => none
  | k + 1, x4, x5, x6 => if (x4.size : Int) > 0 then ((interchangeref02_TakeShort.f x4).bind fun bt230 => ((interchangeref03_Value.f bt230.2.1).bind fun bt233 => (if x5.length < 8796093022208 then (if x6.length < 8796093022208 then (interchangeref03_both.l0 k bt233.2.1 (x5 ++ [bt230.1]) (x6 ++ [bt233.1])) else (none)) else (none)))) else (some (x5, x6))
def interchangeref03_both.f (k : Nat) (a0 : ByteArray) : Option (List ByteArray × List ByteArray) := if 4 ≤ (a0.size : Int) then (interchangeref03_both.l0 k (a0.extract 4 a0.size) ([] : List ByteArray) ([] : List ByteArray)) else (none)
theorem interchangeref03_both.mono_l : ∀ k, (∀ y0 y1 y2, LeO (interchangeref03_both.l0 k y0 y1 y2) (interchangeref03_both.l0 (k + 1) y0 y1 y2))
  | 0 => fun _ _ _ r h => by simp [interchangeref03_both.l0] at h
  | k + 1 => by
    have ih0 := interchangeref03_both.mono_l k
    · intro y0 y1 y2
      unfold interchangeref03_both.l0
      repeat' first
      | (with_reducible exact ih0 _ _ _)
      | (with_reducible exact LeO.refl _)
      | (with_reducible exact LeO.none _)
      | (with_reducible refine LeO.ite ?_ ?_)
      | (with_reducible refine LeO.bind ?_ (fun _ => ?_))
      | exact ih0 _ _ _
      | exact LeO.none _
      | refine LeO.ite ?_ ?_
      | refine LeO.bind ?_ (fun _ => ?_)
theorem interchangeref03_both.mono : ∀ a0 k, LeO (interchangeref03_both.f k a0) (interchangeref03_both.f (k + 1) a0) := by
  intro a0 k
  have ih0 := interchangeref03_both.mono_l k
  unfold interchangeref03_both.f
  repeat' first
      | (with_reducible exact ih0 _ _ _)
      | (with_reducible exact LeO.refl _)
      | (with_reducible exact LeO.none _)
      | (with_reducible refine LeO.ite ?_ ?_)
      | (with_reducible refine LeO.bind ?_ (fun _ => ?_))
      | exact ih0 _ _ _
      | exact LeO.none _
      | refine LeO.ite ?_ ?_
      | refine LeO.bind ?_ (fun _ => ?_)
set_option maxHeartbeats 8000000 in
set_option maxRecDepth 100000 in
theorem interchangeref03_both.calls (k : Nat) (a0 : ByteArray) (r1 : List ByteArray) (r2 : List ByteArray) (w : World) (h : interchangeref03_both.f k a0 = some (r1, r2)) :
    Calls Tryd.prog 36 #[.string a0] w fun e w' => ∃ v0_ v1_ : Value, e = .returned (.tuple #[v0_, v1_]) ∧ Kd.R Kd.string 9 w' w.heap.size (fun k_ => some k_ ≠ (v1_ : Value).ownBlock) v0_ r1 ∧ Kd.R Kd.string 9 w' w.heap.size (fun k_ => some k_ ≠ (v0_ : Value).ownBlock) v1_ r2 ∧ Below w.heap.size w w' := by
  have HB := Aside0.mk (Below.refl w.heap.size w)
  have H : (if 4 ≤ (a0.size : Int) then (interchangeref03_both.l0 k (a0.extract 4 a0.size) ([] : List ByteArray) ([] : List ByteArray)) else (none)) = some (r1, r2) := h
  clear h
  by_cases c2 : 4 ≤ (a0.size : Int)
  · rw [if_pos c2] at H
    have c2b0 := eq_true c2
    have c2b1 : decide (4 ≤ (a0.size : Int)) = true := decide_eq_true c2
    clear c2
    have H' := Aside0.mk H
    clear H
    go_enter Tryd.func36, Tryd.ntmps36
    go_wp2
    go_loopg [4, 5, 6] k (fun kq v4 v5 v6 w' => ∃ (x4_1 : ByteArray) (x5_1 : List ByteArray) (x6_1 : List ByteArray), v4 = .string x4_1 ∧ Aside0 (interchangeref03_both.l0 kq x4_1 x5_1 x6_1 = some (r1, r2)) ∧ Aside0 (kq ≤ k) ∧ Aside0 (Kd.R Kd.string 9 w' w.heap.size (fun k_ => some k_ ≠ (v6 : Value).ownBlock) v5 x5_1) ∧ Aside0 (Kd.R Kd.string 9 w' w.heap.size (fun k_ => some k_ ≠ (v5 : Value).ownBlock) v6 x6_1) ∧ Aside0 (Below w.heap.size w w'))
    case atStart => exact ⟨(a0.extract 4 a0.size), (([] : List ByteArray)), (([] : List ByteArray)), (by first | rfl | (simp; done) | (simp [*]; done)), H', ⟨Nat.le_refl _⟩, ⟨by first | exact Kd.R_nil _ _ _ _ _ | exact Kd.N_nil _ _ _ _ _ | exact Kd.V_nil _ _ _ _ _ | exact Kd.Q_nil _ _ _ _ _ | exact Kd.S_nil _ _ _ _ _⟩, ⟨by first | exact Kd.R_nil _ _ _ _ _ | exact Kd.N_nil _ _ _ _ _ | exact Kd.V_nil _ _ _ _ _ | exact Kd.Q_nil _ _ _ _ _ | exact Kd.S_nil _ _ _ _ _⟩, ⟨by repeat (first | (with_reducible first | exact HB.out | apply below_alloc | apply pw_below_drewN | apply below_drew1) | exact HB.out)⟩⟩
    case round =>
      clear H'
      try clear c2
      try clear c2b0
      try clear c2b1
      try clear p2
      obtain ⟨x4_1, x5_1, x6_1, rfl, HA, HK1, HO_5, HO_6, HB⟩ := hrel
      cases gk with
      | zero => exact absurd HA.out (by simp [interchangeref03_both.l0])
      | succ k1 =>
        have H := HA.out
        clear HA
        simp only [interchangeref03_both.l0] at H
        by_cases c3 : (x4_1.size : Int) > 0
        · rw [if_pos c3] at H
          have c3b0 : decide (0 < (x4_1.size : Int)) = true := decide_eq_true c3
          have c3b1 : decide (0 < x4_1.size) = true := decide_eq_true (by omega)
          clear c3
          replace H := Option.bind_eq_some_iff.mp H
          obtain ⟨⟨t230, t231, t232⟩, A40, H⟩ := H
          replace H : ((interchangeref03_Value.f t231).bind fun bt233 => (if x5_1.length < 8796093022208 then (if x6_1.length < 8796093022208 then (interchangeref03_both.l0 k1 bt233.2.1 (x5_1 ++ [t230]) (x6_1 ++ [bt233.1])) else (none)) else (none))) = some (r1, r2) := H
          have A4 := Aside0.mk A40
          clear A40
          replace H := Option.bind_eq_some_iff.mp H
          obtain ⟨⟨t233, t234, t235⟩, A50, H⟩ := H
          replace H : (if x5_1.length < 8796093022208 then (if x6_1.length < 8796093022208 then (interchangeref03_both.l0 k1 t234 (x5_1 ++ [t230]) (x6_1 ++ [t233])) else (none)) else (none)) = some (r1, r2) := H
          have A5 := Aside0.mk A50
          clear A50
          by_cases c6 : x5_1.length < 8796093022208
          · rw [if_pos c6] at H
            have LMc6 := Aside0.mk c6
            clear c6
            obtain ⟨y236, hy236⟩ : ∃ y_ : List ByteArray, y_ = (x5_1 ++ [t230]) := ⟨_, rfl⟩
            replace H : (if x6_1.length < 8796093022208 then (interchangeref03_both.l0 k1 t234 y236 (x6_1 ++ [t233])) else (none)) = some (r1, r2) := by first | (rw [hy236]; with_reducible exact H) | (have H2_ := (Option.bind_some _ _).symm.trans H; rw [hy236]; with_reducible exact H2_) | (have H2_ := (Option.bind_some _ _).symm.trans H; with_reducible exact H2_) | with_reducible exact H | (rw [hy236]; exact H) | exact H
            have Ny236 := Aside0.mk hy236
            clear hy236
            by_cases c7 : x6_1.length < 8796093022208
            · rw [if_pos c7] at H
              have LMc7 := Aside0.mk c7
              clear c7
              obtain ⟨y239, hy239⟩ : ∃ y_ : List ByteArray, y_ = (x6_1 ++ [t233]) := ⟨_, rfl⟩
              replace H : (interchangeref03_both.l0 k1 t234 y236 y239) = some (r1, r2) := by first | (rw [hy239]; with_reducible exact H) | (have H2_ := (Option.bind_some _ _).symm.trans H; rw [hy239]; with_reducible exact H2_) | (have H2_ := (Option.bind_some _ _).symm.trans H; with_reducible exact H2_) | with_reducible exact H | (rw [hy239]; exact H) | exact H
              have Ny239 := Aside0.mk hy239
              clear hy239
              have H' := Aside0.mk H
              clear H
              go_wp2_with (first | ((with_reducible refine gate_callee (f := 47) rfl ?_); refine goesL_ (some 20) rfl rfl Tryd.func47 (by kernel_rfl) rfl #[.string x4_1] rfl (by (try simp only [List.map_toArray, List.map_cons, List.map_nil]); first | done | rfl | (simp only [List.length_drop, List.length_take]; rfl)) ?_; (with_reducible refine (interchangeref02_TakeShort.calls x4_1 t230 t231 t232 _ A4.out).mono ?_); rintro e w' ⟨rfl, ⟨nd, rfl⟩⟩; refine ⟨_, rfl, ?_⟩) | ((with_reducible refine gate_callee (f := 20) rfl ?_); refine goesL_ (some 26) rfl rfl Tryd.func20 (by kernel_rfl) rfl #[.string t231] rfl (by (try simp only [List.map_toArray, List.map_cons, List.map_nil]); first | done | rfl | (simp only [List.length_drop, List.length_take]; rfl)) ?_; (with_reducible refine (interchangeref03_Value.calls t231 t233 t234 t235 _ A5.out).mono ?_); rintro e w' ⟨rfl, ⟨nd, rfl⟩⟩; refine ⟨_, rfl, ?_⟩) | ((with_reducible refine gate_builtin (b := .append) (xs := #[.tmp 30, .tmp 32]) rfl ?_); at_builtin; refine Kd.R_append Kd.string (w0 := w) w.heap.size rfl (.tmp 30) (.tmp 32) 27 9 (.string ⟨#[]⟩) 16 rfl Tryd.underlying27 info9 rfl (by decide) (by omega) u5 x5_1 t230 [.string t230] (fun k_ => some k_ ≠ (u6 : Value).ownBlock) (fun _ => False) rfl rfl ?aP (fun _ hk => hk.elim) ?aF ?aO ?aB ?aS ?aL ?_; (case aP => exact rfl); (case aB => exact (by repeat (first | (with_reducible first | exact HB.out | apply below_alloc | apply pw_below_drewN | apply below_drew1) | exact HB.out))); (case aF => exact (fun k_ hk => Kd.fresh' (Kd.R_lt (by (with_reducible repeat (first | apply Kd.R_alloc | apply Kd.R_drewN | apply Kd.R_drew)); exact HO_6.out)) k_ hk)); (case aO => exact (by (with_reducible repeat (first | apply Kd.R_alloc | apply Kd.R_drewN | apply Kd.R_drew)); exact HO_5.out)); (case aS => exact (below_size (by repeat (first | (with_reducible first | exact HB.out | apply below_alloc | apply pw_below_drewN | apply below_drew1) | exact HB.out)))); (case aL => have := LMc6.out; omega); intro v237 w8 ho hb hg hat; rw [← Ny236.out] at ho; have n0_ := Aside0.mk (Kd.R_after (ok := (fun _ => True)) (by (with_reducible repeat (first | apply Kd.R_alloc | apply Kd.R_drewN | apply Kd.R_drew)); exact Kd.R_mono HO_6.out (fun _ hk => ⟨trivial, hk⟩)) hg hat); have n1_ := Aside0.mk (hb); have n2_ := Aside0.mk (ho); clear HO_6; clear HB; clear HO_5; have HO_6 := n0_; have HB := n1_; have HO238 := n2_; clear n0_ n1_ n2_; clear ho hb hg hat) | ((with_reducible refine gate_builtin (b := .append) (xs := #[.tmp 34, .tmp 36]) rfl ?_); at_builtin; refine Kd.R_append Kd.string (w0 := w) w.heap.size rfl (.tmp 34) (.tmp 36) 27 9 (.string ⟨#[]⟩) 16 rfl Tryd.underlying27 info9 rfl (by decide) (by omega) u6 x6_1 t233 [.string t233] (fun k_ => some k_ ≠ (v237 : Value).ownBlock) (fun _ => False) rfl rfl ?aP (fun _ hk => hk.elim) ?aF ?aO ?aB ?aS ?aL ?_; (case aP => exact rfl); (case aB => exact (by repeat (first | (with_reducible first | exact HB.out | apply below_alloc | apply pw_below_drewN | apply below_drew1) | exact HB.out))); (case aF => exact (fun k_ hk => Kd.fresh' (Kd.R_lt (by (with_reducible repeat (first | apply Kd.R_alloc | apply Kd.R_drewN | apply Kd.R_drew)); exact HO238.out)) k_ hk)); (case aO => exact (by (with_reducible repeat (first | apply Kd.R_alloc | apply Kd.R_drewN | apply Kd.R_drew)); exact Kd.R_mono HO_6.out (fun _ hk => hk.2))); (case aS => exact (below_size (by repeat (first | (with_reducible first | exact HB.out | apply below_alloc | apply pw_below_drewN | apply below_drew1) | exact HB.out)))); (case aL => have := LMc7.out; omega); intro v240 w9 ho hb hg hat; rw [← Ny239.out] at ho; have n0_ := Aside0.mk (Kd.R_after (ok := (fun _ => True)) (by (with_reducible repeat (first | apply Kd.R_alloc | apply Kd.R_drewN | apply Kd.R_drew)); exact Kd.R_mono HO238.out (fun _ hk => ⟨trivial, hk⟩)) hg hat); have n1_ := Aside0.mk (hb); have n2_ := Aside0.mk (ho); clear HO238; clear HB; clear HO_6; have HO238 := n0_; have HB := n1_; have HO241 := n2_; clear n0_ n1_ n2_; clear ho hb hg hat))
              go_roundg k1
              case measure => have := HK1.out; omega
              case rel => exact ⟨(t234), (y236), (y239), (by first | rfl | (simp; done) | (simp [*]; done)), H', ⟨by have := HK1.out; omega⟩, ⟨by (with_reducible repeat (first | apply Kd.R_alloc | apply Kd.R_drewN | apply Kd.R_drew)); exact Kd.R_mono HO238.out (fun _ hk => hk.2)⟩, ⟨by (with_reducible repeat (first | apply Kd.R_alloc | apply Kd.R_drewN | apply Kd.R_drew)); exact HO241.out⟩, ⟨by repeat (first | (with_reducible first | exact HB.out | apply below_alloc | apply pw_below_drewN | apply below_drew1) | exact HB.out)⟩⟩
            · rw [if_neg c7] at H
              exact absurd H (by simp)
          · rw [if_neg c6] at H
            exact absurd H (by simp)
        · rw [if_neg c3] at H
          have c3b0 : decide (0 < (x4_1.size : Int)) = false := decide_eq_false c3
          have c3b1 : decide (0 < x4_1.size) = false := decide_eq_false (by omega)
          clear c3
          simp only [Option.some.injEq, Prod.mk.injEq] at H
          obtain ⟨rfl, rfl⟩ := H
          go_wp2
          go_ret2
          exact ⟨_, _, by first | rfl | (simp [errW_none, errW_some] <;> rfl) | (simp [*, errW_none, errW_some] <;> rfl), by (with_reducible repeat (first | apply Kd.R_alloc | apply Kd.R_drewN | apply Kd.R_drew)); exact HO_5.out, by (with_reducible repeat (first | apply Kd.R_alloc | apply Kd.R_drewN | apply Kd.R_drew)); exact HO_6.out, by repeat (first | (with_reducible first | exact HB.out | apply below_alloc | apply pw_below_drewN | apply below_drew1) | exact HB.out)⟩
  · rw [if_neg c2] at H
    exact absurd H (by simp)


end Go.Proofs.YthdkmohelampbaaDoor.F
namespace Go.Proofs.YthdkmohelampbaaDoor.F
open Go.RowKit Go.Proofs.YthdkmohelampbaaDoorW.PrintWords Go.Proofs.YthdkmohelampbaaDoorW.PrintLast Go.Proofs.YthdkmohelampbaaDoorW.PrintMore
attribute [local go_sem] max2_int min2_int max_two min_two max_three min_three max_four min_four
set_option linter.unusedVariables false
set_option linter.unusedSimpArgs false

/-! ### interchangeref03_Find: function 22 -/
def interchangeref03_Find.l0 : Nat → ByteArray → List ByteArray → List ByteArray → Int → Option (ByteArray × Bool)
  | 0, _, _, _, _ => none
  | k + 1, x1, x8, x9, x10 => if x10 < (x8.length : Int) then (if 0 ≤ x10 then (if (rdOf ByteArray.empty x8 x10).toList = x1.toList then (if x10 < (x9.length : Int) then (some (rdOf ByteArray.empty x9 x10, true)) else (none)) else (interchangeref03_Find.l0 k x1 x8 x9 (wrap64 (x10 + 1)))) else (none)) else (some ((⟨#[]⟩ : ByteArray), false))
def interchangeref03_Find.f (k : Nat) (a0 : ByteArray) (a1 : ByteArray) : Option (ByteArray × Bool) := (interchangeref03_Deep.f k a0).bind fun bt250 => (if bt250.2 = 0 then ((interchangeref03_both.f k a0).bind fun bt252 => (interchangeref03_Find.l0 k a1 bt252.1 bt252.2 0)) else (some ((⟨#[]⟩ : ByteArray), false)))
theorem interchangeref03_Find.mono_l : ∀ k, (∀ y0 y1 y2 y3, LeO (interchangeref03_Find.l0 k y0 y1 y2 y3) (interchangeref03_Find.l0 (k + 1) y0 y1 y2 y3))
  | 0 => fun _ _ _ _ r h => by simp [interchangeref03_Find.l0] at h
  | k + 1 => by
    have ih0 := interchangeref03_Find.mono_l k
    · intro y0 y1 y2 y3
      unfold interchangeref03_Find.l0
      repeat' first
      | (with_reducible exact ih0 _ _ _ _)
      | (with_reducible exact interchangeref03_Deep.mono _ _)
      | (with_reducible exact interchangeref03_both.mono _ _)
      | (with_reducible exact LeO.refl _)
      | (with_reducible exact LeO.none _)
      | (with_reducible refine LeO.ite ?_ ?_)
      | (with_reducible refine LeO.bind ?_ (fun _ => ?_))
      | exact ih0 _ _ _ _
      | exact interchangeref03_Deep.mono _ _
      | exact interchangeref03_both.mono _ _
      | exact LeO.none _
      | refine LeO.ite ?_ ?_
      | refine LeO.bind ?_ (fun _ => ?_)
theorem interchangeref03_Find.mono : ∀ a0 a1 k, LeO (interchangeref03_Find.f k a0 a1) (interchangeref03_Find.f (k + 1) a0 a1) := by
  intro a0 a1 k
  have ih0 := interchangeref03_Find.mono_l k
  unfold interchangeref03_Find.f
  repeat' first
      | (with_reducible exact ih0 _ _ _ _)
      | (with_reducible exact interchangeref03_Deep.mono _ _)
      | (with_reducible exact interchangeref03_both.mono _ _)
      | (with_reducible exact LeO.refl _)
      | (with_reducible exact LeO.none _)
      | (with_reducible refine LeO.ite ?_ ?_)
      | (with_reducible refine LeO.bind ?_ (fun _ => ?_))
      | exact ih0 _ _ _ _
      | exact interchangeref03_Deep.mono _ _
      | exact interchangeref03_both.mono _ _
      | exact LeO.none _
      | refine LeO.ite ?_ ?_
      | refine LeO.bind ?_ (fun _ => ?_)
set_option maxHeartbeats 8000000 in
set_option maxRecDepth 100000 in
theorem interchangeref03_Find.calls (k : Nat) (a0 : ByteArray) (a1 : ByteArray) (r1 : ByteArray) (r2 : Bool) (w : World) (h : interchangeref03_Find.f k a0 a1 = some (r1, r2)) :
    Calls Tryd.prog 22 #[.string a0, .string a1] w fun e w' => e = .returned (.tuple #[.string r1, .bool r2]) ∧ Below w.heap.size w w' := by
  have HB := Aside0.mk (Below.refl w.heap.size w)
  have H : ((interchangeref03_Deep.f k a0).bind fun bt250 => (if bt250.2 = 0 then ((interchangeref03_both.f k a0).bind fun bt252 => (interchangeref03_Find.l0 k a1 bt252.1 bt252.2 0)) else (some ((⟨#[]⟩ : ByteArray), false)))) = some (r1, r2) := h
  clear h
  replace H := Option.bind_eq_some_iff.mp H
  obtain ⟨⟨t250, t251⟩, A30, H⟩ := H
  replace H : (if t251 = 0 then ((interchangeref03_both.f k a0).bind fun bt252 => (interchangeref03_Find.l0 k a1 bt252.1 bt252.2 0)) else (some ((⟨#[]⟩ : ByteArray), false))) = some (r1, r2) := H
  have A3 := Aside0.mk A30
  clear A30
  by_cases c4 : t251 = 0
  · rw [if_pos c4] at H
    have c4b0 : (t251 == 0) = true := beq_iff_eq.mpr c4
    have c4b1 : (t251 != 0) = false := bne_eq_false_iff_eq.mpr c4
    clear c4
    replace H := Option.bind_eq_some_iff.mp H
    obtain ⟨⟨t252, t253⟩, A50, H⟩ := H
    replace H : (interchangeref03_Find.l0 k a1 t252 t253 0) = some (r1, r2) := H
    have A5 := Aside0.mk A50
    clear A50
    have H' := Aside0.mk H
    clear H
    go_enter Tryd.func22, Tryd.ntmps22
    go_wp2_with (first | ((with_reducible refine gate_callee (f := 13) rfl ?_); refine goesL_ (some 13) rfl rfl Tryd.func13 (by kernel_rfl) rfl #[.string a0] rfl (by (try simp only [List.map_toArray, List.map_cons, List.map_nil]); first | done | rfl | (simp only [List.length_drop, List.length_take]; rfl)) ?_; (with_reducible refine (interchangeref03_Deep.calls k a0 t250 t251 _ A3.out).mono ?_); rintro e w' ⟨rfl, ⟨nd, rfl⟩⟩; refine ⟨_, rfl, ?_⟩) | ((with_reducible refine gate_callee (f := 36) rfl ?_); refine goesL_ (some 20) rfl rfl Tryd.func36 (by kernel_rfl) rfl #[.string a0] rfl (by (try simp only [List.map_toArray, List.map_cons, List.map_nil]); first | done | rfl | (simp only [List.length_drop, List.length_take]; rfl)) ?_; (with_reducible refine (interchangeref03_both.calls k a0 t252 t253 _ A5.out).mono ?_); rintro e w6 ⟨v254, v256, rfl, ho0, ho1, hb⟩; refine ⟨_, rfl, ?_⟩; have n0_ := Aside0.mk (Kd.R_lower ho0 (below_size (by repeat (first | (with_reducible first | exact HB.out | apply below_alloc | apply pw_below_drewN | apply below_drew1) | exact HB.out)))); have n1_ := Aside0.mk (Kd.R_lower ho1 (below_size (by repeat (first | (with_reducible first | exact HB.out | apply below_alloc | apply pw_below_drewN | apply below_drew1) | exact HB.out)))); have n2_ := Aside0.mk (below_step (by repeat (first | (with_reducible first | exact HB.out | apply below_alloc | apply pw_below_drewN | apply below_drew1) | exact HB.out)) hb); clear HB; have HO255 := n0_; have HO257 := n1_; have HB := n2_; clear n0_ n1_ n2_; (try clear hb); (try clear hb2); (try clear hk); (try clear hi); (try clear ho0); (try clear ho1)))
    go_loopg [10] k (fun kq v10 w' => ∃ (x10_1 : Int), v10 = .int .i64 x10_1 ∧ Aside0 (interchangeref03_Find.l0 kq a1 t252 t253 x10_1 = some (r1, r2)) ∧ Aside0 (kq ≤ k) ∧ Aside0 (Kd.R Kd.string 9 w' w.heap.size (fun k_ => some k_ ≠ (v256 : Value).ownBlock) v254 t252) ∧ Aside0 (Kd.R Kd.string 9 w' w.heap.size (fun k_ => some k_ ≠ (v254 : Value).ownBlock) v256 t253) ∧ Aside0 (Below w.heap.size w w'))
    case atStart => exact ⟨(0), (by first | rfl | (simp; done) | (simp [*]; done)), H', ⟨Nat.le_refl _⟩, ⟨by (with_reducible repeat (first | apply Kd.R_alloc | apply Kd.R_drewN | apply Kd.R_drew)); exact HO255.out⟩, ⟨by (with_reducible repeat (first | apply Kd.R_alloc | apply Kd.R_drewN | apply Kd.R_drew)); exact HO257.out⟩, ⟨by repeat (first | (with_reducible first | exact HB.out | apply below_alloc | apply pw_below_drewN | apply below_drew1) | exact HB.out)⟩⟩
    case round =>
      clear H'
      try clear c1
      try clear c2
      try clear p2
      try clear c3
      try clear c4
      try clear c4b0
      try clear c4b1
      obtain ⟨x10_1, rfl, HA, HK1, HO_8, HO_9, HB⟩ := hrel
      cases gk with
      | zero => exact absurd HA.out (by simp [interchangeref03_Find.l0])
      | succ k1 =>
        have H := HA.out
        clear HA
        simp only [interchangeref03_Find.l0] at H
        by_cases c7 : x10_1 < (t252.length : Int)
        · rw [if_pos c7] at H
          have c7b0 : decide (x10_1 < (t252.length : Int)) = true := decide_eq_true c7
          clear c7
          by_cases c8 : 0 ≤ x10_1
          · rw [if_pos c8] at H
            have c8b0 : decide (0 ≤ x10_1) = true := decide_eq_true c8
            clear c8
            by_cases c9 : (rdOf ByteArray.empty t252 x10_1).toList = a1.toList
            · rw [if_pos c9] at H
              have c9b0 : ((rdOf ByteArray.empty t252 x10_1).toList == a1.toList) = true := beq_iff_eq.mpr c9
              have c9b1 : ((rdOf ByteArray.empty t252 x10_1).toList != a1.toList) = false := bne_eq_false_iff_eq.mpr c9
              clear c9
              by_cases c10 : x10_1 < (t253.length : Int)
              · rw [if_pos c10] at H
                have c10b0 : decide (x10_1 < (t253.length : Int)) = true := decide_eq_true c10
                clear c10
                simp only [Option.some.injEq, Prod.mk.injEq] at H
                obtain ⟨rfl, rfl⟩ := H
                obtain ⟨Ao11, co11, eo11⟩ := Kd.R_slice HO_8.out
                subst eo11
                have p258 : 0 ≤ (x10_1 : Int) := of_decide_eq_true (by first | (with_reducible assumption) | assumption)
                have q258 : x10_1 < (t252.length : Int) := of_decide_eq_true (by first | (with_reducible assumption) | assumption)
                obtain ⟨ad258, e258, hx258_0⟩ := Kd.at_string (Kd.R_reads' HO_8.out).2.2 x10_1 p258 q258
                cases e258
                replace p258 := eq_true p258
                replace q258 := eq_true q258
                obtain ⟨Ao12, co12, eo12⟩ := Kd.R_slice HO_9.out
                subst eo12
                have p259 : 0 ≤ (x10_1 : Int) := of_decide_eq_true (by first | (with_reducible assumption) | assumption)
                have q259 : x10_1 < (t253.length : Int) := of_decide_eq_true (by first | (with_reducible assumption) | assumption)
                obtain ⟨ad259, e259, hx259_0⟩ := Kd.at_string (Kd.R_reads' HO_9.out).2.2 x10_1 p259 q259
                cases e259
                replace p259 := eq_true p259
                replace q259 := eq_true q259
                go_wp2
                go_ret2
                exact ⟨by first | rfl | (simp [errW_none, errW_some] <;> rfl) | (simp [*, errW_none, errW_some] <;> rfl), by repeat (first | (with_reducible first | exact HB.out | apply below_alloc | apply pw_below_drewN | apply below_drew1) | exact HB.out)⟩
              · rw [if_neg c10] at H
                exact absurd H (by simp)
            · rw [if_neg c9] at H
              have c9b0 : ((rdOf ByteArray.empty t252 x10_1).toList == a1.toList) = false := beq_eq_false_iff_ne.mpr c9
              have c9b1 : ((rdOf ByteArray.empty t252 x10_1).toList != a1.toList) = true := bne_iff_ne.mpr c9
              have H' := Aside0.mk H
              clear H
              obtain ⟨Ao13, co13, eo13⟩ := Kd.R_slice HO_8.out
              subst eo13
              have p258 : 0 ≤ (x10_1 : Int) := of_decide_eq_true (by first | (with_reducible assumption) | assumption)
              have q258 : x10_1 < (t252.length : Int) := of_decide_eq_true (by first | (with_reducible assumption) | assumption)
              obtain ⟨ad258, e258, hx258_0⟩ := Kd.at_string (Kd.R_reads' HO_8.out).2.2 x10_1 p258 q258
              cases e258
              replace p258 := eq_true p258
              replace q258 := eq_true q258
              go_wp2
              go_roundg k1
              case measure => have := HK1.out; omega
              case rel => exact ⟨(wrap64 (x10_1 + 1)), (by first | rfl | (simp; done) | (simp [*]; done)), H', ⟨by have := HK1.out; omega⟩, ⟨by (with_reducible repeat (first | apply Kd.R_alloc | apply Kd.R_drewN | apply Kd.R_drew)); exact HO_8.out⟩, ⟨by (with_reducible repeat (first | apply Kd.R_alloc | apply Kd.R_drewN | apply Kd.R_drew)); exact HO_9.out⟩, ⟨by repeat (first | (with_reducible first | exact HB.out | apply below_alloc | apply pw_below_drewN | apply below_drew1) | exact HB.out)⟩⟩
          · rw [if_neg c8] at H
            exact absurd H (by simp)
        · rw [if_neg c7] at H
          have c7b0 : decide (x10_1 < (t252.length : Int)) = false := decide_eq_false c7
          clear c7
          simp only [Option.some.injEq, Prod.mk.injEq] at H
          obtain ⟨rfl, rfl⟩ := H
          obtain ⟨Ao14, co14, eo14⟩ := Kd.R_slice HO_8.out
          subst eo14
          go_wp2
          go_ret2
          exact ⟨by first | rfl | (simp [errW_none, errW_some] <;> rfl) | (simp [*, errW_none, errW_some] <;> rfl), by repeat (first | (with_reducible first | exact HB.out | apply below_alloc | apply pw_below_drewN | apply below_drew1) | exact HB.out)⟩
  · rw [if_neg c4] at H
    have c4b0 : (t251 == 0) = false := beq_eq_false_iff_ne.mpr c4
    have c4b1 : (t251 != 0) = true := bne_iff_ne.mpr c4
    simp only [Option.some.injEq, Prod.mk.injEq] at H
    obtain ⟨rfl, rfl⟩ := H
    go_enter Tryd.func22, Tryd.ntmps22
    go_wp2_with (first | ((with_reducible refine gate_callee (f := 13) rfl ?_); refine goesL_ (some 13) rfl rfl Tryd.func13 (by kernel_rfl) rfl #[.string a0] rfl (by (try simp only [List.map_toArray, List.map_cons, List.map_nil]); first | done | rfl | (simp only [List.length_drop, List.length_take]; rfl)) ?_; (with_reducible refine (interchangeref03_Deep.calls k a0 t250 t251 _ A3.out).mono ?_); rintro e w' ⟨rfl, ⟨nd, rfl⟩⟩; refine ⟨_, rfl, ?_⟩))
    go_ret2
    exact ⟨by first | rfl | (simp [errW_none, errW_some] <;> rfl) | (simp [*, errW_none, errW_some] <;> rfl), by repeat (first | (with_reducible first | exact HB.out | apply below_alloc | apply pw_below_drewN | apply below_drew1) | exact HB.out)⟩


end Go.Proofs.YthdkmohelampbaaDoor.F
namespace Go.Proofs.YthdkmohelampbaaDoor.F
open Go.RowKit Go.Proofs.YthdkmohelampbaaDoorW.PrintWords Go.Proofs.YthdkmohelampbaaDoorW.PrintLast Go.Proofs.YthdkmohelampbaaDoorW.PrintMore
attribute [local go_sem] max2_int min2_int max_two min_two max_three min_three max_four min_four
set_option linter.unusedVariables false
set_option linter.unusedSimpArgs false

/-! ### interchangeref03_Keys: function 21 -/
def interchangeref03_Keys.f (k : Nat) (a0 : ByteArray) : Option (List ByteArray × Int) := (interchangeref03_Deep.f k a0).bind fun bt242 => (if bt242.2 = 0 then ((interchangeref03_both.f k a0).bind fun bt244 => (some (bt244.1, 0))) else (some (([] : List ByteArray), bt242.2)))
theorem interchangeref03_Keys.mono : ∀ a0 k, LeO (interchangeref03_Keys.f k a0) (interchangeref03_Keys.f (k + 1) a0) := by
  intro a0 k
  unfold interchangeref03_Keys.f
  repeat' first
      | (with_reducible exact interchangeref03_Deep.mono _ _)
      | (with_reducible exact interchangeref03_both.mono _ _)
      | (with_reducible exact LeO.refl _)
      | (with_reducible exact LeO.none _)
      | (with_reducible refine LeO.ite ?_ ?_)
      | (with_reducible refine LeO.bind ?_ (fun _ => ?_))
      | exact interchangeref03_Deep.mono _ _
      | exact interchangeref03_both.mono _ _
      | exact LeO.none _
      | refine LeO.ite ?_ ?_
      | refine LeO.bind ?_ (fun _ => ?_)
set_option maxHeartbeats 8000000 in
set_option maxRecDepth 100000 in
theorem interchangeref03_Keys.calls (k : Nat) (a0 : ByteArray) (r1 : List ByteArray) (r2 : Int) (w : World) (h : interchangeref03_Keys.f k a0 = some (r1, r2)) :
    Calls Tryd.prog 21 #[.string a0] w fun e w' => ∃ v0_ : Value, e = .returned (.tuple #[v0_, .int .i64 r2]) ∧ Kd.R Kd.string 9 w' w.heap.size (fun _ => True) v0_ r1 ∧ Below w.heap.size w w' := by
  have HB := Aside0.mk (Below.refl w.heap.size w)
  have H : ((interchangeref03_Deep.f k a0).bind fun bt242 => (if bt242.2 = 0 then ((interchangeref03_both.f k a0).bind fun bt244 => (some (bt244.1, 0))) else (some (([] : List ByteArray), bt242.2)))) = some (r1, r2) := h
  clear h
  replace H := Option.bind_eq_some_iff.mp H
  obtain ⟨⟨t242, t243⟩, A20, H⟩ := H
  replace H : (if t243 = 0 then ((interchangeref03_both.f k a0).bind fun bt244 => (some (bt244.1, 0))) else (some (([] : List ByteArray), t243))) = some (r1, r2) := H
  have A2 := Aside0.mk A20
  clear A20
  by_cases c3 : t243 = 0
  · rw [if_pos c3] at H
    have c3b0 : (t243 == 0) = true := beq_iff_eq.mpr c3
    have c3b1 : (t243 != 0) = false := bne_eq_false_iff_eq.mpr c3
    clear c3
    replace H := Option.bind_eq_some_iff.mp H
    obtain ⟨⟨t244, t245⟩, A40, H⟩ := H
    replace H : (some (t244, 0)) = some (r1, r2) := H
    have A4 := Aside0.mk A40
    clear A40
    simp only [Option.some.injEq, Prod.mk.injEq] at H
    obtain ⟨rfl, rfl⟩ := H
    go_enter Tryd.func21, Tryd.ntmps21
    go_wp2_with (first | ((with_reducible refine gate_callee (f := 13) rfl ?_); refine goesL_ (some 10) rfl rfl Tryd.func13 (by kernel_rfl) rfl #[.string a0] rfl (by (try simp only [List.map_toArray, List.map_cons, List.map_nil]); first | done | rfl | (simp only [List.length_drop, List.length_take]; rfl)) ?_; (with_reducible refine (interchangeref03_Deep.calls k a0 t242 t243 _ A2.out).mono ?_); rintro e w' ⟨rfl, ⟨nd, rfl⟩⟩; refine ⟨_, rfl, ?_⟩) | ((with_reducible refine gate_callee (f := 36) rfl ?_); refine goesL_ (some 18) rfl rfl Tryd.func36 (by kernel_rfl) rfl #[.string a0] rfl (by (try simp only [List.map_toArray, List.map_cons, List.map_nil]); first | done | rfl | (simp only [List.length_drop, List.length_take]; rfl)) ?_; (with_reducible refine (interchangeref03_both.calls k a0 t244 t245 _ A4.out).mono ?_); rintro e w5 ⟨v246, v248, rfl, ho0, ho1, hb⟩; refine ⟨_, rfl, ?_⟩; have n0_ := Aside0.mk (Kd.R_lower ho0 (below_size (by repeat (first | (with_reducible first | exact HB.out | apply below_alloc | apply pw_below_drewN | apply below_drew1) | exact HB.out)))); have n1_ := Aside0.mk (Kd.R_lower ho1 (below_size (by repeat (first | (with_reducible first | exact HB.out | apply below_alloc | apply pw_below_drewN | apply below_drew1) | exact HB.out)))); have n2_ := Aside0.mk (below_step (by repeat (first | (with_reducible first | exact HB.out | apply below_alloc | apply pw_below_drewN | apply below_drew1) | exact HB.out)) hb); clear HB; have HO247 := n0_; have HO249 := n1_; have HB := n2_; clear n0_ n1_ n2_; (try clear hb); (try clear hb2); (try clear hk); (try clear hi); (try clear ho0); (try clear ho1)))
    go_ret2
    exact ⟨_, by first | rfl | (simp [errW_none, errW_some] <;> rfl) | (simp [*, errW_none, errW_some] <;> rfl), by (with_reducible repeat (first | apply Kd.R_alloc | apply Kd.R_drewN | apply Kd.R_drew)); exact Kd.R_mono HO247.out (fun _ hk => trivial), by repeat (first | (with_reducible first | exact HB.out | apply below_alloc | apply pw_below_drewN | apply below_drew1) | exact HB.out)⟩
  · rw [if_neg c3] at H
    have c3b0 : (t243 == 0) = false := beq_eq_false_iff_ne.mpr c3
    have c3b1 : (t243 != 0) = true := bne_iff_ne.mpr c3
    simp only [Option.some.injEq, Prod.mk.injEq] at H
    obtain ⟨rfl, rfl⟩ := H
    go_enter Tryd.func21, Tryd.ntmps21
    go_wp2_with (first | ((with_reducible refine gate_callee (f := 13) rfl ?_); refine goesL_ (some 10) rfl rfl Tryd.func13 (by kernel_rfl) rfl #[.string a0] rfl (by (try simp only [List.map_toArray, List.map_cons, List.map_nil]); first | done | rfl | (simp only [List.length_drop, List.length_take]; rfl)) ?_; (with_reducible refine (interchangeref03_Deep.calls k a0 t242 t243 _ A2.out).mono ?_); rintro e w' ⟨rfl, ⟨nd, rfl⟩⟩; refine ⟨_, rfl, ?_⟩))
    go_ret2
    exact ⟨_, by first | rfl | (simp [errW_none, errW_some] <;> rfl) | (simp [*, errW_none, errW_some] <;> rfl), by first | exact Kd.R_nil _ _ _ _ _ | exact Kd.N_nil _ _ _ _ _ | exact Kd.V_nil _ _ _ _ _ | exact Kd.Q_nil _ _ _ _ _ | exact Kd.S_nil _ _ _ _ _, by repeat (first | (with_reducible first | exact HB.out | apply below_alloc | apply pw_below_drewN | apply below_drew1) | exact HB.out)⟩


end Go.Proofs.YthdkmohelampbaaDoor.F
namespace Go.Proofs.YthdkmohelampbaaDoor.F
open Go.RowKit Go.Proofs.YthdkmohelampbaaDoorW.PrintWords Go.Proofs.YthdkmohelampbaaDoorW.PrintLast Go.Proofs.YthdkmohelampbaaDoorW.PrintMore
set_option linter.unusedVariables false
set_option linter.unusedSimpArgs false
/-- a table, by the reference -/
def rTab (s : ByteArray) : Rk := if (ltakeR 4 s).2.2 = 0 then ((ltakeR 4 s).2.1, (rRow (rVal ((ltakeR 4 s).1.size + 1)) (ltakeR 4 s).1 1 true).1, (rRow (rVal ((ltakeR 4 s).1.size + 1)) (ltakeR 4 s).1 1 true).2) else (⟨#[]⟩, 0, 2)
theorem rtab_k {k : Nat} (hk : 12 ≤ k) (s : ByteArray) (hz : s.size ≤ 4611686018427387904) : interchangeref03_table.f k s = some (rTab s) := by
  unfold interchangeref03_table.f rTab
  rw [rinside_k hk s hz, Option.bind_some]
  by_cases e : (ltakeR 4 s).2.2 = 0
  · have := (ltake_size 4 s).1
    rw [if_pos e, if_pos e]
    have hr : interchangeref03_row.f (ltakeR 4 s).1 1 true = some (rRow (rVal ((ltakeR 4 s).1.size + 1)) (ltakeR 4 s).1 1 true) := by
      unfold interchangeref03_row.f
      rw [if_pos ⟨by omega, by decide, by decide⟩]
    rw [hr, Option.bind_some]
  · rw [if_neg e, if_neg e, ltake_fail e isW4]
theorem tab_alike (s : ByteArray) : Alike 0 (tabR s) (rTab s) := by
  rw [tabR_eq]
  have h := within_alike (one := fieldR valT) (val := rVal ((ltakeR 4 s).1.size + 1)) (fields := true) (field_less valT_less) (s := s) (dep := 0) (d := 0) (Int.le_refl _)
    (fun i d' hi hd' => one_alike (fun i2 hi2 => val_alike _ _ i2 _ d' (Nat.lt_succ_self _) (by omega) hd'))
  unfold rTab
  rw [if_neg (show ¬ (32 : Int) ≤ 0 by decide), Int.zero_add] at h
  exact h
theorem rcut {s : ByteArray} {t : Tk} {r : Rk} {d : Int} (ha : Alike d t r) (hl : t.2.1 = 0 → t.1.size ≤ s.size) (hz : s.size ≤ 4611686018427387904) :
    (if r.2.2 = 0 then (if 0 ≤ (wrap64 ((s.size : Int) - (r.1.size : Int))) then (if (wrap64 ((s.size : Int) - (r.1.size : Int))) ≤ (s.size : Int) then (some (s.extract 0 ((wrap64 ((s.size : Int) - (r.1.size : Int))) : Int).toNat, r.1, 0)) else (none)) else (none)) else (some ((⟨#[]⟩ : ByteArray), (⟨#[]⟩ : ByteArray), r.2.2))) = some (takenR s t) := by
  obtain ⟨a1, a2⟩ := ha
  unfold takenR
  rw [← a1]
  by_cases e : t.2.1 = 0
  · have h1 := (a2 e).1
    have h2 := hl e
    rw [if_pos e, if_pos e, ← h1, wrap64_of (by omega) (by omega), if_pos (by omega), if_pos (by omega)]
    have : ((s.size : Int) - (t.1.size : Int)).toNat = s.size - t.1.size := by omega
    rw [this]
  · rw [if_neg e, if_neg e]
theorem rTake_k {k : Nat} (hk : 12 ≤ k) (s : ByteArray) (hz : s.size ≤ 4611686018427387904) : interchangeref03_Take.f k s = some (takenR s (tabR s)) := by
  unfold interchangeref03_Take.f
  rw [rtab_k hk s hz, Option.bind_some]
  exact rcut (tab_alike s) (fun e => Nat.le_of_lt (tabR_less s e)) hz
theorem rValue_f (s : ByteArray) (hz : s.size ≤ 4611686018427387904) : interchangeref03_Value.f s = some (takenR s (tvalR s)) := by
  unfold interchangeref03_Value.f
  have hv : interchangeref03_value.f s 0 = some (rVal (s.size + 1) s 0) := by
    unfold interchangeref03_value.f
    rw [if_pos ⟨hz, by decide, by decide⟩]
  rw [hv, Option.bind_some]
  exact rcut (val_alike _ _ s 0 0 (Nat.lt_succ_self _) (Nat.lt_succ_self _) (Int.le_refl _)) (fun e => Nat.le_of_lt (tvalR_less s e)) hz
/-- where a table is taken, it is one deep at least -/
theorem tab_deep {s : ByteArray} (h : (tabR s).2.1 = 0) : (tabR s).2.2 = (rTab s).2.1 := by
  obtain ⟨a1, a2⟩ := tab_alike s
  have h1 := (a2 h).2
  have h2 : 1 ≤ (rTab s).2.1 := by
    rw [a1] at h
    unfold rTab at h ⊢
    by_cases e : (ltakeR 4 s).2.2 = 0
    · rw [if_pos e] at h ⊢
      have hi := items_alike (one := fieldR valT) (val := rVal ((ltakeR 4 s).1.size + 1)) (fields := true) (field_less valT_less) (ltakeR 4 s).1.size (ltakeR 4 s).1 1 1 (Int.le_refl _) (Int.le_refl _)
        (fun i d' hi hd' => one_alike (fun i2 hi2 => val_alike _ _ i2 _ d' (Nat.lt_succ_self _) (by omega) hd'))
      exact (hi.2 (hi.1.trans h)).1
    · rw [if_neg e] at h
      exact absurd h (show ¬ (2 : Int) = 0 by decide)
  omega
theorem rDeep_k {k : Nat} (hk : 12 ≤ k) (s : ByteArray) (hz : s.size ≤ 4611686018427387904) : interchangeref03_Deep.f k s = some (deepR s) := by
  unfold interchangeref03_Deep.f
  rw [rtab_k hk s hz, Option.bind_some]
  obtain ⟨a1, a2⟩ := tab_alike s
  unfold deepR wholeR
  rw [← a1]
  by_cases e : (tabR s).2.1 = 0
  · have hd := tab_deep e
    rw [if_pos e, if_pos e, ← (a2 e).1, ← hd]
    by_cases e0 : (tabR s).1.size = 0
    · rw [if_neg (by omega), if_pos e0, if_pos rfl]
    · rw [if_pos (by omega), if_neg e0]
      rfl
  · rw [if_neg e, if_neg e, if_neg e]
theorem both_l : ∀ (n : Nat) (s : ByteArray) (k : Nat) (a b : List ByteArray), s.size ≤ n → n < k → s.size ≤ 4611686018427387904 → a.length + n < 8796093022208 → b.length + n < 8796093022208 →
    interchangeref03_both.l0 k s a b = some (a ++ (fldR s).map (·.1), b ++ (fldR s).map (·.2)) := by
  intro n
  induction n with
  | zero =>
    intro s k a b hn hk _ _ _
    obtain ⟨k, rfl⟩ : ∃ j, k = j + 1 := ⟨k - 1, by omega⟩
    rw [interchangeref03_both.l0, if_neg (by omega), fldR_eq, if_pos (by omega)]
    simp
  | succ n ih =>
    intro s k a b hn hk hz ha hb
    obtain ⟨k, rfl⟩ : ∃ j, k = j + 1 := ⟨k - 1, by omega⟩
    rw [interchangeref03_both.l0]
    by_cases e : s.size = 0
    · rw [if_neg (by omega), fldR_eq, if_pos e]
      simp
    · have hl := left_less e
      have h2 := (ltake_size 1 s).2
      rw [if_pos (by omega), rtshort_f s hz, Option.bind_some, rValue_f _ (by omega), Option.bind_some, if_pos (by omega), if_pos (by omega)]
      have hh := ih (leftAt s) k (a ++ [keyAt s]) (b ++ [valAt s]) (by omega) (by omega) (by omega) (by simp only [List.length_append, List.length_singleton]; omega) (by simp only [List.length_append, List.length_singleton]; omega)
      unfold leftAt valAt taken1 keyAt at hh
      rw [hh, fldR_eq s, if_neg e]
      unfold leftAt valAt taken1 keyAt
      simp only [List.map_cons, List.append_assoc, List.singleton_append]
theorem whole_four {s : ByteArray} (h : wholeR s = 0) : 4 ≤ s.size ∧ inR s = s.extract 4 s.size := by
  obtain ⟨_, h1, _⟩ := whole_in h
  have ht : (takeR s 4).2.2 = 0 := by
    unfold ltakeR at h1
    by_cases e : (takeR s 4).2.2 = 0
    · exact e
    · rw [if_neg e] at h1; exact absurd h1 e
  unfold inR
  unfold takeR at ht ⊢
  rw [if_pos isW4] at ht ⊢
  by_cases c : (s.size : Int) < 4
  · rw [if_pos c] at ht
    exact absurd ht (show ¬ (2 : Int) = 0 by decide)
  · rw [if_neg c]
    exact ⟨by omega, rfl⟩
theorem both_k {k : Nat} {s : ByteArray} (h : wholeR s = 0) (hz : s.size ≤ 4294967299) (hk : s.size < k) : interchangeref03_both.f k s = some ((fldR (inR s)).map (·.1), (fldR (inR s)).map (·.2)) := by
  obtain ⟨h4, hi⟩ := whole_four h
  have hs := extract_size' s 4
  unfold interchangeref03_both.f
  rw [if_pos (by omega), ← hi]
  rw [← hi] at hs
  have := both_l s.size (inR s) k [] [] (by omega) hk (by omega) (by simp only [List.length_nil]; omega) (by simp only [List.length_nil]; omega)
  rw [this]
  rfl
theorem rKeys_k {k : Nat} (s : ByteArray) (hz : s.size ≤ 4611686018427387904) (hk : s.size + 12 < k) : interchangeref03_Keys.f k s = some (keysR s) := by
  unfold interchangeref03_Keys.f
  rw [rDeep_k (by omega) s (by omega), Option.bind_some]
  unfold deepR keysR
  by_cases e : wholeR s = 0
  · rw [if_pos e, if_pos e]
    simp only
    rw [if_pos trivial, both_k e (whole_small e) (by omega), Option.bind_some]
  · rw [if_neg e, if_neg e]
    simp only
    rw [if_neg e]
theorem find_l (key : ByteArray) (F : Fds) (hl : F.length ≤ 4611686018427387904) : ∀ (n i k : Nat), F.length = i + n → n < k →
    interchangeref03_Find.l0 k key (F.map (·.1)) (F.map (·.2)) (i : Int) = some (findF key (F.drop i)) := by
  intro n
  induction n with
  | zero =>
    intro i k h hk
    obtain ⟨k, rfl⟩ : ∃ j, k = j + 1 := ⟨k - 1, by omega⟩
    rw [interchangeref03_Find.l0, if_neg (by rw [List.length_map]; omega), List.drop_of_length_le (by omega)]
    rfl
  | succ n ih =>
    intro i k h hk
    obtain ⟨k, rfl⟩ : ∃ j, k = j + 1 := ⟨k - 1, by omega⟩
    have hd : F.drop i = F[i]'(by omega) :: F.drop (i + 1) := List.drop_eq_getElem_cons (by omega)
    have h1 : rdOf ByteArray.empty (F.map (·.1)) (i : Int) = (F[i]'(by omega)).1 := by
      unfold rdOf
      rw [Int.toNat_natCast]
      simp [show i < F.length by omega]
    have h2 : rdOf ByteArray.empty (F.map (·.2)) (i : Int) = (F[i]'(by omega)).2 := by
      unfold rdOf
      rw [Int.toNat_natCast]
      simp [show i < F.length by omega]
    have hw : wrap64 ((i : Int) + 1) = ((i + 1 : Nat) : Int) := by rw [wrap64_of (by omega) (by omega)]; omega
    rw [interchangeref03_Find.l0, if_pos (by rw [List.length_map]; omega), if_pos (by omega), h1, h2, hw, hd, findF]
    by_cases e : (F[i]'(by omega)).1.toList = key.toList
    · rw [if_pos e, if_pos e, if_pos (by rw [List.length_map]; omega)]
    · rw [if_neg e, if_neg e]
      exact ih (i + 1) k (by omega) (by omega)
theorem fld_len : ∀ (n : Nat) (s : ByteArray), s.size ≤ n → (fldR s).length ≤ n
  | 0, s, h => by rw [fldR_eq, if_pos (by omega)]; exact Nat.le_refl _
  | n + 1, s, h => by
    rw [fldR_eq]
    by_cases e : s.size = 0
    · rw [if_pos e]; exact Nat.zero_le _
    · rw [if_neg e, List.length_cons]
      have := fld_len n (leftAt s) (by have := left_less e; omega)
      omega
theorem rFind_k {k : Nat} (s key : ByteArray) (hz : s.size ≤ 4611686018427387904) (hk : s.size + 12 < k) : interchangeref03_Find.f k s key = some (findR s key) := by
  unfold interchangeref03_Find.f
  rw [rDeep_k (by omega) s (by omega), Option.bind_some]
  unfold deepR findR
  by_cases e : wholeR s = 0
  · rw [if_pos e, if_pos e]
    simp only
    have hi := take_rest s 4
    have hfl := fld_len s.size (inR s) hi
    rw [if_pos trivial, both_k e (whole_small e) (by omega), Option.bind_some]
    exact find_l key (fldR (inR s)) (by omega) (fldR (inR s)).length 0 k (by omega) (by omega)
  · rw [if_neg e, if_neg e]
    first | rfl | rw [if_neg e] | (simp only; rw [if_neg e])
theorem strings_l (a b : List ByteArray) (hl : a.length = b.length) (hz : a.length ≤ 4611686018427387904) : ∀ (n i k : Nat), a.length = i + n → n < k → interchangeref02_Strings.l0 k a b (i : Int) = some (decide (a.drop i = b.drop i)) := by
  intro n
  induction n with
  | zero =>
    intro i k h hk
    obtain ⟨k, rfl⟩ : ∃ j, k = j + 1 := ⟨k - 1, by omega⟩
    rw [interchangeref02_Strings.l0, if_neg (by omega), List.drop_of_length_le (by omega), List.drop_of_length_le (by omega)]
    rfl
  | succ n ih =>
    intro i k h hk
    obtain ⟨k, rfl⟩ : ∃ j, k = j + 1 := ⟨k - 1, by omega⟩
    have hd : ∀ (l : List ByteArray), i < l.length → l.drop i = rdOf ByteArray.empty l (i : Int) :: l.drop (i + 1) := by
      intro l hi
      rw [List.drop_eq_getElem_cons hi]
      congr 1
      unfold rdOf
      rw [Int.toNat_natCast]
      simp [hi]
    have hw : wrap64 ((i : Int) + 1) = ((i + 1 : Nat) : Int) := by rw [wrap64_of (by omega) (by omega)]; omega
    rw [interchangeref02_Strings.l0, if_pos (by omega), if_pos (by omega), if_pos (by omega), hw, hd a (by omega), hd b (by omega), ih (i + 1) k (by omega) (by omega)]
    by_cases e : (rdOf ByteArray.empty a (i : Int)).toList = (rdOf ByteArray.empty b (i : Int)).toList
    · rw [if_pos e]
      rw [toList_data, toList_data] at e
      have e' := eq_of_list e
      rw [e']
      congr 1
      simp
    · rw [if_neg e]
      have : ¬ rdOf ByteArray.empty a (i : Int) = rdOf ByteArray.empty b (i : Int) := fun h => e (by rw [h])
      congr 1
      simp [this]
theorem strings_k {k : Nat} (a b : List ByteArray) (hz : a.length ≤ 4611686018427387904) (hk : a.length < k) : interchangeref02_Strings.f k a b = some (decide (a = b)) := by
  unfold interchangeref02_Strings.f
  by_cases e : a.length = b.length
  · rw [if_pos (by omega)]
    exact strings_l a b e hz a.length 0 k (by omega) hk
  · rw [if_neg (by omega)]
    have : ¬ a = b := fun h => e (by rw [h])
    simp [this]
end Go.Proofs.YthdkmohelampbaaDoor.F
namespace Go.Proofs.YthdkmohelampbaaDoor.F
open Go.RowKit Go.Proofs.YthdkmohelampbaaDoorW.PrintWords Go.Proofs.YthdkmohelampbaaDoorW.PrintLast Go.Proofs.YthdkmohelampbaaDoorW.PrintMore
set_option linter.unusedVariables false
set_option linter.unusedSimpArgs false
theorem bulk_texts (l : List ByteArray) : (l.map (fun a => a.size + 1)).sum = sumB l + l.length := by
  unfold sumB
  induction l with
  | nil => rfl
  | cons x l ih => simp only [List.map_cons, List.sum_cons, List.length_cons, ih]; omega
theorem fst_zip : ∀ (ks vs : List ByteArray), ks.length = vs.length → (ks.zip vs).map (·.1) = ks
  | [], _, _ => by simp
  | k :: ks, [], h => by simp at h
  | k :: ks, v :: vs, h => by
    simp only [List.length_cons, Nat.add_right_cancel_iff] at h
    rw [List.zip_cons_cons, List.map_cons, fst_zip ks vs h]
theorem whole_taken {t : ByteArray} (h : wholeR t = 0) (more : ByteArray) : takenR (t ++ more) (tabR (t ++ more)) = (t, more, 0) := by
  unfold wholeR at h
  by_cases e : (tabR t).2.1 = 0
  · rw [if_pos e] at h
    by_cases e0 : (tabR t).1.size = 0
    · obtain ⟨a, ha, _, hm, _⟩ := tab_pre e
      have hr := ba_empty e0
      rw [hr, app_empty] at ha
      subst ha
      have h2 := hm more
      generalize tabR (t ++ more) = T at h2 ⊢
      subst h2
      exact taken_pre rfl rfl
    · rw [if_neg e0] at h
      exact absurd h (show ¬ (3 : Int) = 0 by decide)
  · rw [if_neg e] at h
    exact absurd h e
/-- a table that is made is told again -/
theorem made_back (ks vs : List ByteArray) (hz : (flatF ks vs).size ≤ 4294967295) (h : (makeR ks vs).2 = 0) :
    ks.length = vs.length ∧ keysR (makeR ks vs).1 = (ks, 0) ∧ (∀ more, takenR ((makeR ks vs).1 ++ more) (tabR ((makeR ks vs).1 ++ more)) = ((makeR ks vs).1, more, 0)) ∧ ∀ key, findR (makeR ks vs).1 key = findF key (ks.zip vs) := by
  obtain ⟨h1, h2, _⟩ := make_iff ks vs hz
  obtain ⟨hl, ho, hw⟩ := h1.1 h
  rw [h2 h]
  have ht := lay_take (n := 4) ⟨#[]⟩ (long_zero hz)
  rw [app_empty] at ht
  have hin : inR (layR 4 (flatF ks vs)).1 = flatF ks vs := by rw [(whole_in hw).1, ht]
  have hf := fld_flat ks vs hl ho
  refine ⟨hl, ?_, whole_taken hw, fun key => ?_⟩
  · unfold keysR
    rw [if_pos hw, hin, hf, fst_zip ks vs hl]
  · unfold findR
    rw [if_pos hw, hin, hf]
theorem findF_zip (key : ByteArray) : ∀ (ks vs : List ByteArray) (i : Nat), ks.length = vs.length → i < ks.length → (∀ j, j < i → ¬ (ks.getD j ByteArray.empty).toList = key.toList) → (ks.getD i ByteArray.empty).toList = key.toList → findF key (ks.zip vs) = (vs.getD i ByteArray.empty, true)
  | [], _, i, _, h, _, _ => absurd h (Nat.not_lt_zero _)
  | k :: ks, [], i, h, _, _, _ => by simp at h
  | k :: ks, v :: vs, 0, h, _, _, e => by
    rw [List.zip_cons_cons, findF, if_pos (show (k, v).fst.toList = key.toList from e)]
    rfl
  | k :: ks, v :: vs, i + 1, h, hi, hn, e => by
    simp only [List.length_cons, Nat.add_right_cancel_iff] at h
    rw [List.zip_cons_cons, findF, if_neg (show ¬ (k, v).fst.toList = key.toList from hn 0 (Nat.zero_lt_succ _))]
    exact findF_zip key ks vs i h (by simpa using hi) (fun j hj => hn (j + 1) (by omega)) e
theorem back_loop (ks vs : List ByteArray) (t : ByteArray) (i : Nat) (hi : i < ks.length) (hl : ks.length = vs.length) (hz : ks.length ≤ 4611686018427387904) (hF : ∀ key, table_Find.f t key = some (findF key (ks.zip vs))) :
    ∀ (d k n : Nat), n + d = i → d < k → (∀ j, j < n → ¬ (ks.getD j ByteArray.empty).toList = (ks.getD i ByteArray.empty).toList) → interchangelaw03_TableBack.l0 k ks vs (i : Int) true t (n : Int) = some true := by
  intro d
  induction d with
  | zero =>
    intro k n h hk hn
    obtain ⟨k, rfl⟩ : ∃ j, k = j + 1 := ⟨k - 1, by omega⟩
    obtain rfl : n = i := by omega
    have hr : rdOf ByteArray.empty ks (n : Int) = ks.getD n ByteArray.empty := rfl
    have hr2 : rdOf ByteArray.empty vs (n : Int) = vs.getD n ByteArray.empty := rfl
    rw [interchangelaw03_TableBack.l0, if_neg (by omega), if_pos (by omega), if_pos (by omega), hr, hF, Option.bind_some, findF_zip _ ks vs n hl hi hn rfl, if_pos rfl, if_pos rfl, if_pos (by omega), hr2, beq_self_eq_true]
  | succ d ih =>
    intro k n h hk hn
    obtain ⟨k, rfl⟩ : ∃ j, k = j + 1 := ⟨k - 1, by omega⟩
    have hr : ∀ n : Nat, rdOf ByteArray.empty ks (n : Int) = ks.getD n ByteArray.empty := fun _ => rfl
    have hw : wrap64 ((n : Int) + 1) = ((n + 1 : Nat) : Int) := by rw [wrap64_of (by omega) (by omega)]; omega
    rw [interchangelaw03_TableBack.l0, if_pos (by omega), if_pos (by omega), if_pos (by omega), if_pos (by omega), if_pos (by omega), hr, hr, hw]
    by_cases e : (ks.getD n ByteArray.empty).toList = (ks.getD i ByteArray.empty).toList
    · rw [if_pos e]
    · rw [if_neg e]
      refine ih k (n + 1) (by omega) (by omega) (fun j hj => ?_)
      by_cases hj2 : j = n
      · subst hj2; exact e
      · exact hn j (by omega)
theorem make_bad {ks vs : List ByteArray} (h : ¬ (makeR ks vs).2 = 0) : (makeR ks vs).1 = ⟨#[]⟩ := by
  unfold makeR closeR at *
  generalize mkGo ks vs ⟨#[]⟩ = g at h ⊢
  generalize layR 4 g.1 = L at h ⊢
  by_cases e : ks.length = vs.length
  · rw [if_pos e] at h ⊢
    by_cases e1 : g.2 = 0
    · rw [if_pos e1] at h ⊢
      by_cases e2 : L.2 = 0
      · rw [if_pos e2] at h ⊢
        by_cases e3 : wholeR L.1 = 0
        · rw [if_pos e3] at h
          exact absurd rfl h
        · rw [if_neg e3]
      · rw [if_neg e2]
    · rw [if_neg e1]
  · rw [if_neg e]
theorem close_small (t : ByteArray × Int) (h : (closeR t).2 = 0) : t.2 = 0 := by
  unfold closeR at h
  by_cases e : t.2 = 0
  · exact e
  · rw [if_neg e] at h
    exact absurd h e
theorem make_gen (c : Prop) [Decidable c] (g : ByteArray × Int) (h : (if c then (if g.2 = 0 then closeR (layR 4 g.1) else ((⟨#[]⟩ : ByteArray), g.2)) else ((⟨#[]⟩ : ByteArray), 1)).2 = 0) : c ∧ g.2 = 0 ∧ g.1.size ≤ 4294967295 := by
  by_cases e : c
  · rw [if_pos e] at h
    by_cases e1 : g.2 = 0
    · rw [if_pos e1] at h
      exact ⟨e, e1, (lay_small _ (close_small _ h)).1⟩
    · rw [if_neg e1] at h
      exact absurd h e1
  · rw [if_neg e] at h
    exact absurd h (show ¬ (1 : Int) = 0 by decide)
theorem make_small {ks vs : List ByteArray} (h : (makeR ks vs).2 = 0) : (flatF ks vs).size ≤ 4294967295 := by
  obtain ⟨e, e1, e2⟩ := make_gen (ks.length = vs.length) (mkGo ks vs ⟨#[]⟩) h
  rw [(mkGo_ok ks vs ⟨#[]⟩ e).2.1 e1, empty_app] at e2
  exact e2
theorem tableBack_pure (b0 : List ByteArray × List ByteArray × ByteArray × Int) (g0 : (b0.1.length ≤ maxLen ∧ ∀ x ∈ b0.1, x.size ≤ maxLen) ∧ (b0.2.1.length ≤ maxLen ∧ ∀ x ∈ b0.2.1, x.size ≤ maxLen) ∧ b0.2.2.1.size ≤ maxLen ∧ (Lit.int .i64 b0.2.2.2).wf = true)
    (z0 : (b0.1.length * Tryd.prog.bytesOf 9 ≤ 140737488351232 ∧ ∀ x ∈ b0.1, x.size ≤ 140737488351232) ∧ (b0.2.1.length * Tryd.prog.bytesOf 9 ≤ 140737488351232 ∧ ∀ x ∈ b0.2.1, x.size ≤ 140737488351232) ∧ b0.2.2.1.size ≤ 140737488351232 ∧ True) : ∃ k, interchangelaw03_TableBack.f k b0.1 b0.2.1 b0.2.2.1 b0.2.2.2 = some true := by
  obtain ⟨ks, vs, more, i⟩ := b0
  obtain ⟨⟨zk, zks⟩, ⟨zv, zvs⟩, zm, _⟩ := z0
  dsimp only at zk zks zv zvs zm
  clear g0
  obtain ⟨k, hk⟩ : ∃ k : Nat, ks.length + 100 ≤ k := ⟨_, Nat.le_refl _⟩
  obtain ⟨k, rfl⟩ : ∃ j, k = j + 2 := ⟨k - 2, by omega⟩
  refine ⟨k + 2, ?_⟩
  simp only
  unfold interchangelaw03_TableBack.f
  rw [shown_t, Option.bind_some]
  by_cases c : (ks.length : Int) > 60
  · rw [if_pos c]
  have hM : table_Make.f ks vs = some (makeR ks vs) := by
    unfold table_Make.f
    rw [if_pos ⟨by omega, fun x hx => Nat.le_trans (zks x hx) (by decide), fun x hx => Nat.le_trans (zvs x hx) (by decide)⟩]
  rw [if_neg c, hM, Option.bind_some]
  have m2 := make_bad (ks := ks) (vs := vs)
  have hbk := fun e => made_back ks vs (make_small e) e
  have hsz : (makeR ks vs).1.size ≤ 4294967299 := by
    by_cases e : (makeR ks vs).2 = 0
    · have hs := make_small e
      have h1 := (make_iff ks vs hs).2.1 e
      rw [h1]
      have := long_size hs
      omega
    · rw [m2 e]; exact Nat.zero_le _
  clear hM
  generalize makeR ks vs = m at m2 hbk hsz ⊢
  obtain ⟨t, q⟩ := m
  simp only at m2 hbk hsz ⊢
  by_cases e : q = 0
  · obtain ⟨hl, h2, h3, h4⟩ := hbk e
    have hT : table_Take.f (t ++ more) = some (t, more, 0) := by
      unfold table_Take.f
      rw [if_pos (by rw [size_append]; omega), h3]
    have hK : table_Keys.f t = some (ks, 0) := by
      unfold table_Keys.f
      rw [if_pos (by omega), h2]
    have hF : ∀ key, table_Find.f t key = some (findF key (ks.zip vs)) := by
      intro key
      unfold table_Find.f
      rw [if_pos (by omega), h4]
    rw [if_pos e, if_pos (by omega), hT, Option.bind_some, hK, Option.bind_some]
    simp only
    rw [strings_k ks ks (by omega) (by omega), Option.bind_some, if_pos trivial, if_pos trivial, if_pos trivial, if_pos trivial, decide_eq_true (show ks = ks from rfl), interchangelaw03_TableBack.j0, if_neg (by decide)]
    by_cases c1 : i < 0
    · rw [if_pos c1, interchangelaw03_TableBack.j1, if_pos rfl, if_pos rfl, beq_iff_eq.2 (by omega)]
    rw [if_neg c1]
    by_cases c2 : i ≥ (ks.length : Int)
    · rw [if_pos c2, interchangelaw03_TableBack.j1, if_pos rfl, if_pos rfl, beq_iff_eq.2 (by omega)]
    rw [if_neg c2, interchangelaw03_TableBack.j1, bne_eq_false_iff_eq.2 (by omega), if_neg (by decide)]
    obtain ⟨n, rfl⟩ : ∃ n : Nat, i = (n : Int) := ⟨i.toNat, by omega⟩
    exact back_loop ks vs t n (by omega) hl (by omega) hF n k 0 (by omega) (by omega) (fun j hj => absurd hj (Nat.not_lt_zero _))
  · have := m2 e
    subst this
    rw [if_neg e, if_pos trivial]
    rw [toList_data]
    rfl
end Go.Proofs.YthdkmohelampbaaDoor.F
namespace Go.Proofs.YthdkmohelampbaaDoor.F
open Go.ChangeShapes Go.WideShapes Go.ChangeAt Go.RowKit Go.Proofs.YthdkmohelampbaaDoorW.PrintWords Go.Proofs.YthdkmohelampbaaDoorW.PrintLast
set_option linter.unusedVariables false
set_option linter.unusedSimpArgs false

set_option maxHeartbeats 2000000 in
theorem tableBack_contract (H : Type) (enc : TypeId × Value → H) (W : World) (base : Nat) (args : Array Value) (ds gs : List (DataW H)) (before : List MemPlace)
    (hval0 : ∀ (j : Nat) t v, Tryd.f7.params[j]? = some t → args[j]? = some v → Value.okWide Tryd.prog W .any base t v)
    (hW : DataW.Whole enc Tryd.prog Tryd.f7.params.toList Rows.tableBackSpec.vars false W args.toList ds gs before) (hL : laidMetH Tryd.prog Rows.tableBackRow.laid W)
    (hsz : (DataW.weightsEach Tryd.prog (Tryd.f7.params.toList ++ (OpenSpec.ofChange Rows.tableBackSpec).bare.plain.varTypes Tryd.prog) (ds ++ gs)).all (· ≤ reachBytes) = true) :
    Calls Tryd.prog 7 args W fun e W' => ∃ v, e = .returned v ∧ Rows.tableBackSpec.post enc Tryd.prog Tryd.f7 false true false false W args v W' := by
  have hW' := hW
  obtain ⟨p, q, hA0, hV, rfl, hfz, hnd⟩ := hW
  have hA : DataW.TrodAll enc Tryd.prog W 0 (fun _ => true) true Tryd.f7.params.toList args.toList ds p := hA0
  have hval : ∀ (j : Nat) t v, Tryd.f7.params[j]? = some t → args[j]? = some v → Value.okWide Tryd.prog W .any base t v := hval0
  have hsz' : (DataW.weightsEach Tryd.prog (Tryd.f7.params.toList ++ []) (ds ++ gs)).all (· ≤ reachBytes) = true := hsz
  rw [Tryd.params7] at hA hval hsz'
  obtain ⟨v0, vs0, d0, ds0, p0, q0, hargs, rfl, rfl, h0, r0⟩ := trodAll_cons hA
  obtain ⟨rfl, rfl, rfl⟩ := trodAll_nil r0
  obtain rfl : args = #[v0] := by cases args; simp_all
  obtain ⟨rfl, rfl⟩ := trodVars_none hV
  have hg := laid_of hL
  have k0 := h0
  have lt0 : ∀ x ∈ p0, x.block < W.heap.size := by obtain ⟨m, hm⟩ := k0; exact DataW.trod_lt m _ _ _ hm
  obtain ⟨fuel0, hf0⟩ := h0
  obtain ⟨b0, e0, g0, z0, u0⟩ := (opened_struct4 (n0 := 1) (n1 := 1) (n2 := 1) (n3 := 1) Tryd.underlying39 (by kernel_rfl) (by kernel_rfl) rfl (opened_slice Tryd.underlying27 (by kernel_rfl) (opened_string Tryd.underlying9)) (by kernel_rfl) rfl (opened_slice Tryd.underlying27 (by kernel_rfl) (opened_string Tryd.underlying9)) (by kernel_rfl) rfl (opened_string Tryd.underlying9) (by kernel_rfl) rfl (opened_int (k := .i64) Tryd.underlying3)).out enc W fuel0 _ _ hf0
  obtain ⟨c0_0_0, c0_0_1, c0_0_2, c0_0_3, eq0_0, e0_0_0, e0_0_1, e0_0_2, e0_0_3⟩ := e0
  obtain ⟨A0_0_0, cc0_0_0, rfl, hc0_0_0, hr0_0_0⟩ := e0_0_0
  obtain ⟨A0_0_1, cc0_0_1, rfl, hc0_0_1, hr0_0_1⟩ := e0_0_1
  replace e0_0_2 : c0_0_2 = [.string b0.2.2.1] := e0_0_2
  subst e0_0_2
  replace e0_0_3 : c0_0_3 = [.int .i64 b0.2.2.2] := e0_0_3
  subst e0_0_3
  (try subst eq0_0)
  have hvv0 := shape_struct Tryd.underlying39 (hval 0 39 v0 rfl rfl) eq0_0
  simp only [List.cons_append, List.nil_append] at hvv0
  subst hvv0
  obtain ⟨k, hpure⟩ := tableBack_pure b0 g0 (z0 fun n hn => of_decide_eq_true (List.all_eq_true.1 hsz' n (DataW.weights_mem_each (j := 0) rfl rfl n hn)))
  refine (interchangelaw03_TableBack.calls k A0_0_0 cc0_0_0 b0.1 A0_0_1 cc0_0_1 b0.2.1 b0.2.2.1 b0.2.2.2 W hg hr0_0_0 hc0_0_0 hr0_0_1 hc0_0_1 hpure).mono fun e W' ⟨he, bel⟩ => ?_
  subst he
  exact ⟨_, rfl, _, _, _, [], _, [], hW', trodAll_mk1 (shut_bool Tryd.underlying4 _), (trodAll_cons_mk (Below.trod laid_out (by kernel_rfl) (of_decide_eq_true (by kernel_rfl)) k0 bel lt0) trodAll_mk0), rfl, bel.frame _, fun h => by cases h⟩

theorem tableBack_reads (os : Os) {H : Type} (enc : TypeId × Value → H) : ∃ places, DataW.whole enc Tryd.prog ((laid_world os).forCall (fun _ _ => 0) ⟨#[], #[.agg #[.slice none 0 0, .slice none 0 0, .string ByteArray.empty, .int .i64 0]], []⟩).memory Tryd.f7.params.toList Rows.tableBackSpec.vars false (#[.agg #[.slice none 0 0, .slice none 0 0, .string ByteArray.empty, .int .i64 0]] : Array Value).toList 8 = some ([.agg [.nil, .nil, .lit (.string []), .lit (.int .i64 0)]], [], places) :=
  ⟨[], by kernel_rfl⟩
theorem tableBack_met (os : Os) : laidMet Tryd.prog Rows.tableBackRow.laid ((laid_world os).forCall (fun _ _ => 0) ⟨#[], #[.agg #[.slice none 0 0, .slice none 0 0, .string ByteArray.empty, .int .i64 0]], []⟩).memory :=
  laidMet_of_run' 8 (by kernel_rfl) (by kernel_rfl)
set_option maxRecDepth 100000 in
theorem tableBack_lifted (os : Os) (started : os.Started) (H : Type) (enc : TypeId × Value → H) (F : Stop.Interp) :
    ReturnsInHanded {} Tryd.checked os 7 .any ((OpenSpec.ofChange Rows.tableBackSpec).preRow enc Tryd.prog Tryd.f7 Rows.tableBackRow.domain false Rows.tableBackRow.laid) (((OpenSpec.ofChange Rows.tableBackSpec).at F).post enc Tryd.prog Tryd.f7 false true false false) := by
  obtain ⟨places, hx⟩ := tableBack_reads os enc
  refine returnsInHanded_of_row (C := Tryd.checked) (s := (OpenSpec.ofChange Rows.tableBackSpec)) own_knob started (by kernel_rfl) Tryd.func7
    (witness_row_at (enc := enc) (C := Tryd.checked) false (laid_world os) #[.agg #[.slice none 0 0, .slice none 0 0, .string ByteArray.empty, .int .i64 0]] rfl (by kernel_rfl) (by kernel_rfl) (by kernel_rfl)
      (OpenSpec.preRow_of_cond 8 hx (by kernel_rfl) (fun k hk => by cases hk) (by kernel_rfl) (tableBack_met os))) ?_
  intro W base args ds gs before hval hW _ hcond hsz hL _ _
  exact tableBack_contract H enc W base args ds gs before hval hW hL hsz
theorem tableBack_said : Rows.TableBackSaid :=
  OpenClaim.holds_of_cond 7 Tryd.f7 rfl rfl rfl rfl rfl rfl rfl ⟨rfl, rfl, rfl, rfl, rfl⟩ rfl rfl rfl rfl rfl (by kernel_rfl) Tryd.func7 (by kernel_rfl)
    (of_decide_eq_true (by kernel_rfl)) (by unfold Func.isWrapper; first | (rw [if_pos (by decide +kernel)]; kernel_rfl) | (rw [if_neg (by decide +kernel)]; exact ⟨rfl, rfl⟩))
    (fun os started H enc _ F => by rw [OpenClaim.pre_eq_preRow]; exact tableBack_lifted os started H enc F)
theorem tableBack_plain (f : FuncId) (fn : Func) (hf : Tryd.pinned.checked.prog.funcNamed "interchange/interchangelaw03.TableBack" = some f) (hfn : Tryd.pinned.checked.prog.funcs[f]? = some fn) :
    false = Tryd.pinned.checked.prog.looks [] ∧ ∀ (j : Nat) t, fn.params[j]? = some t → Tryd.pinned.checked.prog.wantsStandIn t = false := by
  obtain rfl : f = 7 := Option.some.inj ((show Tryd.prog.funcNamed "interchange/interchangelaw03.TableBack" = some 7 by kernel_rfl).symm.trans hf) |>.symm
  obtain rfl : fn = Tryd.f7 := (Option.some.inj (Tryd.func7.symm.trans hfn)).symm
  refine ⟨by kernel_rfl, fun j t ht => ?_⟩
  rw [Tryd.params7] at ht
  have hm := Array.mem_of_getElem? ht
  simp only [List.mem_toArray, List.mem_cons, List.not_mem_nil, or_false] at hm
  rcases hm with rfl
  · exact (show Tryd.prog.wantsStandIn 39 = false by kernel_rfl)
theorem tableBack_holds : Rows.TableBackCardSaid :=
  Claim7.holds_tied_plain_at .later [] _ _ _ _ tableBack_said (fun _ h => by cases h) (by kernel_rfl) (fun _ h => by cases h) tableBack_row_tie rfl ⟨rfl, rfl⟩ (by kernel_rfl) rfl tableBack_plain (by kernel_rfl)
#print axioms tableBack_holds
end Go.Proofs.YthdkmohelampbaaDoor.F
