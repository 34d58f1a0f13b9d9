/- Texts of this session for the law PropsTakes, one behind the other: Hrefval, Pref03, interchangeref03table, interchangeref03Take, interchangeref03Deep, Ptab07, Hright, Hquiet, Hvalues, propsheldform, propsRight, Pright. -/
import Derived.Maps.OwnOps
import Derived.Lib.QuietBelowIn
import Derived.RangeFuncCalls
import Derived.Test.YthpfcplhlhnfeaaDoorBPropsTakesa
import Derived.Test.YthpfcplhlhnfeaaDoorBPropsTakesb
namespace Go.Proofs.YthpfcplhlhnfeaaDoor.F
open Go.RowKit Go.Proofs.YthpfcplhlhnfeaaDoorW.PrintWords Go.Proofs.YthpfcplhlhnfeaaDoorW.PrintLast Go.Proofs.YthpfcplhlhnfeaaDoorW.PrintMore
set_option linter.unusedVariables false
set_option linter.unusedSimpArgs false
set_option maxRecDepth 4000
open Go.Maps
/-- (what is left, how deep, why not) -/
abbrev Rk := ByteArray × Int × Int
def rItems (val : ByteArray → Int → Rk) (fields : Bool) (depth : Int) : Nat → ByteArray → Int → Int × Int
  | 0, _, dp => (dp, 0)
  | k + 1, s, dp => if s.size = 0 then (dp, 0) else
      if fields = true ∧ ¬ (ltakeR 1 s).2.2 = 0 then (0, 3) else
      if (if (val (if fields = true then (ltakeR 1 s).2.1 else s) depth).2.2 = 2 then 3 else (val (if fields = true then (ltakeR 1 s).2.1 else s) depth).2.2) = 0 then
        rItems val fields depth k (val (if fields = true then (ltakeR 1 s).2.1 else s) depth).1 (if dp < (val (if fields = true then (ltakeR 1 s).2.1 else s) depth).2.1 then (val (if fields = true then (ltakeR 1 s).2.1 else s) depth).2.1 else dp)
      else (0, if (val (if fields = true then (ltakeR 1 s).2.1 else s) depth).2.2 = 2 then 3 else (val (if fields = true then (ltakeR 1 s).2.1 else s) depth).2.2)
def rRow (val : ByteArray → Int → Rk) (s : ByteArray) (depth : Int) (fields : Bool) : Int × Int := rItems val fields depth s.size s depth
def rVal : Nat → ByteArray → Int → Rk
  | 0, _, _ => (⟨#[]⟩, 0, 2)
  | k + 1, s, depth => if s.size = 0 then (⟨#[]⟩, 0, 2) else
      match sizeU (kindOf s) with
      | some n => if s.size < 1 + n then (⟨#[]⟩, 0, 2) else (s.extract (1 + n) s.size, depth, 0)
      | none => if kindOf s = 83 ∨ kindOf s = 120 then (if (ltakeR 4 (tailOf s)).2.2 = 0 then ((ltakeR 4 (tailOf s)).2.1, depth, 0) else (⟨#[]⟩, 0, 2))
        else if kindOf s = 65 then (if (ltakeR 4 (tailOf s)).2.2 = 0 then (if 32 ≤ depth then (⟨#[]⟩, 0, 5) else ((ltakeR 4 (tailOf s)).2.1, (rRow (rVal k) (ltakeR 4 (tailOf s)).1 (depth + 1) false).1, (rRow (rVal k) (ltakeR 4 (tailOf s)).1 (depth + 1) false).2)) else (⟨#[]⟩, 0, 2))
        else if kindOf s = 70 then (if (ltakeR 4 (tailOf s)).2.2 = 0 then (if 32 ≤ depth then (⟨#[]⟩, 0, 5) else ((ltakeR 4 (tailOf s)).2.1, (rRow (rVal k) (ltakeR 4 (tailOf s)).1 (depth + 1) true).1, (rRow (rVal k) (ltakeR 4 (tailOf s)).1 (depth + 1) true).2)) else (⟨#[]⟩, 0, 2))
        else (⟨#[]⟩, 0, 3)
/-- what is taken is something -/
def RLess (val : ByteArray → Int → Rk) : Prop := ∀ s depth, (val s depth).2.2 = 0 → (val s depth).1.size < s.size
theorem rval_less (k : Nat) : RLess (rVal k) := by
  intro s depth h
  cases k with
  | zero => exact absurd h (show ¬ (2 : Int) = 0 by decide)
  | succ k =>
    have h2 : ¬ (2 : Int) = 0 := by decide
    have h5 : ¬ (5 : Int) = 0 := by decide
    have h3 : ¬ (3 : Int) = 0 := by decide
    simp only [rVal] at h ⊢
    by_cases h0 : s.size = 0
    · rw [if_pos h0] at h; exact absurd h h2
    rw [if_neg h0] at h ⊢
    have ht := tail_size h0
    have hl := ltake_less (n := 4) (t := tailOf s)
    cases hs : sizeU (kindOf s) with
    | some n =>
      rw [hs] at h
      simp only at h ⊢
      by_cases hn : s.size < 1 + n
      · rw [if_pos hn] at h; exact absurd h h2
      · rw [if_neg hn]
        simp only
        rw [extract_size']
        omega
    | none =>
      rw [hs] at h
      simp only at h ⊢
      by_cases e : (ltakeR 4 (tailOf s)).2.2 = 0
      · replace hl := hl e (by decide) isW4
        simp only [if_pos e] at h ⊢
        by_cases hd : 32 ≤ depth
        · simp only [if_pos hd] at h ⊢
          by_cases c1 : kindOf s = 83 ∨ kindOf s = 120
          · rw [if_pos c1]; simp only; omega
          · rw [if_neg c1] at h ⊢
            by_cases c2 : kindOf s = 65
            · rw [if_pos c2] at h; exact absurd h h5
            · rw [if_neg c2] at h ⊢
              by_cases c3 : kindOf s = 70
              · rw [if_pos c3] at h; exact absurd h h5
              · rw [if_neg c3] at h; exact absurd h h3
        · simp only [if_neg hd] at h ⊢
          by_cases c1 : kindOf s = 83 ∨ kindOf s = 120
          · rw [if_pos c1]; simp only; omega
          · rw [if_neg c1] at h ⊢
            by_cases c2 : kindOf s = 65
            · rw [if_pos c2]; simp only; omega
            · rw [if_neg c2] at h ⊢
              by_cases c3 : kindOf s = 70
              · rw [if_pos c3]; simp only; omega
              · rw [if_neg c3] at h; exact absurd h h3
      · simp only [if_neg e] at h
        by_cases c1 : kindOf s = 83 ∨ kindOf s = 120
        · rw [if_pos c1] at h; exact absurd h h2
        · rw [if_neg c1] at h
          by_cases c2 : kindOf s = 65
          · rw [if_pos c2] at h; exact absurd h h2
          · rw [if_neg c2] at h
            by_cases c3 : kindOf s = 70
            · rw [if_pos c3] at h; exact absurd h h2
            · rw [if_neg c3] at h; exact absurd h h3
set_option maxHeartbeats 4000000 in
set_option maxRecDepth 100000 in
theorem row_calls (val : ByteArray → Int → Rk) (hless : RLess val) (s : ByteArray) (hz : s.size ≤ 4611686018427387904) (depth : Int) (fields : Bool)
    (hval : ∀ (i : ByteArray) (W : World), i.size ≤ s.size → Calls Tryd.prog 65 #[.string i, .int .i64 depth] W fun e w' => e = .returned (.tuple #[.string (val i depth).1, .int .i64 (val i depth).2.1, .int .i64 (val i depth).2.2]) ∧ Drawn0 W w') (w : World) :
    Calls Tryd.prog 63 #[.string s, .int .i64 depth, .bool fields] w fun e w' => e = .returned (.tuple #[.int .i64 (rRow val s depth fields).1, .int .i64 (rRow val s depth fields).2]) ∧ Drawn0 w w' := by
  generalize hR : rRow val s depth fields = res
  unfold rRow at hR
  have HR := Aside0.mk hR
  clear hR
  go_enter Tryd.func63, Tryd.ntmps63
  go_wp2
  go_loopw [0, 8] (fun v0 v8 wr => ∃ (i : ByteArray) (dp : Int) (k : Nat), v0 = .string i ∧ v8 = .int .i64 dp ∧ Aside0 (i.size ≤ k) ∧ Aside0 (i.size ≤ s.size) ∧ Aside0 (rItems val fields depth k i dp = res) ∧ Drawn0 w wr) (fun v0 _ _ => match v0 with | .string i => i.size | _ => 0)
  case atStart => exact ⟨s, depth, s.size, rfl, rfl, ⟨Nat.le_refl _⟩, ⟨Nat.le_refl _⟩, HR, Drawn0.refl _⟩
  case round =>
    clear HR
    obtain ⟨i, dp, k, rfl, rfl, hk, hq, hit, ⟨nw, rfl⟩⟩ := hrel
    by_cases h0 : i.size = 0
    · have hri : rItems val fields depth k i dp = (dp, 0) := by
        cases k with
        | zero => rfl
        | succ k => rw [rItems, if_pos h0]
      have hres : res = (dp, 0) := by rw [← hit.out, hri]
      have hd0 : decide ((0 : Int) < (i.size : Int)) = false := by rw [h0]; rfl
      subst hres
      go_wp2
      go_ret2
      exact ⟨rfl, nw, rfl⟩
    · have hd0 : decide ((0 : Int) < (i.size : Int)) = true := decide_eq_true (by omega)
      obtain ⟨k, rfl⟩ : ∃ k', k = k' + 1 := ⟨k - 1, by have := hk.out; omega⟩
      have hit' := hit.out
      rw [rItems, if_neg h0] at hit'
      cases fields with
      | true =>
        have htk := Aside0.mk (rtshort_f i (by have := hq.out; omega))
        have hsm := ltake_less (n := 1) (t := i)
        simp only [if_true] at hit'
        generalize ltakeR 1 i = t at htk hsm hit'
        obtain ⟨t1, t2, t3⟩ := t
        simp only at hsm hit'
        by_cases e : t3 = 0
        · subst e
          replace hsm := hsm rfl (by decide) isW1
          rw [if_neg (fun h => h.2 rfl)] at hit'
          have hv := fun W => hval t2 W (by have := hq.out; omega)
          have hlo := hless t2 depth
          generalize val t2 depth = o at hit' hv hlo
          obtain ⟨o1, o2, o3⟩ := o
          simp only at hit' hlo hv
          by_cases e2 : o3 = 2
          · subst e2
            have hres : res = (0, 3) := by rw [← hit']; rfl
            subst hres
            clear hit'
            go_wp2_with (first | (go_at_call 49; refine (interchangeref02_TakeShort.calls _ _ _ _ _ htk.out).mono ?_; rintro e w' ⟨rfl, ⟨nd0, rfl⟩⟩) | (go_at_call 65; refine (hv _).mono ?_; rintro e w' ⟨rfl, ⟨nd, rfl⟩⟩))
            go_ret2
            exact ⟨rfl, ⟨_, rfl⟩⟩
          · rw [if_neg e2] at hit'
            have e2' : (o3 == 2) = false := by simpa using e2
            by_cases e0 : o3 = 0
            · subst e0
              rw [if_pos rfl] at hit'
              replace hlo := hlo rfl
              have HIT := Aside0.mk hit'
              clear hit'
              by_cases hdp : dp < o2
              · rw [if_pos hdp] at HIT
                have hdp' : decide (dp < o2) = true := decide_eq_true hdp
                go_wp2_with (first | (go_at_call 49; refine (interchangeref02_TakeShort.calls _ _ _ _ _ htk.out).mono ?_; rintro e w' ⟨rfl, ⟨nd0, rfl⟩⟩) | (go_at_call 65; refine (hv _).mono ?_; rintro e w' ⟨rfl, ⟨nd, rfl⟩⟩))
                exact ⟨⟨o1, o2, k, rfl, rfl, ⟨by have := hk.out; omega⟩, ⟨by have := hq.out; omega⟩, HIT, ⟨_, rfl⟩⟩, by show o1.size < i.size; omega⟩
              · rw [if_neg hdp] at HIT
                have hdp' : decide (dp < o2) = false := decide_eq_false hdp
                go_wp2_with (first | (go_at_call 49; refine (interchangeref02_TakeShort.calls _ _ _ _ _ htk.out).mono ?_; rintro e w' ⟨rfl, ⟨nd0, rfl⟩⟩) | (go_at_call 65; refine (hv _).mono ?_; rintro e w' ⟨rfl, ⟨nd, rfl⟩⟩))
                exact ⟨⟨o1, dp, k, rfl, rfl, ⟨by have := hk.out; omega⟩, ⟨by have := hq.out; omega⟩, HIT, ⟨_, rfl⟩⟩, by show o1.size < i.size; omega⟩
            · rw [if_neg e0] at hit'
              have e0' : (o3 != 0) = true := by simpa using e0
              subst hit'
              go_wp2_with (first | (go_at_call 49; refine (interchangeref02_TakeShort.calls _ _ _ _ _ htk.out).mono ?_; rintro e w' ⟨rfl, ⟨nd0, rfl⟩⟩) | (go_at_call 65; refine (hv _).mono ?_; rintro e w' ⟨rfl, ⟨nd, rfl⟩⟩))
              go_ret2
              exact ⟨rfl, ⟨_, rfl⟩⟩
        · have e' : (t3 != 0) = true := by simpa using e
          rw [if_pos ⟨trivial, e⟩] at hit'
          subst hit'
          clear hsm
          go_wp2_with (first | (go_at_call 49; refine (interchangeref02_TakeShort.calls _ _ _ _ _ htk.out).mono ?_; rintro e w' ⟨rfl, ⟨nd0, rfl⟩⟩) )
          go_ret2
          exact ⟨rfl, ⟨_, rfl⟩⟩
      | false =>
        rw [if_neg (fun h => Bool.noConfusion h.1)] at hit'
        simp only [Bool.false_eq_true, if_false] at hit'
        have hv := fun W => hval i W (by exact hq.out)
        have hlo := hless i depth
        generalize val i depth = o at hit' hv hlo
        obtain ⟨o1, o2, o3⟩ := o
        simp only at hit' hlo hv
        by_cases e2 : o3 = 2
        · subst e2
          have hres : res = (0, 3) := by rw [← hit']; rfl
          subst hres
          clear hit'
          go_wp2_with (first | (go_at_call 65; refine (hv _).mono ?_; rintro e w' ⟨rfl, ⟨nd, rfl⟩⟩))
          go_ret2
          exact ⟨rfl, ⟨_, rfl⟩⟩
        · rw [if_neg e2] at hit'
          have e2' : (o3 == 2) = false := by simpa using e2
          by_cases e0 : o3 = 0
          · subst e0
            rw [if_pos rfl] at hit'
            replace hlo := hlo rfl
            have HIT := Aside0.mk hit'
            clear hit'
            by_cases hdp : dp < o2
            · rw [if_pos hdp] at HIT
              have hdp' : decide (dp < o2) = true := decide_eq_true hdp
              go_wp2_with (first | (go_at_call 65; refine (hv _).mono ?_; rintro e w' ⟨rfl, ⟨nd, rfl⟩⟩))
              exact ⟨⟨o1, o2, k, rfl, rfl, ⟨by have := hk.out; omega⟩, ⟨by have := hq.out; omega⟩, HIT, ⟨_, rfl⟩⟩, by show o1.size < i.size; omega⟩
            · rw [if_neg hdp] at HIT
              have hdp' : decide (dp < o2) = false := decide_eq_false hdp
              go_wp2_with (first | (go_at_call 65; refine (hv _).mono ?_; rintro e w' ⟨rfl, ⟨nd, rfl⟩⟩))
              exact ⟨⟨o1, dp, k, rfl, rfl, ⟨by have := hk.out; omega⟩, ⟨by have := hq.out; omega⟩, HIT, ⟨_, rfl⟩⟩, by show o1.size < i.size; omega⟩
          · rw [if_neg e0] at hit'
            have e0' : (o3 != 0) = true := by simpa using e0
            subst hit'
            go_wp2_with (first | (go_at_call 65; refine (hv _).mono ?_; rintro e w' ⟨rfl, ⟨nd, rfl⟩⟩))
            go_ret2
            exact ⟨rfl, ⟨_, rfl⟩⟩
theorem sizeU_le {c n : Nat} (h : sizeU c = some n) : n ≤ 8 := by
  unfold sizeU at h
  repeat' split at h
  all_goals first | (cases h; decide) | cases h
theorem kind_at {s : ByteArray} (h : 0 < s.size) : (kindOf s : Int) = ((s[0]'h).toNat : Int) := by
  unfold kindOf
  obtain ⟨⟨l⟩⟩ := s
  cases l with
  | nil => exact absurd h (by decide)
  | cons a l => rfl
set_option maxHeartbeats 4000000 in
set_option maxRecDepth 100000 in
theorem rval_calls : ∀ (k : Nat) (s : ByteArray) (hz : s.size ≤ 4611686018427387904) (hk : s.size < k) (depth : Int) (hd0 : 0 ≤ depth) (hd1 : depth ≤ 32) (w : World),
    Calls Tryd.prog 65 #[.string s, .int .i64 depth] w fun e w' => e = .returned (.tuple #[.string (rVal k s depth).1, .int .i64 (rVal k s depth).2.1, .int .i64 (rVal k s depth).2.2]) ∧ Drawn0 w w' := by
  intro k
  induction k with
  | zero => intro s hz hk; omega
  | succ k ih =>
    intro s hz hk depth hd0 hd1 w
    generalize hw : rVal (k + 1) s depth = res
    rw [rVal] at hw
    by_cases h0 : s.size = 0
    · rw [if_pos h0] at hw
      subst hw
      have hd : ((s.size : Int) == 0) = true := by rw [h0]; rfl
      go_enter Tryd.func65, Tryd.ntmps65
      go_wp2
      refine bodyPost_ret (results_tmp3 rfl _ _ _) rfl ?_
      exact ⟨rfl, Drawn0.refl _⟩
    · rw [if_neg h0] at hw
      have hd : ((s.size : Int) == 0) = false := beq_eq_false_iff_ne.mpr (by omega)
      have hpos : 0 < s.size := by omega
      have hts := tail_size h0
      obtain ⟨b, hb⟩ : ∃ b : UInt8, kindOf s = b.toNat := ⟨_, rfl⟩
      have hx : ∀ h : 0 < s.size, ((s[0]'h).toNat : Int) = (b.toNat : Int) := by intro h; rw [← hb, kind_at h]
      have hsz := Aside0.mk (rsize_k (k := 40) (Nat.le_refl _) b)
      rw [hb] at hw
      clear hb
      generalize b.toNat = c at hx hsz hw
      unfold sizeI at hsz
      cases hs : sizeU c with
      | some n =>
        rw [hs] at hw hsz
        simp only at hw hsz
        have hn := sizeU_le hs
        have hn0 : decide ((0 : Int) ≤ (n : Int)) = true := decide_eq_true (by omega)
        have hwr : IntKind.i64.wrap (1 + (n : Int)) = 1 + (n : Int) := by rw [i64_w]; exact wrap64_of (by omega) (by omega)
        have hnt : (1 + (n : Int)).toNat = 1 + n := by omega
        by_cases hl : s.size < 1 + n
        · rw [if_pos hl] at hw
          subst hw
          have hl' : decide ((s.size : Int) < 1 + (n : Int)) = true := decide_eq_true (by omega)
          go_enter Tryd.func65, Tryd.ntmps65
          go_wp2_with (first | (go_at_call 66; refine (interchangeref03_size.calls _ _ _ _ hsz.out).mono ?_; rintro e w' ⟨rfl, ⟨nd0, rfl⟩⟩))
          refine bodyPost_ret (results_tmp3 rfl _ _ _) rfl ?_
          exact ⟨rfl, ⟨_, rfl⟩⟩
        · rw [if_neg hl] at hw
          subst hw
          have hl' : decide ((s.size : Int) < 1 + (n : Int)) = false := decide_eq_false (by omega)
          have hl2 : (1 + (n : Int)) ≤ (s.size : Int) := by omega
          have hl3 : (0 : Int) ≤ 1 + (n : Int) := by omega
          go_enter Tryd.func65, Tryd.ntmps65
          go_wp2_with (first | (go_at_call 66; refine (interchangeref03_size.calls _ _ _ _ hsz.out).mono ?_; rintro e w' ⟨rfl, ⟨nd0, rfl⟩⟩))
          refine bodyPost_ret (results_tmp3 rfl _ _ _) rfl ?_
          exact ⟨rfl, ⟨_, rfl⟩⟩
      | none =>
        rw [hs] at hw hsz
        simp only at hw hsz
        clear hs
        have hfl := ltake_fail (n := 4) (t := tailOf s)
        have hsm := ltake_less (n := 4) (t := tailOf s)
        by_cases e83 : c = 83
        · rw [if_pos (.inl e83)] at hw
          rw [show (c : Int) = 83 from by omega] at hx hsz
          have hin := Aside0.mk (rinside_k (k := 12) (by decide) (tailOf s) (by omega))
          generalize ltakeR 4 (tailOf s) = t at hin hw hfl hsm
          obtain ⟨t1, t2, t3⟩ := t
          simp only at hw hfl hsm
          by_cases e : t3 = 0
          · subst e
            rw [if_pos rfl] at hw
            subst hw
            clear hsm
            go_enter Tryd.func65, Tryd.ntmps65
            go_wp2_with (first | (go_at_call 66; refine (interchangeref03_size.calls _ _ _ _ hsz.out).mono ?_; rintro e w' ⟨rfl, ⟨nd0, rfl⟩⟩) | (go_at_call 62; refine (interchangeref03_inside.calls 12 (tailOf s) _ _ _ _ hin.out).mono ?_; rintro e w' ⟨rfl, ⟨nd1, rfl⟩⟩))
            repeat (go_quiet (fail); try go_wp2_with (first | (go_at_call 66; refine (interchangeref03_size.calls _ _ _ _ hsz.out).mono ?_; rintro e w' ⟨rfl, ⟨nd0, rfl⟩⟩) | (go_at_call 62; refine (interchangeref03_inside.calls 12 (tailOf s) _ _ _ _ hin.out).mono ?_; rintro e w' ⟨rfl, ⟨nd1, rfl⟩⟩)))
            refine bodyPost_ret (results_tmp3 rfl _ _ _) rfl ?_
            exact ⟨rfl, ⟨_, rfl⟩⟩
          · rw [if_neg e] at hw
            have e' : (t3 != 0) = true := by simpa using e
            obtain ⟨-, -, rfl⟩ := tup3 (hfl e isW4)
            subst hw
            clear hsm
            go_enter Tryd.func65, Tryd.ntmps65
            go_wp2_with (first | (go_at_call 66; refine (interchangeref03_size.calls _ _ _ _ hsz.out).mono ?_; rintro e w' ⟨rfl, ⟨nd0, rfl⟩⟩) | (go_at_call 62; refine (interchangeref03_inside.calls 12 (tailOf s) _ _ _ _ hin.out).mono ?_; rintro e w' ⟨rfl, ⟨nd1, rfl⟩⟩))
            repeat (go_quiet (fail); try go_wp2_with (first | (go_at_call 66; refine (interchangeref03_size.calls _ _ _ _ hsz.out).mono ?_; rintro e w' ⟨rfl, ⟨nd0, rfl⟩⟩) | (go_at_call 62; refine (interchangeref03_inside.calls 12 (tailOf s) _ _ _ _ hin.out).mono ?_; rintro e w' ⟨rfl, ⟨nd1, rfl⟩⟩)))
            refine bodyPost_ret (results_tmp3 rfl _ _ _) rfl ?_
            exact ⟨rfl, ⟨_, rfl⟩⟩
        by_cases e120 : c = 120
        · rw [if_pos (.inr e120)] at hw
          rw [show (c : Int) = 120 from by omega] at hx hsz
          have hin := Aside0.mk (rinside_k (k := 12) (by decide) (tailOf s) (by omega))
          generalize ltakeR 4 (tailOf s) = t at hin hw hfl hsm
          obtain ⟨t1, t2, t3⟩ := t
          simp only at hw hfl hsm
          by_cases e : t3 = 0
          · subst e
            rw [if_pos rfl] at hw
            subst hw
            clear hsm
            go_enter Tryd.func65, Tryd.ntmps65
            go_wp2_with (first | (go_at_call 66; refine (interchangeref03_size.calls _ _ _ _ hsz.out).mono ?_; rintro e w' ⟨rfl, ⟨nd0, rfl⟩⟩) | (go_at_call 62; refine (interchangeref03_inside.calls 12 (tailOf s) _ _ _ _ hin.out).mono ?_; rintro e w' ⟨rfl, ⟨nd1, rfl⟩⟩))
            repeat (go_quiet (fail); try go_wp2_with (first | (go_at_call 66; refine (interchangeref03_size.calls _ _ _ _ hsz.out).mono ?_; rintro e w' ⟨rfl, ⟨nd0, rfl⟩⟩) | (go_at_call 62; refine (interchangeref03_inside.calls 12 (tailOf s) _ _ _ _ hin.out).mono ?_; rintro e w' ⟨rfl, ⟨nd1, rfl⟩⟩)))
            refine bodyPost_ret (results_tmp3 rfl _ _ _) rfl ?_
            exact ⟨rfl, ⟨_, rfl⟩⟩
          · rw [if_neg e] at hw
            have e' : (t3 != 0) = true := by simpa using e
            obtain ⟨-, -, rfl⟩ := tup3 (hfl e isW4)
            subst hw
            clear hsm
            go_enter Tryd.func65, Tryd.ntmps65
            go_wp2_with (first | (go_at_call 66; refine (interchangeref03_size.calls _ _ _ _ hsz.out).mono ?_; rintro e w' ⟨rfl, ⟨nd0, rfl⟩⟩) | (go_at_call 62; refine (interchangeref03_inside.calls 12 (tailOf s) _ _ _ _ hin.out).mono ?_; rintro e w' ⟨rfl, ⟨nd1, rfl⟩⟩))
            repeat (go_quiet (fail); try go_wp2_with (first | (go_at_call 66; refine (interchangeref03_size.calls _ _ _ _ hsz.out).mono ?_; rintro e w' ⟨rfl, ⟨nd0, rfl⟩⟩) | (go_at_call 62; refine (interchangeref03_inside.calls 12 (tailOf s) _ _ _ _ hin.out).mono ?_; rintro e w' ⟨rfl, ⟨nd1, rfl⟩⟩)))
            refine bodyPost_ret (results_tmp3 rfl _ _ _) rfl ?_
            exact ⟨rfl, ⟨_, rfl⟩⟩
        rw [if_neg (by omega)] at hw
        by_cases e65 : c = 65
        · rw [if_pos e65] at hw
          rw [show (c : Int) = 65 from by omega] at hx hsz
          have hin := Aside0.mk (rinside_k (k := 12) (by decide) (tailOf s) (by omega))
          generalize ltakeR 4 (tailOf s) = t at hin hw hfl hsm
          obtain ⟨t1, t2, t3⟩ := t
          simp only at hw hfl hsm
          by_cases e : t3 = 0
          · subst e
            rw [if_pos rfl] at hw
            replace hsm := hsm rfl (by decide) isW4
            by_cases hdp : 32 ≤ depth
            · rw [if_pos hdp] at hw
              have hdp' : decide (32 ≤ depth) = true := decide_eq_true hdp
              subst hw
              go_enter Tryd.func65, Tryd.ntmps65
              go_wp2_with (first | (go_at_call 66; refine (interchangeref03_size.calls _ _ _ _ hsz.out).mono ?_; rintro e w' ⟨rfl, ⟨nd0, rfl⟩⟩) | (go_at_call 62; refine (interchangeref03_inside.calls 12 (tailOf s) _ _ _ _ hin.out).mono ?_; rintro e w' ⟨rfl, ⟨nd1, rfl⟩⟩))
              repeat (go_quiet (fail); try go_wp2_with (first | (go_at_call 66; refine (interchangeref03_size.calls _ _ _ _ hsz.out).mono ?_; rintro e w' ⟨rfl, ⟨nd0, rfl⟩⟩) | (go_at_call 62; refine (interchangeref03_inside.calls 12 (tailOf s) _ _ _ _ hin.out).mono ?_; rintro e w' ⟨rfl, ⟨nd1, rfl⟩⟩)))
              refine bodyPost_ret (results_tmp3 rfl _ _ _) rfl ?_
              exact ⟨rfl, ⟨_, rfl⟩⟩
            · rw [if_neg hdp] at hw
              have hdp' : decide (32 ≤ depth) = false := decide_eq_false hdp
              have hrow := row_calls (rVal k) (rval_less k) t1 (by omega) (depth + 1) false (fun i W hi => ih i (by omega) (by omega) (depth + 1) (by omega) (by omega) W)
              generalize rRow (rVal k) t1 (depth + 1) false = r at hrow hw
              subst hw
              have hdw : IntKind.i64.wrap (depth + 1) = depth + 1 := by rw [i64_w]; exact wrap64_of (by omega) (by omega)
              go_enter Tryd.func65, Tryd.ntmps65
              go_wp2_with (first | (go_at_call 66; refine (interchangeref03_size.calls _ _ _ _ hsz.out).mono ?_; rintro e w' ⟨rfl, ⟨nd0, rfl⟩⟩) | (go_at_call 62; refine (interchangeref03_inside.calls 12 (tailOf s) _ _ _ _ hin.out).mono ?_; rintro e w' ⟨rfl, ⟨nd1, rfl⟩⟩) | (go_at_call 63; refine (hrow _).mono ?_; rintro e w' ⟨rfl, ⟨nd2, rfl⟩⟩))
              repeat (go_quiet (fail); try go_wp2_with (first | (go_at_call 66; refine (interchangeref03_size.calls _ _ _ _ hsz.out).mono ?_; rintro e w' ⟨rfl, ⟨nd0, rfl⟩⟩) | (go_at_call 62; refine (interchangeref03_inside.calls 12 (tailOf s) _ _ _ _ hin.out).mono ?_; rintro e w' ⟨rfl, ⟨nd1, rfl⟩⟩) | (go_at_call 63; refine (hrow _).mono ?_; rintro e w' ⟨rfl, ⟨nd2, rfl⟩⟩)))
              refine bodyPost_ret (results_tmp3 rfl _ _ _) rfl ?_
              exact ⟨rfl, ⟨_, rfl⟩⟩
          · rw [if_neg e] at hw
            have e' : (t3 != 0) = true := by simpa using e
            obtain ⟨-, -, rfl⟩ := tup3 (hfl e isW4)
            subst hw
            clear hsm
            go_enter Tryd.func65, Tryd.ntmps65
            go_wp2_with (first | (go_at_call 66; refine (interchangeref03_size.calls _ _ _ _ hsz.out).mono ?_; rintro e w' ⟨rfl, ⟨nd0, rfl⟩⟩) | (go_at_call 62; refine (interchangeref03_inside.calls 12 (tailOf s) _ _ _ _ hin.out).mono ?_; rintro e w' ⟨rfl, ⟨nd1, rfl⟩⟩))
            repeat (go_quiet (fail); try go_wp2_with (first | (go_at_call 66; refine (interchangeref03_size.calls _ _ _ _ hsz.out).mono ?_; rintro e w' ⟨rfl, ⟨nd0, rfl⟩⟩) | (go_at_call 62; refine (interchangeref03_inside.calls 12 (tailOf s) _ _ _ _ hin.out).mono ?_; rintro e w' ⟨rfl, ⟨nd1, rfl⟩⟩)))
            refine bodyPost_ret (results_tmp3 rfl _ _ _) rfl ?_
            exact ⟨rfl, ⟨_, rfl⟩⟩
        rw [if_neg e65] at hw
        by_cases e70 : c = 70
        · rw [if_pos e70] at hw
          rw [show (c : Int) = 70 from by omega] at hx hsz
          have hin := Aside0.mk (rinside_k (k := 12) (by decide) (tailOf s) (by omega))
          generalize ltakeR 4 (tailOf s) = t at hin hw hfl hsm
          obtain ⟨t1, t2, t3⟩ := t
          simp only at hw hfl hsm
          by_cases e : t3 = 0
          · subst e
            rw [if_pos rfl] at hw
            replace hsm := hsm rfl (by decide) isW4
            by_cases hdp : 32 ≤ depth
            · rw [if_pos hdp] at hw
              have hdp' : decide (32 ≤ depth) = true := decide_eq_true hdp
              subst hw
              go_enter Tryd.func65, Tryd.ntmps65
              go_wp2_with (first | (go_at_call 66; refine (interchangeref03_size.calls _ _ _ _ hsz.out).mono ?_; rintro e w' ⟨rfl, ⟨nd0, rfl⟩⟩) | (go_at_call 62; refine (interchangeref03_inside.calls 12 (tailOf s) _ _ _ _ hin.out).mono ?_; rintro e w' ⟨rfl, ⟨nd1, rfl⟩⟩))
              repeat (go_quiet (fail); try go_wp2_with (first | (go_at_call 66; refine (interchangeref03_size.calls _ _ _ _ hsz.out).mono ?_; rintro e w' ⟨rfl, ⟨nd0, rfl⟩⟩) | (go_at_call 62; refine (interchangeref03_inside.calls 12 (tailOf s) _ _ _ _ hin.out).mono ?_; rintro e w' ⟨rfl, ⟨nd1, rfl⟩⟩)))
              refine bodyPost_ret (results_tmp3 rfl _ _ _) rfl ?_
              exact ⟨rfl, ⟨_, rfl⟩⟩
            · rw [if_neg hdp] at hw
              have hdp' : decide (32 ≤ depth) = false := decide_eq_false hdp
              have hrow := row_calls (rVal k) (rval_less k) t1 (by omega) (depth + 1) true (fun i W hi => ih i (by omega) (by omega) (depth + 1) (by omega) (by omega) W)
              generalize rRow (rVal k) t1 (depth + 1) true = r at hrow hw
              subst hw
              have hdw : IntKind.i64.wrap (depth + 1) = depth + 1 := by rw [i64_w]; exact wrap64_of (by omega) (by omega)
              go_enter Tryd.func65, Tryd.ntmps65
              go_wp2_with (first | (go_at_call 66; refine (interchangeref03_size.calls _ _ _ _ hsz.out).mono ?_; rintro e w' ⟨rfl, ⟨nd0, rfl⟩⟩) | (go_at_call 62; refine (interchangeref03_inside.calls 12 (tailOf s) _ _ _ _ hin.out).mono ?_; rintro e w' ⟨rfl, ⟨nd1, rfl⟩⟩) | (go_at_call 63; refine (hrow _).mono ?_; rintro e w' ⟨rfl, ⟨nd2, rfl⟩⟩))
              repeat (go_quiet (fail); try go_wp2_with (first | (go_at_call 66; refine (interchangeref03_size.calls _ _ _ _ hsz.out).mono ?_; rintro e w' ⟨rfl, ⟨nd0, rfl⟩⟩) | (go_at_call 62; refine (interchangeref03_inside.calls 12 (tailOf s) _ _ _ _ hin.out).mono ?_; rintro e w' ⟨rfl, ⟨nd1, rfl⟩⟩) | (go_at_call 63; refine (hrow _).mono ?_; rintro e w' ⟨rfl, ⟨nd2, rfl⟩⟩)))
              refine bodyPost_ret (results_tmp3 rfl _ _ _) rfl ?_
              exact ⟨rfl, ⟨_, rfl⟩⟩
          · rw [if_neg e] at hw
            have e' : (t3 != 0) = true := by simpa using e
            obtain ⟨-, -, rfl⟩ := tup3 (hfl e isW4)
            subst hw
            clear hsm
            go_enter Tryd.func65, Tryd.ntmps65
            go_wp2_with (first | (go_at_call 66; refine (interchangeref03_size.calls _ _ _ _ hsz.out).mono ?_; rintro e w' ⟨rfl, ⟨nd0, rfl⟩⟩) | (go_at_call 62; refine (interchangeref03_inside.calls 12 (tailOf s) _ _ _ _ hin.out).mono ?_; rintro e w' ⟨rfl, ⟨nd1, rfl⟩⟩))
            repeat (go_quiet (fail); try go_wp2_with (first | (go_at_call 66; refine (interchangeref03_size.calls _ _ _ _ hsz.out).mono ?_; rintro e w' ⟨rfl, ⟨nd0, rfl⟩⟩) | (go_at_call 62; refine (interchangeref03_inside.calls 12 (tailOf s) _ _ _ _ hin.out).mono ?_; rintro e w' ⟨rfl, ⟨nd1, rfl⟩⟩)))
            refine bodyPost_ret (results_tmp3 rfl _ _ _) rfl ?_
            exact ⟨rfl, ⟨_, rfl⟩⟩
        rw [if_neg e70] at hw
        subst hw
        clear hfl hsm
        have c83 : ((c : Int) != 83) = true := bne_iff_ne.mpr (by omega)
        have c120 : ((c : Int) != 120) = true := bne_iff_ne.mpr (by omega)
        have c65 : ((c : Int) != 65) = true := bne_iff_ne.mpr (by omega)
        have c70 : ((c : Int) != 70) = true := bne_iff_ne.mpr (by omega)
        go_enter Tryd.func65, Tryd.ntmps65
        go_wp2_with (first | (go_at_call 66; refine (interchangeref03_size.calls _ _ _ _ hsz.out).mono ?_; rintro e w' ⟨rfl, ⟨nd0, rfl⟩⟩))
        repeat (go_quiet (fail); try go_wp2)
        refine bodyPost_ret (results_tmp3 rfl _ _ _) rfl ?_
        exact ⟨rfl, ⟨_, rfl⟩⟩
def interchangeref03_value.f (a0 : ByteArray) (a1 : Int) : Option (ByteArray × Int × Int) := if a0.size ≤ 4611686018427387904 ∧ 0 ≤ a1 ∧ a1 ≤ 32 then some (rVal (a0.size + 1) a0 a1) else none
def interchangeref03_row.f (a0 : ByteArray) (a1 : Int) (a2 : Bool) : Option (Int × Int) := if a0.size ≤ 4611686018427387904 ∧ 0 ≤ a1 ∧ a1 ≤ 32 then some (rRow (rVal (a0.size + 1)) a0 a1 a2) else none
theorem interchangeref03_value.calls (a0 : ByteArray) (a1 : Int) (r1 : ByteArray) (r2 r3 : Int) (w : World) (h : interchangeref03_value.f a0 a1 = some (r1, r2, r3)) :
    Calls Tryd.prog 65 #[.string a0, .int .i64 a1] w fun e w' => e = .returned (.tuple #[.string r1, .int .i64 r2, .int .i64 r3]) ∧ Drawn0 w w' := by
  unfold interchangeref03_value.f at h
  by_cases e : a0.size ≤ 4611686018427387904 ∧ 0 ≤ a1 ∧ a1 ≤ 32
  · rw [if_pos e] at h
    have := rval_calls (a0.size + 1) a0 e.1 (by omega) a1 e.2.1 e.2.2 w
    rw [Option.some.inj h] at this
    exact this
  · rw [if_neg e] at h; cases h
theorem interchangeref03_row.calls (a0 : ByteArray) (a1 : Int) (a2 : Bool) (r1 r2 : Int) (w : World) (h : interchangeref03_row.f a0 a1 a2 = some (r1, r2)) :
    Calls Tryd.prog 63 #[.string a0, .int .i64 a1, .bool a2] w fun e w' => e = .returned (.tuple #[.int .i64 r1, .int .i64 r2]) ∧ Drawn0 w w' := by
  unfold interchangeref03_row.f at h
  by_cases e : a0.size ≤ 4611686018427387904 ∧ 0 ≤ a1 ∧ a1 ≤ 32
  · rw [if_pos e] at h
    have := row_calls (rVal (a0.size + 1)) (rval_less _) a0 e.1 a1 a2 (fun i W hi => rval_calls (a0.size + 1) i (by omega) (by omega) a1 e.2.1 e.2.2 W) w
    rw [Option.some.inj h] at this
    exact this
  · rw [if_neg e] at h; cases h
end Go.Proofs.YthpfcplhlhnfeaaDoor.F
namespace Go.Proofs.YthpfcplhlhnfeaaDoor.F
open Go.RowKit Go.Proofs.YthpfcplhlhnfeaaDoorW.PrintWords Go.Proofs.YthpfcplhlhnfeaaDoorW.PrintLast Go.Proofs.YthpfcplhlhnfeaaDoorW.PrintMore
set_option linter.unusedVariables false
set_option linter.unusedSimpArgs false
set_option maxRecDepth 4000
/-- alike: the same error; where there is none, the same rest, and how deep -/
def Alike (d : Int) (t : Tk) (r : Rk) : Prop := t.2.1 = r.2.2 ∧ (t.2.1 = 0 → t.1 = r.1 ∧ t.2.2 = max d r.2.1)
def rOne (val : ByteArray → Int → Rk) (fields : Bool) (s : ByteArray) (depth : Int) : Rk := if fields = true ∧ ¬ (ltakeR 1 s).2.2 = 0 then (⟨#[]⟩, 0, 2) else val (if fields = true then (ltakeR 1 s).2.1 else s) depth
theorem rItems_succ (val : ByteArray → Int → Rk) (fields : Bool) (depth : Int) (k : Nat) (s : ByteArray) (dp : Int) : rItems val fields depth (k + 1) s dp = if s.size = 0 then (dp, 0) else
    if (if (rOne val fields s depth).2.2 = 2 then 3 else (rOne val fields s depth).2.2) = 0 then rItems val fields depth k (rOne val fields s depth).1 (if dp < (rOne val fields s depth).2.1 then (rOne val fields s depth).2.1 else dp)
    else (0, if (rOne val fields s depth).2.2 = 2 then 3 else (rOne val fields s depth).2.2) := by
  rw [rItems]
  unfold rOne
  by_cases e : s.size = 0
  · rw [if_pos e, if_pos e]
  · rw [if_neg e, if_neg e]
    by_cases c : fields = true ∧ ¬ (ltakeR 1 s).2.2 = 0
    · simp only [if_pos c]
      rfl
    · simp only [if_neg c]
theorem items_alike {one : ByteArray → Int → Int → Tk} {val : ByteArray → Int → Rk} {fields : Bool} (hl : Less one) {dep : Int} : ∀ (k : Nat) (s : ByteArray) (d dp : Int), dp ≤ d → dep ≤ dp → (∀ i d, i.size ≤ s.size → dep ≤ d → Alike d (one i dep d) (rOne val fields i dep)) →
    (itemsR one k s dep d).1 = (rItems val fields dep k s dp).2 ∧ ((itemsR one k s dep d).1 = 0 → dp ≤ (rItems val fields dep k s dp).1 ∧ (itemsR one k s dep d).2 = max d (rItems val fields dep k s dp).1)
  | 0, s, d, dp, h, _, _ => ⟨rfl, fun _ => ⟨Int.le_refl _, by show d = max d dp; omega⟩⟩
  | k + 1, s, d, dp, h, h1, H => by
    rw [itemsR, rItems_succ]
    by_cases e : s.size = 0
    · rw [if_pos e, if_pos e]
      exact ⟨rfl, fun _ => ⟨Int.le_refl _, by show d = max d dp; omega⟩⟩
    · rw [if_neg e, if_neg e]
      obtain ⟨a1, a2⟩ := H s d (Nat.le_refl _) (by omega)
      have hls := hl s dep d
      generalize rOne val fields s dep = r at a1 a2 ⊢
      generalize one s dep d = t at a1 a2 hls ⊢
      obtain ⟨t1, t2, t3⟩ := t
      obtain ⟨r1, r2, r3⟩ := r
      simp only at a1 a2 hls ⊢
      subst a1
      by_cases e0 : t2 = 0
      · subst e0
        obtain ⟨rfl, rfl⟩ := a2 rfl
        replace hls := hls rfl
        rw [if_pos (show (if (0 : Int) = 2 then (3 : Int) else 0) = 0 by decide), if_pos (show (if (0 : Int) = 2 then (3 : Int) else 0) = 0 by decide)]
        obtain ⟨m, hm⟩ : ∃ m : Int, m = if dp < r2 then r2 else dp := ⟨_, rfl⟩
        have hm1 : dp ≤ m ∧ r2 ≤ m ∧ m ≤ max d r2 := by rw [hm]; split <;> omega
        rw [← hm]
        obtain ⟨b1, b2⟩ := items_alike hl k t1 (max d r2) m (by omega) (by omega) (fun i d hi hd => H i d (by omega) hd)
        refine ⟨b1, fun h0 => ?_⟩
        obtain ⟨c1, c2⟩ := b2 h0
        exact ⟨by omega, by omega⟩
      · by_cases e2 : t2 = 2
        · subst e2
          exact ⟨rfl, fun h => absurd h (show ¬ (3 : Int) = 0 by decide)⟩
        · rw [if_neg e2, if_neg e0, if_neg e0]
          exact ⟨rfl, fun h => absurd h e0⟩
theorem within_alike {one : ByteArray → Int → Int → Tk} {val : ByteArray → Int → Rk} {fields : Bool} (hl : Less one) {s : ByteArray} {dep d : Int} (hd : dep ≤ d)
    (H : ∀ i d', i.size ≤ (ltakeR 4 s).1.size → dep + 1 ≤ d' → Alike d' (one i (dep + 1) d') (rOne val fields i (dep + 1))) :
    Alike d (withinR one s (dep + 1) d) (if (ltakeR 4 s).2.2 = 0 then (if 32 ≤ dep then (⟨#[]⟩, 0, 5) else ((ltakeR 4 s).2.1, (rRow val (ltakeR 4 s).1 (dep + 1) fields).1, (rRow val (ltakeR 4 s).1 (dep + 1) fields).2)) else (⟨#[]⟩, 0, 2)) := by
  unfold withinR rRow Alike
  by_cases e : (ltakeR 4 s).2.2 = 0
  · have hs := ltake_less e (by decide) isW4
    rw [if_pos e, if_pos e]
    by_cases c : 32 ≤ dep
    · rw [if_pos c, if_neg (show ¬ dep + 1 ≤ 32 by omega)]
      exact ⟨rfl, fun h => absurd h (show ¬ (5 : Int) = 0 by decide)⟩
    · rw [if_neg c, if_pos (show dep + 1 ≤ 32 by omega)]
      obtain ⟨m, hm⟩ : ∃ m : Int, m = if d < dep + 1 then dep + 1 else d := ⟨_, rfl⟩
      have hm1 : dep + 1 ≤ m ∧ m = max d (dep + 1) := by rw [hm]; split <;> omega
      rw [← hm]
      obtain ⟨b1, b2⟩ := items_alike (val := val) (fields := fields) hl (ltakeR 4 s).1.size (ltakeR 4 s).1 m (dep + 1) hm1.1 (Int.le_refl _) (fun i d' hi hd' => H i d' hi hd')
      refine ⟨b1, fun h => ⟨rfl, ?_⟩⟩
      obtain ⟨c1, c2⟩ := b2 h
      show (itemsR one (ltakeR 4 s).1.size (ltakeR 4 s).1 (dep + 1) m).2 = max d (rItems val fields (dep + 1) (ltakeR 4 s).1.size (ltakeR 4 s).1 (dep + 1)).1
      omega
  · rw [if_neg e, if_neg e, ltake_fail e isW4]
    exact ⟨rfl, fun h => absurd h (show ¬ (2 : Int) = 0 by decide)⟩
theorem one_alike {val : ByteArray → Int → Rk} {s : ByteArray} {dep d : Int} (H : ∀ i, i.size ≤ s.size → Alike d (valT i dep d) (val i dep)) : Alike d (fieldR valT s dep d) (rOne val true s dep) := by
  unfold fieldR rOne
  by_cases e : (ltakeR 1 s).2.2 = 0
  · rw [if_pos e, if_neg (fun h => h.2 e), if_pos rfl]
    exact H _ (ltake_size 1 s).2
  · rw [if_neg e, if_pos ⟨rfl, e⟩, ltake_fail e isW1]
    exact ⟨rfl, fun h => absurd h (show ¬ (2 : Int) = 0 by decide)⟩
theorem one_alike' {val : ByteArray → Int → Rk} {s : ByteArray} {dep d : Int} (H : Alike d (valT s dep d) (val s dep)) : Alike d (valT s dep d) (rOne val false s dep) := by
  unfold rOne
  rw [if_neg (fun h => Bool.noConfusion h.1), if_neg (by decide)]
  exact H
theorem val_alike : ∀ (n k : Nat) (s : ByteArray) (dep d : Int), s.size < n → s.size < k → dep ≤ d → Alike d (valT s dep d) (rVal k s dep) := by
  intro n
  induction n with
  | zero => intro k s dep d h; omega
  | succ n ih =>
    intro k s dep d hn hk hd
    obtain ⟨k, rfl⟩ : ∃ j, k = j + 1 := ⟨k - 1, by omega⟩
    rw [valT_eq, rVal]
    by_cases e : s.size = 0
    · rw [if_pos e, if_pos e]
      exact ⟨rfl, fun h => absurd h (show ¬ (2 : Int) = 0 by decide)⟩
    have ht := tail_size e
    have hl4 := (ltake_size 4 (tailOf s)).1
    rw [if_neg e, if_neg e]
    cases hs : sizeU (kindOf s) with
    | some m =>
      simp only
      unfold skipR
      by_cases c : s.size < 1 + m
      · rw [if_pos c, if_neg (by omega)]
        exact ⟨rfl, fun h => absurd h (show ¬ (2 : Int) = 0 by decide)⟩
      · rw [if_neg c, if_pos (by omega)]
        refine ⟨rfl, fun _ => ⟨?_, by show d = max d dep; omega⟩⟩
        show (tailOf s).extract m (tailOf s).size = s.extract (1 + m) s.size
        unfold tailOf
        exact eq_of_list (by rw [extract_drop, toBA_list, extract_drop, toBA_list, extract_drop, toBA_list, List.drop_drop])
    | none =>
      simp only
      by_cases c1 : kindOf s = 83 ∨ kindOf s = 120
      · rw [if_pos c1, if_pos c1]
        by_cases el : (ltakeR 4 (tailOf s)).2.2 = 0
        · rw [if_pos el]
          exact ⟨el, fun _ => ⟨rfl, by show d = max d dep; omega⟩⟩
        · rw [if_neg el, ltake_fail el isW4]
          exact ⟨rfl, fun h => absurd h (show ¬ (2 : Int) = 0 by decide)⟩
      · rw [if_neg c1, if_neg c1]
        by_cases c2 : kindOf s = 65
        · rw [if_pos c2, if_pos c2]
          exact within_alike valT_less hd (fun i d' hi hd' => one_alike' (ih k i _ d' (by omega) (by omega) hd'))
        · rw [if_neg c2, if_neg c2]
          by_cases c3 : kindOf s = 70
          · rw [if_pos c3, if_pos c3]
            exact within_alike (field_less valT_less) hd (fun i d' hi hd' => one_alike (fun i2 hi2 => ih k i2 _ d' (by omega) (by omega) hd'))
          · rw [if_neg c3, if_neg c3]
            exact ⟨rfl, fun h => absurd h (show ¬ (3 : Int) = 0 by decide)⟩
end Go.Proofs.YthpfcplhlhnfeaaDoor.F
namespace Go.Proofs.YthpfcplhlhnfeaaDoor.F
open Go.RowKit Go.Proofs.YthpfcplhlhnfeaaDoorW.PrintWords Go.Proofs.YthpfcplhlhnfeaaDoorW.PrintLast Go.Proofs.YthpfcplhlhnfeaaDoorW.PrintMore
attribute [local go_sem] max2_int min2_int max_two min_two max_three min_three max_four min_four
set_option linter.unusedVariables false
set_option linter.unusedSimpArgs false
set_option maxRecDepth 4000
set_option linter.unnecessarySimpa false

/-! ### interchangeref03_table: function 58 -/
def interchangeref03_table.f (k : Nat) (a0 : ByteArray) : Option (ByteArray × Int × Int) := (interchangeref03_inside.f k a0).bind fun bt192 => (if bt192.2.2 = 0 then ((interchangeref03_row.f bt192.1 1 true).bind fun bt195 => (some (bt192.2.1, bt195.1, bt195.2))) else (some ((⟨#[]⟩ : ByteArray), 0, bt192.2.2)))
theorem interchangeref03_table.mono : ∀ a0 k, LeO (interchangeref03_table.f k a0) (interchangeref03_table.f (k + 1) a0) := by
  intro a0 k
  unfold interchangeref03_table.f
  repeat' first
      | (with_reducible exact interchangeref03_inside.mono _ _)
      | (with_reducible exact LeO.refl _)
      | (with_reducible exact LeO.none _)
      | (with_reducible refine LeO.ite ?_ ?_)
      | (with_reducible refine LeO.bind ?_ (fun _ => ?_))
      | exact interchangeref03_inside.mono _ _
      | exact LeO.none _
      | refine LeO.ite ?_ ?_
      | refine LeO.bind ?_ (fun _ => ?_)
set_option maxHeartbeats 8000000 in
set_option maxRecDepth 100000 in
theorem interchangeref03_table.calls (k : Nat) (a0 : ByteArray) (r1 : ByteArray) (r2 : Int) (r3 : Int) (w : World) (h : interchangeref03_table.f k a0 = some (r1, r2, r3)) :
    Calls Tryd.prog 58 #[.string a0] w fun e w' => e = .returned (.tuple #[.string r1, .int .i64 r2, .int .i64 r3]) ∧ Drawn0 w w' := by
  have H : ((interchangeref03_inside.f k a0).bind fun bt192 => (if bt192.2.2 = 0 then ((interchangeref03_row.f bt192.1 1 true).bind fun bt195 => (some (bt192.2.1, bt195.1, bt195.2))) else (some ((⟨#[]⟩ : ByteArray), 0, bt192.2.2)))) = some (r1, r2, r3) := h
  clear h
  replace H := Option.bind_eq_some_iff.mp H
  obtain ⟨⟨t192, t193, t194⟩, A20, H⟩ := H
  replace H : (if t194 = 0 then ((interchangeref03_row.f t192 1 true).bind fun bt195 => (some (t193, bt195.1, bt195.2))) else (some ((⟨#[]⟩ : ByteArray), 0, t194))) = some (r1, r2, r3) := H
  have A2 := Aside0.mk A20
  clear A20
  by_cases c3 : t194 = 0
  · rw [if_pos c3] at H
    have c3b0 : (t194 == 0) = true := beq_iff_eq.mpr c3
    have c3b1 : (t194 != 0) = false := bne_eq_false_iff_eq.mpr c3
    clear c3
    replace H := Option.bind_eq_some_iff.mp H
    obtain ⟨⟨t195, t196⟩, A40, H⟩ := H
    replace H : (some (t193, t195, t196)) = some (r1, r2, r3) := H
    have A4 := Aside0.mk A40
    clear A40
    simp only [Option.some.injEq, Prod.mk.injEq] at H
    obtain ⟨rfl, rfl, rfl⟩ := H
    go_enter Tryd.func58, Tryd.ntmps58
    go_wp2_with (first | ((with_reducible refine gate_callee (f := 62) rfl ?_); refine goesL_ (some 12) rfl rfl Tryd.func62 (by kernel_rfl) rfl #[.string a0] rfl (by (try simp only [List.map_toArray, List.map_cons, List.map_nil]); first | done | rfl | (simp only [List.length_drop, List.length_take]; rfl)) ?_; (with_reducible refine (interchangeref03_inside.calls k a0 t192 t193 t194 _ A2.out).mono ?_); rintro e w' ⟨rfl, ⟨nd, rfl⟩⟩; refine ⟨_, rfl, ?_⟩) | ((with_reducible refine gate_callee (f := 63) rfl ?_); refine goesL_ (some 21) rfl rfl Tryd.func63 (by kernel_rfl) rfl #[.string t192, .int .i64 1, .bool true] rfl (by (try simp only [List.map_toArray, List.map_cons, List.map_nil]); first | done | rfl | (simp only [List.length_drop, List.length_take]; rfl)) ?_; (with_reducible refine (interchangeref03_row.calls t192 1 true t195 t196 _ A4.out).mono ?_); rintro e w' ⟨rfl, ⟨nd, rfl⟩⟩; refine ⟨_, rfl, ?_⟩))
    go_ret3
    exact ⟨by first | rfl | (simp; done) | (simp [*]; done), by repeat (first | exact Drawn0.refl _ | apply Drawn0.step)⟩
  · rw [if_neg c3] at H
    have c3b0 : (t194 == 0) = false := beq_eq_false_iff_ne.mpr c3
    have c3b1 : (t194 != 0) = true := bne_iff_ne.mpr c3
    simp only [Option.some.injEq, Prod.mk.injEq] at H
    obtain ⟨rfl, rfl, rfl⟩ := H
    go_enter Tryd.func58, Tryd.ntmps58
    go_wp2_with (first | ((with_reducible refine gate_callee (f := 62) rfl ?_); refine goesL_ (some 12) rfl rfl Tryd.func62 (by kernel_rfl) rfl #[.string a0] rfl (by (try simp only [List.map_toArray, List.map_cons, List.map_nil]); first | done | rfl | (simp only [List.length_drop, List.length_take]; rfl)) ?_; (with_reducible refine (interchangeref03_inside.calls k a0 t192 t193 t194 _ A2.out).mono ?_); rintro e w' ⟨rfl, ⟨nd, rfl⟩⟩; refine ⟨_, rfl, ?_⟩))
    go_ret3
    exact ⟨by first | rfl | (simp; done) | (simp [*]; done), by repeat (first | exact Drawn0.refl _ | apply Drawn0.step)⟩


end Go.Proofs.YthpfcplhlhnfeaaDoor.F
namespace Go.Proofs.YthpfcplhlhnfeaaDoor.F
open Go.RowKit Go.Proofs.YthpfcplhlhnfeaaDoorW.PrintWords Go.Proofs.YthpfcplhlhnfeaaDoorW.PrintLast Go.Proofs.YthpfcplhlhnfeaaDoorW.PrintMore
attribute [local go_sem] max2_int min2_int max_two min_two max_three min_three max_four min_four
set_option linter.unusedVariables false
set_option linter.unusedSimpArgs false
set_option maxRecDepth 4000
set_option linter.unnecessarySimpa false

/-! ### interchangeref03_Take: function 50 -/
def interchangeref03_Take.f (k : Nat) (a0 : ByteArray) : Option (ByteArray × ByteArray × Int) := (interchangeref03_table.f k a0).bind fun bt239 => (if bt239.2.2 = 0 then (if 0 ≤ (wrap64 ((a0.size : Int) - (bt239.1.size : Int))) then (if (wrap64 ((a0.size : Int) - (bt239.1.size : Int))) ≤ (a0.size : Int) then (some (a0.extract 0 ((wrap64 ((a0.size : Int) - (bt239.1.size : Int))) : Int).toNat, bt239.1, 0)) else (none)) else (none)) else (some ((⟨#[]⟩ : ByteArray), (⟨#[]⟩ : ByteArray), bt239.2.2)))
theorem interchangeref03_Take.mono : ∀ a0 k, LeO (interchangeref03_Take.f k a0) (interchangeref03_Take.f (k + 1) a0) := by
  intro a0 k
  unfold interchangeref03_Take.f
  repeat' first
      | (with_reducible exact interchangeref03_table.mono _ _)
      | (with_reducible exact LeO.refl _)
      | (with_reducible exact LeO.none _)
      | (with_reducible refine LeO.ite ?_ ?_)
      | (with_reducible refine LeO.bind ?_ (fun _ => ?_))
      | exact interchangeref03_table.mono _ _
      | exact LeO.none _
      | refine LeO.ite ?_ ?_
      | refine LeO.bind ?_ (fun _ => ?_)
set_option maxHeartbeats 8000000 in
set_option maxRecDepth 100000 in
theorem interchangeref03_Take.calls (k : Nat) (a0 : ByteArray) (r1 : ByteArray) (r2 : ByteArray) (r3 : Int) (w : World) (h : interchangeref03_Take.f k a0 = some (r1, r2, r3)) :
    Calls Tryd.prog 50 #[.string a0] w fun e w' => e = .returned (.tuple #[.string r1, .string r2, .int .i64 r3]) ∧ Drawn0 w w' := by
  have H : ((interchangeref03_table.f k a0).bind fun bt239 => (if bt239.2.2 = 0 then (if 0 ≤ (wrap64 ((a0.size : Int) - (bt239.1.size : Int))) then (if (wrap64 ((a0.size : Int) - (bt239.1.size : Int))) ≤ (a0.size : Int) then (some (a0.extract 0 ((wrap64 ((a0.size : Int) - (bt239.1.size : Int))) : Int).toNat, bt239.1, 0)) else (none)) else (none)) else (some ((⟨#[]⟩ : ByteArray), (⟨#[]⟩ : ByteArray), bt239.2.2)))) = some (r1, r2, r3) := h
  clear h
  replace H := Option.bind_eq_some_iff.mp H
  obtain ⟨⟨t239, t240, t241⟩, A20, H⟩ := H
  replace H : (if t241 = 0 then (if 0 ≤ (wrap64 ((a0.size : Int) - (t239.size : Int))) then (if (wrap64 ((a0.size : Int) - (t239.size : Int))) ≤ (a0.size : Int) then (some (a0.extract 0 ((wrap64 ((a0.size : Int) - (t239.size : Int))) : Int).toNat, t239, 0)) else (none)) else (none)) else (some ((⟨#[]⟩ : ByteArray), (⟨#[]⟩ : ByteArray), t241))) = some (r1, r2, r3) := H
  have A2 := Aside0.mk A20
  clear A20
  by_cases c3 : t241 = 0
  · rw [if_pos c3] at H
    have c3b0 : (t241 == 0) = true := beq_iff_eq.mpr c3
    have c3b1 : (t241 != 0) = false := bne_eq_false_iff_eq.mpr c3
    clear c3
    obtain ⟨ji4, hji4⟩ : ∃ j_ : Int, (wrap64 ((a0.size : Int) - (t239.size : Int))) = j_ := ⟨_, rfl⟩
    replace H : (if 0 ≤ (ji4) then (if (ji4) ≤ (a0.size : Int) then (some (a0.extract 0 ((ji4) : Int).toNat, t239, 0)) else (none)) else (none)) = some (r1, r2, r3) := by first | (rw [hji4] at H; exact H) | (simp only [hji4] at H ⊢; exact H)
    (try rw [hji4] at A2)
    have hji4w : (IntKind.i64.wrap ((a0.size : Int) - (t239.size : Int))) = ji4 := (i64_w _).trans hji4
    by_cases c5 : 0 ≤ (ji4)
    · rw [if_pos c5] at H
      have c5b0 := eq_true c5
      have c5b1 : decide (0 ≤ (ji4)) = true := decide_eq_true c5
      clear c5
      by_cases c6 : (ji4) ≤ (a0.size : Int)
      · rw [if_pos c6] at H
        have c6b0 := eq_true c6
        have c6b1 : decide ((ji4) ≤ (a0.size : Int)) = true := decide_eq_true c6
        clear c6
        simp only [Option.some.injEq, Prod.mk.injEq] at H
        obtain ⟨rfl, rfl, rfl⟩ := H
        go_enter Tryd.func50, Tryd.ntmps50
        go_wp2_with (first | ((with_reducible refine gate_callee (f := 58) rfl ?_); refine goesL_ (some 10) rfl rfl Tryd.func58 (by kernel_rfl) rfl #[.string a0] rfl (by (try simp only [List.map_toArray, List.map_cons, List.map_nil]); first | done | rfl | (simp only [List.length_drop, List.length_take]; rfl)) ?_; (with_reducible refine (interchangeref03_table.calls k a0 t239 t240 t241 _ A2.out).mono ?_); rintro e w' ⟨rfl, ⟨nd, rfl⟩⟩; refine ⟨_, rfl, ?_⟩))
        go_ret3
        exact ⟨by first | rfl | (simp; done) | (simp only [← hji4] <;> (first | rfl | simp)) | (simp [*]; done), by repeat (first | exact Drawn0.refl _ | apply Drawn0.step)⟩
      · rw [if_neg c6] at H
        exact absurd H (by simp)
    · rw [if_neg c5] at H
      exact absurd H (by simp)
  · rw [if_neg c3] at H
    have c3b0 : (t241 == 0) = false := beq_eq_false_iff_ne.mpr c3
    have c3b1 : (t241 != 0) = true := bne_iff_ne.mpr c3
    simp only [Option.some.injEq, Prod.mk.injEq] at H
    obtain ⟨rfl, rfl, rfl⟩ := H
    go_enter Tryd.func50, Tryd.ntmps50
    go_wp2_with (first | ((with_reducible refine gate_callee (f := 58) rfl ?_); refine goesL_ (some 10) rfl rfl Tryd.func58 (by kernel_rfl) rfl #[.string a0] rfl (by (try simp only [List.map_toArray, List.map_cons, List.map_nil]); first | done | rfl | (simp only [List.length_drop, List.length_take]; rfl)) ?_; (with_reducible refine (interchangeref03_table.calls k a0 t239 t240 t241 _ A2.out).mono ?_); rintro e w' ⟨rfl, ⟨nd, rfl⟩⟩; refine ⟨_, rfl, ?_⟩))
    go_ret3
    exact ⟨by first | rfl | (simp; done) | (simp [*]; done), by repeat (first | exact Drawn0.refl _ | apply Drawn0.step)⟩


end Go.Proofs.YthpfcplhlhnfeaaDoor.F
namespace Go.Proofs.YthpfcplhlhnfeaaDoor.F
open Go.RowKit Go.Proofs.YthpfcplhlhnfeaaDoorW.PrintWords Go.Proofs.YthpfcplhlhnfeaaDoorW.PrintLast Go.Proofs.YthpfcplhlhnfeaaDoorW.PrintMore
attribute [local go_sem] max2_int min2_int max_two min_two max_three min_three max_four min_four
set_option linter.unusedVariables false
set_option linter.unusedSimpArgs false
set_option maxRecDepth 4000
set_option linter.unnecessarySimpa false

/-! ### interchangeref03_Deep: function 51 -/
def interchangeref03_Deep.f (k : Nat) (a0 : ByteArray) : Option (Int × Int) := (interchangeref03_table.f k a0).bind fun bt197 => (if bt197.2.2 = 0 then (if (bt197.1.size : Int) > 0 then (some (0, 3)) else (some (bt197.2.1, 0))) else (some (0, bt197.2.2)))
theorem interchangeref03_Deep.mono : ∀ a0 k, LeO (interchangeref03_Deep.f k a0) (interchangeref03_Deep.f (k + 1) a0) := by
  intro a0 k
  unfold interchangeref03_Deep.f
  repeat' first
      | (with_reducible exact interchangeref03_table.mono _ _)
      | (with_reducible exact LeO.refl _)
      | (with_reducible exact LeO.none _)
      | (with_reducible refine LeO.ite ?_ ?_)
      | (with_reducible refine LeO.bind ?_ (fun _ => ?_))
      | exact interchangeref03_table.mono _ _
      | exact LeO.none _
      | refine LeO.ite ?_ ?_
      | refine LeO.bind ?_ (fun _ => ?_)
set_option maxHeartbeats 8000000 in
set_option maxRecDepth 100000 in
theorem interchangeref03_Deep.calls (k : Nat) (a0 : ByteArray) (r1 : Int) (r2 : Int) (w : World) (h : interchangeref03_Deep.f k a0 = some (r1, r2)) :
    Calls Tryd.prog 51 #[.string a0] w fun e w' => e = .returned (.tuple #[.int .i64 r1, .int .i64 r2]) ∧ Drawn0 w w' := by
  have H : ((interchangeref03_table.f k a0).bind fun bt197 => (if bt197.2.2 = 0 then (if (bt197.1.size : Int) > 0 then (some (0, 3)) else (some (bt197.2.1, 0))) else (some (0, bt197.2.2)))) = some (r1, r2) := h
  clear h
  replace H := Option.bind_eq_some_iff.mp H
  obtain ⟨⟨t197, t198, t199⟩, A20, H⟩ := H
  replace H : (if t199 = 0 then (if (t197.size : Int) > 0 then (some (0, 3)) else (some (t198, 0))) else (some (0, t199))) = some (r1, r2) := H
  have A2 := Aside0.mk A20
  clear A20
  by_cases c3 : t199 = 0
  · rw [if_pos c3] at H
    have c3b0 : (t199 == 0) = true := beq_iff_eq.mpr c3
    have c3b1 : (t199 != 0) = false := bne_eq_false_iff_eq.mpr c3
    clear c3
    by_cases c4 : (t197.size : Int) > 0
    · rw [if_pos c4] at H
      have c4b0 : decide (0 < (t197.size : Int)) = true := decide_eq_true c4
      have c4b1 : decide (0 < t197.size) = true := decide_eq_true (by omega)
      clear c4
      simp only [Option.some.injEq, Prod.mk.injEq] at H
      obtain ⟨rfl, rfl⟩ := H
      go_enter Tryd.func51, Tryd.ntmps51
      go_wp2_with (first | ((with_reducible refine gate_callee (f := 58) rfl ?_); refine goesL_ (some 9) rfl rfl Tryd.func58 (by kernel_rfl) rfl #[.string a0] rfl (by (try simp only [List.map_toArray, List.map_cons, List.map_nil]); first | done | rfl | (simp only [List.length_drop, List.length_take]; rfl)) ?_; (with_reducible refine (interchangeref03_table.calls k a0 t197 t198 t199 _ A2.out).mono ?_); rintro e w' ⟨rfl, ⟨nd, rfl⟩⟩; refine ⟨_, rfl, ?_⟩))
      go_ret2
      exact ⟨by first | rfl | (simp; done) | (simp [*]; done), by repeat (first | exact Drawn0.refl _ | apply Drawn0.step)⟩
    · rw [if_neg c4] at H
      have c4b0 : decide (0 < (t197.size : Int)) = false := decide_eq_false c4
      have c4b1 : decide (0 < t197.size) = false := decide_eq_false (by omega)
      clear c4
      simp only [Option.some.injEq, Prod.mk.injEq] at H
      obtain ⟨rfl, rfl⟩ := H
      go_enter Tryd.func51, Tryd.ntmps51
      go_wp2_with (first | ((with_reducible refine gate_callee (f := 58) rfl ?_); refine goesL_ (some 9) rfl rfl Tryd.func58 (by kernel_rfl) rfl #[.string a0] rfl (by (try simp only [List.map_toArray, List.map_cons, List.map_nil]); first | done | rfl | (simp only [List.length_drop, List.length_take]; rfl)) ?_; (with_reducible refine (interchangeref03_table.calls k a0 t197 t198 t199 _ A2.out).mono ?_); rintro e w' ⟨rfl, ⟨nd, rfl⟩⟩; refine ⟨_, rfl, ?_⟩))
      go_ret2
      exact ⟨by first | rfl | (simp; done) | (simp [*]; done), by repeat (first | exact Drawn0.refl _ | apply Drawn0.step)⟩
  · rw [if_neg c3] at H
    have c3b0 : (t199 == 0) = false := beq_eq_false_iff_ne.mpr c3
    have c3b1 : (t199 != 0) = true := bne_iff_ne.mpr c3
    simp only [Option.some.injEq, Prod.mk.injEq] at H
    obtain ⟨rfl, rfl⟩ := H
    go_enter Tryd.func51, Tryd.ntmps51
    go_wp2_with (first | ((with_reducible refine gate_callee (f := 58) rfl ?_); refine goesL_ (some 9) rfl rfl Tryd.func58 (by kernel_rfl) rfl #[.string a0] rfl (by (try simp only [List.map_toArray, List.map_cons, List.map_nil]); first | done | rfl | (simp only [List.length_drop, List.length_take]; rfl)) ?_; (with_reducible refine (interchangeref03_table.calls k a0 t197 t198 t199 _ A2.out).mono ?_); rintro e w' ⟨rfl, ⟨nd, rfl⟩⟩; refine ⟨_, rfl, ?_⟩))
    go_ret2
    exact ⟨by first | rfl | (simp; done) | (simp [*]; done), by repeat (first | exact Drawn0.refl _ | apply Drawn0.step)⟩


end Go.Proofs.YthpfcplhlhnfeaaDoor.F
namespace Go.Proofs.YthpfcplhlhnfeaaDoor.F
open Go.RowKit Go.Proofs.YthpfcplhlhnfeaaDoorW.PrintWords Go.Proofs.YthpfcplhlhnfeaaDoorW.PrintLast Go.Proofs.YthpfcplhlhnfeaaDoorW.PrintMore
set_option linter.unusedVariables false
set_option linter.unusedSimpArgs false
set_option maxRecDepth 4000
def wholeR (s : ByteArray) : Int := if (tabR s).2.1 = 0 then (if (tabR s).1.size = 0 then 0 else 3) else (tabR s).2.1
def deepR (s : ByteArray) : Int × Int := if wholeR s = 0 then ((tabR s).2.2, 0) else (0, wholeR s)
theorem tab_pre {s : ByteArray} (h : (tabR s).2.1 = 0) : ∃ a, s = a ++ (tabR s).1 ∧ 4 ≤ a.size ∧ (∀ more, tabR (a ++ more) = (more, 0, (tabR s).2.2)) ∧ ∀ n, n < a.size → (tabR (a.extract 0 n)).2.1 = 2 := by
  simp only [tabR_eq] at h ⊢
  unfold withinR at h ⊢
  by_cases e : (ltakeR 4 s).2.2 = 0
  · rw [if_pos e] at h ⊢
    obtain ⟨h1, h2⟩ := take_lay e
    generalize (ltakeR 4 s).1 = x at h h1 h2 ⊢
    generalize (ltakeR 4 s).2.1 = r at h h2 ⊢
    have hx : x.size ≤ 4294967295 := by
      by_cases hx : x.size ≤ 4294967295
      · exact hx
      · rw [long_bad hx] at h1; exact absurd h1 (show ¬ (4 : Int) = 0 by decide)
    have hsz := long_size hx
    rw [if_pos (show (1 : Int) ≤ 32 by decide)] at h ⊢
    refine ⟨(layR 4 x).1, h2.symm, by omega, fun more => ?_, fun n hn => ?_⟩
    · rw [lay_take more h1]
      simp only at h ⊢
      rw [if_pos trivial, if_pos (show (1 : Int) ≤ 32 by decide), h]
    · have hj := extract_join (layR 4 x).1 n (by omega)
      have hq := extract_size' (layR 4 x).1 n
      generalize (layR 4 x).1.extract 0 n = p at hj ⊢
      generalize (layR 4 x).1.extract n (layR 4 x).1.size = q at hj hq
      by_cases ep : (ltakeR 4 p).2.2 = 0
      · exfalso
        obtain ⟨p1, p2⟩ := take_lay ep
        have l1 := lay_take ((ltakeR 4 p).2.1 ++ q) p1
        rw [← app_assoc, p2, hj] at l1
        have l2 := lay_take ⟨#[]⟩ h1
        rw [app_empty, l1] at l2
        have := congrArg (fun t : ByteArray × ByteArray × Int => t.2.1.size) l2
        simp only [size_append] at this
        have h0 : (⟨#[]⟩ : ByteArray).size = 0 := rfl
        omega
      · rw [if_neg ep, ltake_fail ep isW4]
  · rw [if_neg e] at h
    exact absurd h e
theorem taken_pre {s : ByteArray} {t : Tk} {a : ByteArray} (e : t.2.1 = 0) (h : s = a ++ t.1) : takenR s t = (a, t.1, 0) := by
  unfold takenR
  rw [if_pos e]
  have hs : s.size - t.1.size = a.size := by rw [h, size_append]; omega
  rw [hs, h, extract_app_left]
/-- a table, by the reference -/
def rTab (s : ByteArray) : Rk := if (ltakeR 4 s).2.2 = 0 then ((ltakeR 4 s).2.1, (rRow (rVal ((ltakeR 4 s).1.size + 1)) (ltakeR 4 s).1 1 true).1, (rRow (rVal ((ltakeR 4 s).1.size + 1)) (ltakeR 4 s).1 1 true).2) else (⟨#[]⟩, 0, 2)
theorem rtab_k {k : Nat} (hk : 12 ≤ k) (s : ByteArray) (hz : s.size ≤ 4611686018427387904) : interchangeref03_table.f k s = some (rTab s) := by
  unfold interchangeref03_table.f rTab
  rw [rinside_k hk s hz, Option.bind_some]
  by_cases e : (ltakeR 4 s).2.2 = 0
  · have := (ltake_size 4 s).1
    rw [if_pos e, if_pos e]
    have hr : interchangeref03_row.f (ltakeR 4 s).1 1 true = some (rRow (rVal ((ltakeR 4 s).1.size + 1)) (ltakeR 4 s).1 1 true) := by
      unfold interchangeref03_row.f
      rw [if_pos ⟨by omega, by decide, by decide⟩]
    rw [hr, Option.bind_some]
  · rw [if_neg e, if_neg e, ltake_fail e isW4]
theorem tab_alike (s : ByteArray) : Alike 0 (tabR s) (rTab s) := by
  rw [tabR_eq]
  have h := within_alike (one := fieldR valT) (val := rVal ((ltakeR 4 s).1.size + 1)) (fields := true) (field_less valT_less) (s := s) (dep := 0) (d := 0) (Int.le_refl _)
    (fun i d' hi hd' => one_alike (fun i2 hi2 => val_alike _ _ i2 _ d' (Nat.lt_succ_self _) (by omega) hd'))
  unfold rTab
  rw [if_neg (show ¬ (32 : Int) ≤ 0 by decide), Int.zero_add] at h
  exact h
theorem rcut {s : ByteArray} {t : Tk} {r : Rk} {d : Int} (ha : Alike d t r) (hl : t.2.1 = 0 → t.1.size ≤ s.size) (hz : s.size ≤ 4611686018427387904) :
    (if r.2.2 = 0 then (if 0 ≤ (wrap64 ((s.size : Int) - (r.1.size : Int))) then (if (wrap64 ((s.size : Int) - (r.1.size : Int))) ≤ (s.size : Int) then (some (s.extract 0 ((wrap64 ((s.size : Int) - (r.1.size : Int))) : Int).toNat, r.1, 0)) else (none)) else (none)) else (some ((⟨#[]⟩ : ByteArray), (⟨#[]⟩ : ByteArray), r.2.2))) = some (takenR s t) := by
  obtain ⟨a1, a2⟩ := ha
  unfold takenR
  rw [← a1]
  by_cases e : t.2.1 = 0
  · have h1 := (a2 e).1
    have h2 := hl e
    rw [if_pos e, if_pos e, ← h1, wrap64_of (by omega) (by omega), if_pos (by omega), if_pos (by omega)]
    have : ((s.size : Int) - (t.1.size : Int)).toNat = s.size - t.1.size := by omega
    rw [this]
  · rw [if_neg e, if_neg e]
theorem rTake_k {k : Nat} (hk : 12 ≤ k) (s : ByteArray) (hz : s.size ≤ 4611686018427387904) : interchangeref03_Take.f k s = some (takenR s (tabR s)) := by
  unfold interchangeref03_Take.f
  rw [rtab_k hk s hz, Option.bind_some]
  exact rcut (tab_alike s) (fun e => Nat.le_of_lt (tabR_less s e)) hz
/-- where a table is taken, it is one deep at least -/
theorem tab_deep {s : ByteArray} (h : (tabR s).2.1 = 0) : (tabR s).2.2 = (rTab s).2.1 := by
  obtain ⟨a1, a2⟩ := tab_alike s
  have h1 := (a2 h).2
  have h2 : 1 ≤ (rTab s).2.1 := by
    rw [a1] at h
    unfold rTab at h ⊢
    by_cases e : (ltakeR 4 s).2.2 = 0
    · rw [if_pos e] at h ⊢
      have hi := items_alike (one := fieldR valT) (val := rVal ((ltakeR 4 s).1.size + 1)) (fields := true) (field_less valT_less) (ltakeR 4 s).1.size (ltakeR 4 s).1 1 1 (Int.le_refl _) (Int.le_refl _)
        (fun i d' hi hd' => one_alike (fun i2 hi2 => val_alike _ _ i2 _ d' (Nat.lt_succ_self _) (by omega) hd'))
      exact (hi.2 (hi.1.trans h)).1
    · rw [if_neg e] at h
      exact absurd h (show ¬ (2 : Int) = 0 by decide)
  omega
theorem rDeep_k {k : Nat} (hk : 12 ≤ k) (s : ByteArray) (hz : s.size ≤ 4611686018427387904) : interchangeref03_Deep.f k s = some (deepR s) := by
  unfold interchangeref03_Deep.f
  rw [rtab_k hk s hz, Option.bind_some]
  obtain ⟨a1, a2⟩ := tab_alike s
  unfold deepR wholeR
  rw [← a1]
  by_cases e : (tabR s).2.1 = 0
  · have hd := tab_deep e
    rw [if_pos e, if_pos e, ← (a2 e).1, ← hd]
    by_cases e0 : (tabR s).1.size = 0
    · rw [if_neg (by omega), if_pos e0, if_pos rfl]
    · rw [if_pos (by omega), if_neg e0]
      rfl
  · rw [if_neg e, if_neg e, if_neg e]
theorem whole_taken {t : ByteArray} (h : wholeR t = 0) (more : ByteArray) : takenR (t ++ more) (tabR (t ++ more)) = (t, more, 0) := by
  unfold wholeR at h
  by_cases e : (tabR t).2.1 = 0
  · rw [if_pos e] at h
    by_cases e0 : (tabR t).1.size = 0
    · obtain ⟨a, ha, _, hm, _⟩ := tab_pre e
      have hr := ba_empty e0
      rw [hr, app_empty] at ha
      subst ha
      have h2 := hm more
      generalize tabR (t ++ more) = T at h2 ⊢
      subst h2
      exact taken_pre rfl rfl
    · rw [if_neg e0] at h
      exact absurd h (show ¬ (3 : Int) = 0 by decide)
  · rw [if_neg e] at h
    exact absurd h e
end Go.Proofs.YthpfcplhlhnfeaaDoor.F
namespace Go.Proofs.YthpfcplhlhnfeaaDoor.F
open Go.RowKit Go.Proofs.YthpfcplhlhnfeaaDoorW.PrintWords Go.Proofs.YthpfcplhlhnfeaaDoorW.PrintLast Go.Proofs.YthpfcplhlhnfeaaDoorW.PrintMore
set_option linter.unusedVariables false
set_option linter.unusedSimpArgs false
set_option maxRecDepth 4000
open Go.Maps
/-- by its letter -/
def rightR (c n : Int) (s : ByteArray) : Int :=
  if (c = 111 ∧ ¬ n < 256) ∨ (c = 83 ∧ 255 < s.size) then 4
  else if ((c = 111 ∨ c = 113) ∧ ¬ s.size = 0) ∨ (¬ (c = 111 ∨ c = 113) ∧ ¬ n = 0) then 1
  else if c = 84 ∧ ¬ wholeR s = 0 then 3 else 0
def rightD : DataW Unit := ((DataW.map []).put (.int .u8 111) (.lit (.int .i64 8))).put (.int .u8 113) (.lit (.int .i64 64))
def rightN (c : Int) : Int := if c = 111 then 8 else if c = 113 then 64 else 0
theorem right_at (c q : Int) (hc : c = 83 ∨ c = 84 ∨ c = 111 ∨ c = 113) (h : rightD.atKey (.int .u8 c) (.lit (.int .i64 0)) = .lit (.int .i64 q)) : q = rightN c := by
  have h2 : ∀ c : Int, (c = 83 ∨ c = 84 ∨ c = 111 ∨ c = 113) → rightD.atKey (.int .u8 c) (.lit (.int .i64 0)) = .lit (.int .i64 (rightN c)) := by
    rintro c (rfl | rfl | rfl | rfl) <;> kernel_rfl
  rw [h2 c hc] at h
  injection h with h
  injection h with _ h
  exact h.symm
theorem right_keyed : Keyed Tryd.prog 5 := int_keyed Tryd.underlying5
theorem right_zero (w : World) : (zeroValue 3).run Tryd.prog w = .ok (.int .i64 0) w := rfl
set_option maxHeartbeats 4000000 in
set_option maxRecDepth 100000 in
theorem right_o (n : Int) (hn : 0 ≤ n) (hn2 : n < 18446744073709551616) (s : ByteArray) (hz : s.size ≤ 4611686018427387904) (w : World) (hg : Laid w) :
    Calls Tryd.prog 41 #[.int .u8 111, .agg #[.int .u64 n, .string s]] w fun e w' => e = .returned (.int .i64 (rightR 111 n s)) ∧ Below w.heap.size w w' := by
  have hu42 := Tryd.underlying42
  have hmm := @run_makeMap Tryd.prog
  have HG := Aside0.mk hg
  have HB := Aside0.mk (((Below.refl w.heap.size w).alloc (Nat.le_refl _) (.cells #[.int .u64 n, .string s] 42 (0, 0))).alloc (by simp) (.map #[] 0))
  have hown0 := World.ownsMap_made (H := Unit) (w.alloc (.cells #[.int .u64 n, .string s] 42 (0, 0))) Tryd.prog 5 (plainElem Tryd.prog 3)
  rw [show (w.alloc (.cells #[.int .u64 n, .string s] 42 (0, 0))).heap.size = w.heap.size + 1 by simp] at hown0
  have hown := Aside0.mk hown0
  clear hown0
  have BK := Aside0.mk (show ((w.alloc (.cells #[.int .u64 n, .string s] 42 (0, 0))).alloc (.map #[] 0)).heap[w.heap.size]? = some (.cells #[.int .u64 n, .string s] 42 (0, 0)) from blk_alloc (blk_new w _) _)
  by_cases h1 : n < 256
  · have f1 : (n / 256 != 0) = false := bne_eq_false_iff_eq.2 (by omega)
    by_cases h2 : s.size = 0
    · have hr : rightR 111 n s = 0 := by unfold rightR; rw [if_neg (by omega), if_neg (by omega), if_neg (by omega)]
      have hs := ba_empty h2
      clear h1 h2
      subst hs
      go_enter Tryd.func41, Tryd.ntmps41
      go_wp2_with (first | (refine wpList_insert_own _ rfl _ _ _ 92 rfl 5 3 right_keyed Tryd.underlying92 _ (w.heap.size + 1) _ _ rfl hown.out (by decide) _ _ _ rfl rfl (keyOf_int_mk Tryd.underlying5 (by decide)) _ [] (plainElem_int Tryd.underlying3 (by decide)) ?_; intro w1 hown1 hg1; replace HB := Aside0.mk (HB.out.grown hg1 HB.out.size (fun j hj => by cases hj; omega)); replace BK := Aside0.mk ((hg1.block w.heap.size (Array.getElem?_eq_some_iff.1 BK.out).1 (by simp)).trans BK.out); replace hown := Aside0.mk hown1; clear hown1 hg1) | (at_lookup; refine wpList_lookup_own_int _ rfl _ _ 92 rfl 5 3 .i64 right_keyed Tryd.underlying92 Tryd.underlying3 (right_zero _) (w.heap.size + 1) _ _ rfl hown.out _ _ rfl (keyOf_int_mk Tryd.underlying5 (by decide)) ?_; intro q hat hwq; obtain rfl : q = 8 := right_at _ q (by decide) hat; clear hat hwq; have c0 := (blk_cell BK.out 0).trans rfl; have c1 := (blk_cell BK.out 1).trans rfl))
      go_ret
      exact ⟨by rw [hr]; rfl, HB.out⟩
    · have f2 : (!s.toList.isEmpty) = true := not_empty h2
      have hr : rightR 111 n s = 1 := by unfold rightR; simp [h1, h2]
      clear h1 h2
      go_enter Tryd.func41, Tryd.ntmps41
      go_wp2_with (first | (refine wpList_insert_own _ rfl _ _ _ 92 rfl 5 3 right_keyed Tryd.underlying92 _ (w.heap.size + 1) _ _ rfl hown.out (by decide) _ _ _ rfl rfl (keyOf_int_mk Tryd.underlying5 (by decide)) _ [] (plainElem_int Tryd.underlying3 (by decide)) ?_; intro w1 hown1 hg1; replace HB := Aside0.mk (HB.out.grown hg1 HB.out.size (fun j hj => by cases hj; omega)); replace BK := Aside0.mk ((hg1.block w.heap.size (Array.getElem?_eq_some_iff.1 BK.out).1 (by simp)).trans BK.out); replace hown := Aside0.mk hown1; clear hown1 hg1) | (at_lookup; refine wpList_lookup_own_int _ rfl _ _ 92 rfl 5 3 .i64 right_keyed Tryd.underlying92 Tryd.underlying3 (right_zero _) (w.heap.size + 1) _ _ rfl hown.out _ _ rfl (keyOf_int_mk Tryd.underlying5 (by decide)) ?_; intro q hat hwq; obtain rfl : q = 8 := right_at _ q (by decide) hat; clear hat hwq; have c0 := (blk_cell BK.out 0).trans rfl; have c1 := (blk_cell BK.out 1).trans rfl))
      go_ret
      exact ⟨by rw [hr]; rfl, HB.out⟩
  · have f1 : (n / 256 != 0) = true := bne_iff_ne.2 (by omega)
    have hr : rightR 111 n s = 4 := by unfold rightR; simp [h1]
    clear h1
    go_enter Tryd.func41, Tryd.ntmps41
    go_wp2_with (first | (refine wpList_insert_own _ rfl _ _ _ 92 rfl 5 3 right_keyed Tryd.underlying92 _ (w.heap.size + 1) _ _ rfl hown.out (by decide) _ _ _ rfl rfl (keyOf_int_mk Tryd.underlying5 (by decide)) _ [] (plainElem_int Tryd.underlying3 (by decide)) ?_; intro w1 hown1 hg1; replace HB := Aside0.mk (HB.out.grown hg1 HB.out.size (fun j hj => by cases hj; omega)); replace BK := Aside0.mk ((hg1.block w.heap.size (Array.getElem?_eq_some_iff.1 BK.out).1 (by simp)).trans BK.out); replace hown := Aside0.mk hown1; clear hown1 hg1) | (at_lookup; refine wpList_lookup_own_int _ rfl _ _ 92 rfl 5 3 .i64 right_keyed Tryd.underlying92 Tryd.underlying3 (right_zero _) (w.heap.size + 1) _ _ rfl hown.out _ _ rfl (keyOf_int_mk Tryd.underlying5 (by decide)) ?_; intro q hat hwq; obtain rfl : q = 8 := right_at _ q (by decide) hat; clear hat hwq; have c0 := (blk_cell BK.out 0).trans rfl; have c1 := (blk_cell BK.out 1).trans rfl))
    go_ret
    exact ⟨by rw [hr]; rfl, HB.out⟩
set_option maxHeartbeats 4000000 in
set_option maxRecDepth 100000 in
theorem right_q (n : Int) (hn : 0 ≤ n) (hn2 : n < 18446744073709551616) (s : ByteArray) (hz : s.size ≤ 4611686018427387904) (w : World) (hg : Laid w) :
    Calls Tryd.prog 41 #[.int .u8 113, .agg #[.int .u64 n, .string s]] w fun e w' => e = .returned (.int .i64 (rightR 113 n s)) ∧ Below w.heap.size w w' := by
  have hu42 := Tryd.underlying42
  have hmm := @run_makeMap Tryd.prog
  have HG := Aside0.mk hg
  have HB := Aside0.mk (((Below.refl w.heap.size w).alloc (Nat.le_refl _) (.cells #[.int .u64 n, .string s] 42 (0, 0))).alloc (by simp) (.map #[] 0))
  have hown0 := World.ownsMap_made (H := Unit) (w.alloc (.cells #[.int .u64 n, .string s] 42 (0, 0))) Tryd.prog 5 (plainElem Tryd.prog 3)
  rw [show (w.alloc (.cells #[.int .u64 n, .string s] 42 (0, 0))).heap.size = w.heap.size + 1 by simp] at hown0
  have hown := Aside0.mk hown0
  clear hown0
  have BK := Aside0.mk (show ((w.alloc (.cells #[.int .u64 n, .string s] 42 (0, 0))).alloc (.map #[] 0)).heap[w.heap.size]? = some (.cells #[.int .u64 n, .string s] 42 (0, 0)) from blk_alloc (blk_new w _) _)
  by_cases h2 : s.size = 0
  · have hr : rightR 113 n s = 0 := by unfold rightR; rw [if_neg (by omega), if_neg (by omega), if_neg (by omega)]
    have hs := ba_empty h2
    clear h2
    subst hs
    go_enter Tryd.func41, Tryd.ntmps41
    go_wp2_with (first | (refine wpList_insert_own _ rfl _ _ _ 92 rfl 5 3 right_keyed Tryd.underlying92 _ (w.heap.size + 1) _ _ rfl hown.out (by decide) _ _ _ rfl rfl (keyOf_int_mk Tryd.underlying5 (by decide)) _ [] (plainElem_int Tryd.underlying3 (by decide)) ?_; intro w1 hown1 hg1; replace HB := Aside0.mk (HB.out.grown hg1 HB.out.size (fun j hj => by cases hj; omega)); replace BK := Aside0.mk ((hg1.block w.heap.size (Array.getElem?_eq_some_iff.1 BK.out).1 (by simp)).trans BK.out); replace hown := Aside0.mk hown1; clear hown1 hg1) | (at_lookup; refine wpList_lookup_own_int _ rfl _ _ 92 rfl 5 3 .i64 right_keyed Tryd.underlying92 Tryd.underlying3 (right_zero _) (w.heap.size + 1) _ _ rfl hown.out _ _ rfl (keyOf_int_mk Tryd.underlying5 (by decide)) ?_; intro q hat hwq; obtain rfl : q = 64 := right_at _ q (by decide) hat; clear hat hwq; have c0 := (blk_cell BK.out 0).trans rfl; have c1 := (blk_cell BK.out 1).trans rfl))
    go_ret
    exact ⟨by rw [hr]; rfl, HB.out⟩
  · have f2 : (!s.toList.isEmpty) = true := not_empty h2
    have hr : rightR 113 n s = 1 := by unfold rightR; simp [h2]
    clear h2
    go_enter Tryd.func41, Tryd.ntmps41
    go_wp2_with (first | (refine wpList_insert_own _ rfl _ _ _ 92 rfl 5 3 right_keyed Tryd.underlying92 _ (w.heap.size + 1) _ _ rfl hown.out (by decide) _ _ _ rfl rfl (keyOf_int_mk Tryd.underlying5 (by decide)) _ [] (plainElem_int Tryd.underlying3 (by decide)) ?_; intro w1 hown1 hg1; replace HB := Aside0.mk (HB.out.grown hg1 HB.out.size (fun j hj => by cases hj; omega)); replace BK := Aside0.mk ((hg1.block w.heap.size (Array.getElem?_eq_some_iff.1 BK.out).1 (by simp)).trans BK.out); replace hown := Aside0.mk hown1; clear hown1 hg1) | (at_lookup; refine wpList_lookup_own_int _ rfl _ _ 92 rfl 5 3 .i64 right_keyed Tryd.underlying92 Tryd.underlying3 (right_zero _) (w.heap.size + 1) _ _ rfl hown.out _ _ rfl (keyOf_int_mk Tryd.underlying5 (by decide)) ?_; intro q hat hwq; obtain rfl : q = 64 := right_at _ q (by decide) hat; clear hat hwq; have c0 := (blk_cell BK.out 0).trans rfl; have c1 := (blk_cell BK.out 1).trans rfl))
    go_ret
    exact ⟨by rw [hr]; rfl, HB.out⟩
set_option maxHeartbeats 4000000 in
set_option maxRecDepth 100000 in
theorem right_s (n : Int) (hn : 0 ≤ n) (hn2 : n < 18446744073709551616) (s : ByteArray) (hz : s.size ≤ 4611686018427387904) (w : World) (hg : Laid w) :
    Calls Tryd.prog 41 #[.int .u8 83, .agg #[.int .u64 n, .string s]] w fun e w' => e = .returned (.int .i64 (rightR 83 n s)) ∧ Below w.heap.size w w' := by
  have hu42 := Tryd.underlying42
  have hmm := @run_makeMap Tryd.prog
  have HG := Aside0.mk hg
  have HB := Aside0.mk (((Below.refl w.heap.size w).alloc (Nat.le_refl _) (.cells #[.int .u64 n, .string s] 42 (0, 0))).alloc (by simp) (.map #[] 0))
  have hown0 := World.ownsMap_made (H := Unit) (w.alloc (.cells #[.int .u64 n, .string s] 42 (0, 0))) Tryd.prog 5 (plainElem Tryd.prog 3)
  rw [show (w.alloc (.cells #[.int .u64 n, .string s] 42 (0, 0))).heap.size = w.heap.size + 1 by simp] at hown0
  have hown := Aside0.mk hown0
  clear hown0
  have BK := Aside0.mk (show ((w.alloc (.cells #[.int .u64 n, .string s] 42 (0, 0))).alloc (.map #[] 0)).heap[w.heap.size]? = some (.cells #[.int .u64 n, .string s] 42 (0, 0)) from blk_alloc (blk_new w _) _)
  by_cases h1 : 255 < s.size
  · have f1 : decide (255 < (s.size : Int)) = true := decide_eq_true (by omega)
    have hr : rightR 83 n s = 4 := by unfold rightR; simp [h1]
    clear h1
    go_enter Tryd.func41, Tryd.ntmps41
    go_wp2_with (first | (refine wpList_insert_own _ rfl _ _ _ 92 rfl 5 3 right_keyed Tryd.underlying92 _ (w.heap.size + 1) _ _ rfl hown.out (by decide) _ _ _ rfl rfl (keyOf_int_mk Tryd.underlying5 (by decide)) _ [] (plainElem_int Tryd.underlying3 (by decide)) ?_; intro w1 hown1 hg1; replace HB := Aside0.mk (HB.out.grown hg1 HB.out.size (fun j hj => by cases hj; omega)); replace BK := Aside0.mk ((hg1.block w.heap.size (Array.getElem?_eq_some_iff.1 BK.out).1 (by simp)).trans BK.out); replace hown := Aside0.mk hown1; clear hown1 hg1) | (at_lookup; refine wpList_lookup_own_int _ rfl _ _ 92 rfl 5 3 .i64 right_keyed Tryd.underlying92 Tryd.underlying3 (right_zero _) (w.heap.size + 1) _ _ rfl hown.out _ _ rfl (keyOf_int_mk Tryd.underlying5 (by decide)) ?_; intro q hat hwq; obtain rfl : q = 0 := right_at _ q (by decide) hat; clear hat hwq; have c0 := (blk_cell BK.out 0).trans rfl; have c1 := (blk_cell BK.out 1).trans rfl))
    go_ret
    exact ⟨by rw [hr]; rfl, HB.out⟩
  · have f1 : decide (255 < (s.size : Int)) = false := decide_eq_false (by omega)
    by_cases h2 : n = 0
    · subst h2
      have hr : rightR 83 0 s = 0 := by unfold rightR; simp [h1]
      clear h1
      go_enter Tryd.func41, Tryd.ntmps41
      go_wp2_with (first | (refine wpList_insert_own _ rfl _ _ _ 92 rfl 5 3 right_keyed Tryd.underlying92 _ (w.heap.size + 1) _ _ rfl hown.out (by decide) _ _ _ rfl rfl (keyOf_int_mk Tryd.underlying5 (by decide)) _ [] (plainElem_int Tryd.underlying3 (by decide)) ?_; intro w1 hown1 hg1; replace HB := Aside0.mk (HB.out.grown hg1 HB.out.size (fun j hj => by cases hj; omega)); replace BK := Aside0.mk ((hg1.block w.heap.size (Array.getElem?_eq_some_iff.1 BK.out).1 (by simp)).trans BK.out); replace hown := Aside0.mk hown1; clear hown1 hg1) | (at_lookup; refine wpList_lookup_own_int _ rfl _ _ 92 rfl 5 3 .i64 right_keyed Tryd.underlying92 Tryd.underlying3 (right_zero _) (w.heap.size + 1) _ _ rfl hown.out _ _ rfl (keyOf_int_mk Tryd.underlying5 (by decide)) ?_; intro q hat hwq; obtain rfl : q = 0 := right_at _ q (by decide) hat; clear hat hwq; have c0 := (blk_cell BK.out 0).trans rfl; have c1 := (blk_cell BK.out 1).trans rfl))
      go_ret
      exact ⟨by rw [hr]; rfl, HB.out⟩
    · have f2 : (n != 0) = true := bne_iff_ne.2 h2
      have hr : rightR 83 n s = 1 := by unfold rightR; simp [h1, h2]
      clear h1 h2
      go_enter Tryd.func41, Tryd.ntmps41
      go_wp2_with (first | (refine wpList_insert_own _ rfl _ _ _ 92 rfl 5 3 right_keyed Tryd.underlying92 _ (w.heap.size + 1) _ _ rfl hown.out (by decide) _ _ _ rfl rfl (keyOf_int_mk Tryd.underlying5 (by decide)) _ [] (plainElem_int Tryd.underlying3 (by decide)) ?_; intro w1 hown1 hg1; replace HB := Aside0.mk (HB.out.grown hg1 HB.out.size (fun j hj => by cases hj; omega)); replace BK := Aside0.mk ((hg1.block w.heap.size (Array.getElem?_eq_some_iff.1 BK.out).1 (by simp)).trans BK.out); replace hown := Aside0.mk hown1; clear hown1 hg1) | (at_lookup; refine wpList_lookup_own_int _ rfl _ _ 92 rfl 5 3 .i64 right_keyed Tryd.underlying92 Tryd.underlying3 (right_zero _) (w.heap.size + 1) _ _ rfl hown.out _ _ rfl (keyOf_int_mk Tryd.underlying5 (by decide)) ?_; intro q hat hwq; obtain rfl : q = 0 := right_at _ q (by decide) hat; clear hat hwq; have c0 := (blk_cell BK.out 0).trans rfl; have c1 := (blk_cell BK.out 1).trans rfl))
      go_ret
      exact ⟨by rw [hr]; rfl, HB.out⟩
set_option maxHeartbeats 4000000 in
set_option maxRecDepth 100000 in
theorem right_t (n : Int) (hn : 0 ≤ n) (hn2 : n < 18446744073709551616) (s : ByteArray) (hz : s.size ≤ 4611686018427387904) (w : World) (hg : Laid w) :
    Calls Tryd.prog 41 #[.int .u8 84, .agg #[.int .u64 n, .string s]] w fun e w' => e = .returned (.int .i64 (rightR 84 n s)) ∧ Below w.heap.size w w' := by
  have hu42 := Tryd.underlying42
  have hmm := @run_makeMap Tryd.prog
  have HG := Aside0.mk hg
  have HB := Aside0.mk (((Below.refl w.heap.size w).alloc (Nat.le_refl _) (.cells #[.int .u64 n, .string s] 42 (0, 0))).alloc (by simp) (.map #[] 0))
  have hown0 := World.ownsMap_made (H := Unit) (w.alloc (.cells #[.int .u64 n, .string s] 42 (0, 0))) Tryd.prog 5 (plainElem Tryd.prog 3)
  rw [show (w.alloc (.cells #[.int .u64 n, .string s] 42 (0, 0))).heap.size = w.heap.size + 1 by simp] at hown0
  have hown := Aside0.mk hown0
  clear hown0
  have BK := Aside0.mk (show ((w.alloc (.cells #[.int .u64 n, .string s] 42 (0, 0))).alloc (.map #[] 0)).heap[w.heap.size]? = some (.cells #[.int .u64 n, .string s] 42 (0, 0)) from blk_alloc (blk_new w _) _)
  by_cases h2 : n = 0
  · subst h2
    have hT : table_Take.f s = some (takenR s (tabR s)) := by unfold table_Take.f; rw [if_pos hz]
    have hw : wholeR s = if (takenR s (tabR s)).2.2 = 0 then (if (takenR s (tabR s)).2.1.size = 0 then 0 else 3) else (takenR s (tabR s)).2.2 := by
      unfold wholeR takenR
      by_cases e : (tabR s).2.1 = 0
      · rw [if_pos e, if_pos e]; simp only; rw [if_pos trivial]
      · rw [if_neg e, if_neg e]; simp only; rw [if_neg e]
    generalize takenR s (tabR s) = T at hT hw
    obtain ⟨v1, v2, v3⟩ := T
    simp only at hw
    have HT := Aside0.mk hT
    clear hT
    by_cases e1 : v3 = 0
    · subst e1
      rw [if_pos rfl] at hw
      by_cases e2 : v2.size = 0
      · have he := ba_empty e2
        subst he
        rw [if_pos e2] at hw
        have hr : rightR 84 0 s = 0 := by unfold rightR; simp [hw]
        clear hw e2
        go_enter Tryd.func41, Tryd.ntmps41
        go_wp2_with (first | (refine wpList_insert_own _ rfl _ _ _ 92 rfl 5 3 right_keyed Tryd.underlying92 _ (w.heap.size + 1) _ _ rfl hown.out (by decide) _ _ _ rfl rfl (keyOf_int_mk Tryd.underlying5 (by decide)) _ [] (plainElem_int Tryd.underlying3 (by decide)) ?_; intro w1 hown1 hg1; replace HB := Aside0.mk (HB.out.grown hg1 HB.out.size (fun j hj => by cases hj; omega)); replace BK := Aside0.mk ((hg1.block w.heap.size (Array.getElem?_eq_some_iff.1 BK.out).1 (by simp)).trans BK.out); replace hown := Aside0.mk hown1; clear hown1 hg1) | (at_lookup; refine wpList_lookup_own_int _ rfl _ _ 92 rfl 5 3 .i64 right_keyed Tryd.underlying92 Tryd.underlying3 (right_zero _) (w.heap.size + 1) _ _ rfl hown.out _ _ rfl (keyOf_int_mk Tryd.underlying5 (by decide)) ?_; intro q hat hwq; obtain rfl : q = 0 := right_at _ q (by decide) hat; clear hat hwq; have c0 := (blk_cell BK.out 0).trans rfl; have c1 := (blk_cell BK.out 1).trans rfl) | (go_at_call 47; refine (table_Take.calls _ _ _ _ _ (HG.out.below HB.out) HT.out).mono ?_; rintro e w2 ⟨rfl, hb2⟩))
        go_ret
        exact ⟨by rw [hr]; rfl, HB.out.trans (hb2.mono HB.out.size)⟩
      · rw [if_neg e2] at hw
        have f2 : (!v2.toList.isEmpty) = true := not_empty e2
        have hr : rightR 84 0 s = 3 := by unfold rightR; simp [hw]
        clear hw e2
        go_enter Tryd.func41, Tryd.ntmps41
        go_wp2_with (first | (refine wpList_insert_own _ rfl _ _ _ 92 rfl 5 3 right_keyed Tryd.underlying92 _ (w.heap.size + 1) _ _ rfl hown.out (by decide) _ _ _ rfl rfl (keyOf_int_mk Tryd.underlying5 (by decide)) _ [] (plainElem_int Tryd.underlying3 (by decide)) ?_; intro w1 hown1 hg1; replace HB := Aside0.mk (HB.out.grown hg1 HB.out.size (fun j hj => by cases hj; omega)); replace BK := Aside0.mk ((hg1.block w.heap.size (Array.getElem?_eq_some_iff.1 BK.out).1 (by simp)).trans BK.out); replace hown := Aside0.mk hown1; clear hown1 hg1) | (at_lookup; refine wpList_lookup_own_int _ rfl _ _ 92 rfl 5 3 .i64 right_keyed Tryd.underlying92 Tryd.underlying3 (right_zero _) (w.heap.size + 1) _ _ rfl hown.out _ _ rfl (keyOf_int_mk Tryd.underlying5 (by decide)) ?_; intro q hat hwq; obtain rfl : q = 0 := right_at _ q (by decide) hat; clear hat hwq; have c0 := (blk_cell BK.out 0).trans rfl; have c1 := (blk_cell BK.out 1).trans rfl) | (go_at_call 47; refine (table_Take.calls _ _ _ _ _ (HG.out.below HB.out) HT.out).mono ?_; rintro e w2 ⟨rfl, hb2⟩))
        go_ret
        exact ⟨by rw [hr]; rfl, HB.out.trans (hb2.mono HB.out.size)⟩
    · rw [if_neg e1] at hw
      have f2 : (v3 != 0) = true := bne_iff_ne.2 e1
      have hr : rightR 84 0 s = 3 := by unfold rightR; simp [hw, e1]
      clear hw e1
      go_enter Tryd.func41, Tryd.ntmps41
      go_wp2_with (first | (refine wpList_insert_own _ rfl _ _ _ 92 rfl 5 3 right_keyed Tryd.underlying92 _ (w.heap.size + 1) _ _ rfl hown.out (by decide) _ _ _ rfl rfl (keyOf_int_mk Tryd.underlying5 (by decide)) _ [] (plainElem_int Tryd.underlying3 (by decide)) ?_; intro w1 hown1 hg1; replace HB := Aside0.mk (HB.out.grown hg1 HB.out.size (fun j hj => by cases hj; omega)); replace BK := Aside0.mk ((hg1.block w.heap.size (Array.getElem?_eq_some_iff.1 BK.out).1 (by simp)).trans BK.out); replace hown := Aside0.mk hown1; clear hown1 hg1) | (at_lookup; refine wpList_lookup_own_int _ rfl _ _ 92 rfl 5 3 .i64 right_keyed Tryd.underlying92 Tryd.underlying3 (right_zero _) (w.heap.size + 1) _ _ rfl hown.out _ _ rfl (keyOf_int_mk Tryd.underlying5 (by decide)) ?_; intro q hat hwq; obtain rfl : q = 0 := right_at _ q (by decide) hat; clear hat hwq; have c0 := (blk_cell BK.out 0).trans rfl; have c1 := (blk_cell BK.out 1).trans rfl) | (go_at_call 47; refine (table_Take.calls _ _ _ _ _ (HG.out.below HB.out) HT.out).mono ?_; rintro e w2 ⟨rfl, hb2⟩))
      go_ret
      exact ⟨by rw [hr]; rfl, HB.out.trans (hb2.mono HB.out.size)⟩
  · have f2 : (n != 0) = true := bne_iff_ne.2 h2
    have hr : rightR 84 n s = 1 := by unfold rightR; simp [h2]
    clear h2
    go_enter Tryd.func41, Tryd.ntmps41
    go_wp2_with (first | (refine wpList_insert_own _ rfl _ _ _ 92 rfl 5 3 right_keyed Tryd.underlying92 _ (w.heap.size + 1) _ _ rfl hown.out (by decide) _ _ _ rfl rfl (keyOf_int_mk Tryd.underlying5 (by decide)) _ [] (plainElem_int Tryd.underlying3 (by decide)) ?_; intro w1 hown1 hg1; replace HB := Aside0.mk (HB.out.grown hg1 HB.out.size (fun j hj => by cases hj; omega)); replace BK := Aside0.mk ((hg1.block w.heap.size (Array.getElem?_eq_some_iff.1 BK.out).1 (by simp)).trans BK.out); replace hown := Aside0.mk hown1; clear hown1 hg1) | (at_lookup; refine wpList_lookup_own_int _ rfl _ _ 92 rfl 5 3 .i64 right_keyed Tryd.underlying92 Tryd.underlying3 (right_zero _) (w.heap.size + 1) _ _ rfl hown.out _ _ rfl (keyOf_int_mk Tryd.underlying5 (by decide)) ?_; intro q hat hwq; obtain rfl : q = 0 := right_at _ q (by decide) hat; clear hat hwq; have c0 := (blk_cell BK.out 0).trans rfl; have c1 := (blk_cell BK.out 1).trans rfl))
    go_ret
    exact ⟨by rw [hr]; rfl, HB.out⟩
/-- the letters -/
def isL (c : Int) : Prop := c = 83 ∨ c = 84 ∨ c = 111 ∨ c = 113
theorem right_calls (c : Int) (hc : isL c) (n : Int) (hn : 0 ≤ n) (hn2 : n < 18446744073709551616) (s : ByteArray) (hz : s.size ≤ 4611686018427387904) (w : World) (hg : Laid w) :
    Calls Tryd.prog 41 #[.int .u8 c, .agg #[.int .u64 n, .string s]] w fun e w' => e = .returned (.int .i64 (rightR c n s)) ∧ Below w.heap.size w w' := by
  rcases hc with rfl | rfl | rfl | rfl
  · exact right_s n hn hn2 s hz w hg
  · exact right_t n hn hn2 s hz w hg
  · exact right_o n hn hn2 s hz w hg
  · exact right_q n hn hn2 s hz w hg
end Go.Proofs.YthpfcplhlhnfeaaDoor.F
namespace Go.Proofs.YthpfcplhlhnfeaaDoor.F
open Go.RowKit Go.Proofs.YthpfcplhlhnfeaaDoorW.PrintWords Go.Proofs.YthpfcplhlhnfeaaDoorW.PrintLast Go.Proofs.YthpfcplhlhnfeaaDoorW.PrintMore
set_option linter.unusedVariables false
set_option linter.unusedSimpArgs false
set_option maxRecDepth 4000
open Go.Sort
section
variable {F : Fence} {n : Nat} {P : Program} {ops : Array Oper} {md : Region.Mode} {C : World → Prop}
theorem quiet_at_round {o : Oper} {a : Act} {K : Act → Prop} {K' : Act → World → Prop} {Q' : Exit → Act → World → Prop} {w : World} (hnd : ∀ c : Call, o.op ≠ Op.defer c) (hw : C w) (h : ∀ a w', C w' → K a → K' a w')
    (ha : o.askedIn F P a C) (hh : o.quietIn F n P a C K) : o.wpIn F n P a w K' Q' := by
  obtain ⟨v, h1, h2⟩ := hh
  refine ⟨ha w hw, ?_⟩
  rw [Oper.semAt_eq _ _ _ hnd]
  have h3 := h1 w hw
  unfold Oper.quietAtIn at h3
  revert h3
  cases (execOp a.eval o).run P w with
  | halt x w' => exact fun h3 => h3.elim
  | ok x w' =>
    cases x with
    | value u => rintro ⟨rfl, rfl⟩; exact h _ _ hw h2
    | skip => rintro ⟨rfl, rfl⟩; exact h _ _ hw h2
    | enter f args => rintro ⟨rfl, hd, hc⟩; exact ⟨hd, hc.mono fun e w'' ⟨he, hw''⟩ => by subst he; exact h _ _ hw'' h2⟩
    | _ => exact fun h3 => h3.elim
theorem op_round {i : Nat} {a : Act} {K : Act → Prop} {K' : Act → World → Prop} {Q' : Exit → Act → World → Prop} {w : World} (hnd : ∀ (i : Nat) (o : Oper), ops[i]? = some o → ∀ c : Call, o.op ≠ Op.defer c) (hC : C w) (h : ∀ a w', C w' → K a → K' a w')
    (hh : qOpIn F n P ops C i K a) : wpOpIn F n P ops Q' i K' a w := by
  unfold qOpIn at hh
  unfold wpOpIn
  cases ho : ops[i]? with
  | none =>
    rw [ho] at hh
    exact h _ _ hC hh
  | some o =>
    rw [ho] at hh
    obtain ⟨ha, hh⟩ := hh
    by_cases hw : Region.wanted o (yielded ops a.tmps) = true
    · simp only [hw, if_true] at hh ⊢
      exact quiet_at_round (hnd i o ho) hC h ha hh
    · simp only [hw] at hh ⊢
      exact ⟨ha w hC, h _ _ hC hh⟩
theorem any_round {Q : Act → Prop} {Q' : Exit → Act → World → Prop} (hnd : ∀ (i : Nat) (o : Oper), ops[i]? = some o → ∀ c : Call, o.op ≠ Op.defer c) (hQ : ∀ a w, C w → Q a → Q' .normal a w) : ∀ (fuel : Nat) (listed : Array Bool) (a : Act) (w : World), C w →
    wpAnyQIn F n P md ops C Q fuel listed a → wpAnyIn F n P md ops Q' fuel listed a w
  | 0, _, _, _, hw, h => ⟨h.1, hQ _ _ hw h.2⟩
  | fuel + 1, _, _, _, hw, h => ⟨fun h0 => hQ _ _ hw (h.1 h0), fun i hi => op_round hnd hw (fun a' w' hw' => any_round hnd hQ fuel _ a' w' hw') (h.2 i hi)⟩
def noDefer (l : List Oper) : Bool := l.all fun o => match o.op with | .defer _ => false | _ => true
theorem noDefer_spec {l : List Oper} (h : noDefer l = true) (i : Nat) (o : Oper) (ho : l.toArray[i]? = some o) (c : Call) : o.op ≠ Op.defer c := by
  intro e
  have hm : o ∈ l := List.mem_of_getElem? (by simpa using ho)
  have := List.all_eq_true.1 h o hm
  rw [e] at this
  exact Bool.noConfusion this
/-- the same where the worlds are those that some draws and new blocks have made -/
theorem region_quiet_round {id : Nat} {Q : Exit → Act → World → Prop} {a : Act} {w : World} {l : List Oper} (hm : P.follows .mixedOrders = true) (hB : Region.lexB .any l.toArray = true) (hnd : noDefer l = true)
    (h : wpQuietIn F n P l.toArray (fun w' => ∃ p : Regrown, w' = grow (redrawn w p.d) p.os) (fun a' => ∀ w', (∃ p : Regrown, w' = grow (redrawn w p.d) p.os) → Q .normal a' w') l a) : (Code.region id l.toArray true).wpIn F n P Q a w := by
  simp only [Region.lexB, Bool.and_eq_true] at hB
  refine wpIn_region_any hm (any_round (C := fun w' => ∃ p : Regrown, w' = grow (redrawn w p.d) p.os) (Q := fun a' => ∀ w', (∃ p : Regrown, w' = grow (redrawn w p.d) p.os) → Q .normal a' w') (noDefer_spec hnd) (fun _ w' hw' h => h w' hw') _ _ _ _ ⟨⟨w.drawn + 1, #[]⟩, by rw [grow_empty]; rfl⟩ ?_)
  have := wpAnyQIn_lex (F := F) (n := n) (C := fun w' => ∃ p : Regrown, w' = grow (redrawn w p.d) p.os) (md := .any) hB.1 l 0 (Array.replicate l.toArray.size false) a (by simp) (by simpa using hB.2) h
  simpa using this
end
end Go.Proofs.YthpfcplhlhnfeaaDoor.F
namespace Go.Proofs.YthpfcplhlhnfeaaDoor.F
open Go.RowKit Go.Proofs.YthpfcplhlhnfeaaDoorW.PrintWords Go.Proofs.YthpfcplhlhnfeaaDoorW.PrintLast Go.Proofs.YthpfcplhlhnfeaaDoorW.PrintMore
set_option linter.unusedVariables false
set_option linter.unusedSimpArgs false
set_option maxRecDepth 4000
open Go.Sort
attribute [local go_sem] Oper.semAt_some
theorem results_cell1 {P : Program} {fn : Func} {p : Tmp} {ty : TypeId} {d : TypeDesc} {v : Value} (h : fn.results = #[.cell p ty]) (tmps : Array Value) (w : World) (a : Addr) (hp : tmps.getD p undef = .pointer (some a)) (hu : P.underlying ty = some d)
    (hd : (match d with | .struct _ | .array _ _ => true | _ => false) = false) (hc : w.cell? a = some v) : (results fn tmps).run P w = .ok v w := by
  have hp' : tmps[p]?.getD undef = .pointer (some a) := by simpa using hp
  have ha : (isAgg ty).run P w = .ok false w := by cases d <;> simp_all [isAgg, run_underlying hu]
  simp [results, h, hp', asAddr, loadVar, ha, go_sem, hc]
def lettersB : ByteArray := ⟨#[83, 83, 84, 111, 111, 83, 83, 83, 83, 113, 83, 83, 83, 83]⟩
/-- a property's letter -/
def letN (i : Nat) : Int := bt lettersB (i : Int)
theorem letN_isL (i : Nat) (h : i < 14) : isL (letN i) := by
  have : ∀ i : Fin 14, (letN i.val = 83 ∨ letN i.val = 84 ∨ letN i.val = 111 ∨ letN i.val = 113) := by decide +kernel
  exact this ⟨i, h⟩
/-- the first value that is wrong, of the properties in a list, from the n-th value on -/
def valsGo (l : List S42) : List Nat → Nat → Int
  | [], _ => 0
  | i :: is, n => if rightR (letN i) (l.getD n z42).f0 (l.getD n z42).f1 = 0 then valsGo l is (n + 1) else rightR (letN i) (l.getD n z42).f0 (l.getD n z42).f1
theorem valsGo_app (l : List S42) : ∀ (pre rest : List Nat) (n : Nat), valsGo l (pre ++ rest) n = if valsGo l pre n = 0 then valsGo l rest (n + pre.length) else valsGo l pre n
  | [], rest, n => by rw [valsGo, if_pos rfl]; rfl
  | i :: pre, rest, n => by
    rw [List.cons_append, valsGo, valsGo, valsGo_app l pre rest (n + 1), List.length_cons, show n + 1 + pre.length = n + (pre.length + 1) by omega]
    by_cases e : rightR (letN i) (l.getD n z42).f0 (l.getD n z42).f1 = 0
    · rw [if_pos e, if_pos e]
    · rw [if_neg e, if_neg e, if_neg e]
def valuesR (fl : Int) (l : List S42) : Int := valsGo l (whichF fl 0) 0
def okVals (b fl : Int) (l : List S42) : Prop := okH b fl l ∧ (whichF fl 0).length ≤ l.length
instance (b fl : Int) (l : List S42) : Decidable (okVals b fl l) := inferInstanceAs (Decidable (_ ∧ _))
def props_held_values.f (a b fl : Int) (l : List S42) : Option Int := if okVals b fl l then some (valuesR fl l) else none
/-- What the blocks of a call of values hold between two rounds. -/
def VHeld (w0 : World) (cs : Array Value) (l : List S42) (pre : List Nat) (W : World) : Prop :=
  W.heap[w0.heap.size + 1 + 1]? = some (.cells cs 61 (0, 0)) ∧ W.heap[w0.heap.size]? = some (.cells cs 61 (0, 0)) ∧ Boxed W (w0.heap.size + 1) 27 (.int .i64 0) ∧ valsGo l pre 0 = 0 ∧ Below w0.heap.size w0 W
theorem VHeld.below {w0 : World} {cs : Array Value} {l : List S42} {pre : List Nat} {W W' : World} (hb : Below W.heap.size W W') (h : VHeld w0 cs l pre W) : VHeld w0 cs l pre W' := by
  obtain ⟨h1, h0, h2, h5, h8⟩ := h
  exact ⟨blk_below h1 hb, blk_below h0 hb, boxed_below h2 hb, h5, h8.trans (hb.mono (by have := h2.lt; omega))⟩
theorem VHeld.own {w0 : World} {B : Nat} {cs : Array Value} {l : List S42} (hB : w0.heap.size ≤ B) : OwnFrom B (VHeld w0 cs l) := by
  rintro x W W' row ⟨h1, h0, h2, h5, h8⟩ hg hr
  have hr' : ∀ r, row = some r → ∃ o : Obj, W.heap[r]? = some o ∧ o.isCells = false := fun r e => (hr r e).2
  exact ⟨blk_other h1 hg hr', blk_other h0 hg hr', boxed_other h2 hg hr', h5, ownFrom_below (β := List Nat) (Nat.le_refl _) hB x W W' row h8 hg hr⟩
/-- where one was wrong -/
def VX (w0 : World) (l : List S42) (tot : List Nat) (c : Code) (_ : List Nat × Nat) (W : World) : Prop :=
  c = .ret ∧ Boxed W (w0.heap.size + 1) 27 (.int .i64 (valsGo l tot 0)) ∧ Below w0.heap.size w0 W
theorem VX.own {w0 : World} {B : Nat} {l : List S42} {tot : List Nat} (hB : w0.heap.size ≤ B) (c : Code) : OwnFrom B (VX w0 l tot c) := by
  rintro x W W' row ⟨h1, h2, h8⟩ hg hr
  have hr' : ∀ r, row = some r → ∃ o : Obj, W.heap[r]? = some o ∧ o.isCells = false := fun r e => (hr r e).2
  exact ⟨h1, boxed_other h2 hg hr', ownFrom_below (β := List Nat × Nat) (Nat.le_refl _) hB x W W' row h8 hg hr⟩
set_option maxHeartbeats 4000000 in
set_option maxRecDepth 100000 in
theorem props_held_values.calls (a b fl : Int) (A : Option Addr) (c : Nat) (l : List S42) (r : Int) (w : World) (hg : Laid w) (hr : Kd.C k42 w A l.length l) (hc : l.length ≤ c) (h : props_held_values.f a b fl l = some r) :
    Calls Tryd.prog 31 #[.agg #[.int .i64 a, .int .u64 b, .int .u64 fl, .slice A l.length c]] w fun e w' => e = .returned (.int .i64 r) ∧ Below w.heap.size w w' := by
  have hok : okVals b fl l := by
    unfold props_held_values.f at h
    split at h
    · assumption
    · cases h
  unfold props_held_values.f at h
  rw [if_pos hok] at h
  obtain rfl := Option.some.inj h
  have HR := Aside0.mk hr
  have HG := Aside0.mk hg
  have HOK := Aside0.mk hok
  clear h hr hg hok
  have hu61 := Tryd.underlying61
  have hu25 := Tryd.underlying25
  have hu42 := Tryd.underlying42
  refine (callsIn_wide (n := 4)).1 ?_
  refine callsIn_of_wp_marks Tryd.func31 rfl trivial ?_ rfl
  simp only [Tryd.ntmps31, List.size_toArray, List.length_cons, List.length_nil, Nat.reduceAdd, Nat.reduceSub, Array.replicate_succ, Array.replicate_zero, List.push_toArray, List.append_toArray, List.nil_append, List.cons_append]
  gi_wp2_with (first | (refine ⟨trivial, ?_⟩; gi_at_call 25; refine (callsIn_wide.2 (each_calls _ _ _ _ _)).mono ?_; rintro e w' ⟨rfl, rfl⟩))
  obtain ⟨cs, hcs⟩ : ∃ cs : Array Value, cs = #[.int .i64 a, .int .u64 b, .int .u64 fl, .slice A l.length c] := ⟨_, rfl⟩
  have hn3 : ∀ (o1 o2 o3 : Obj), (((w.alloc o1).alloc o2).alloc o3).heap.size = w.heap.size + 3 := by intros; simp
  have hF0 : VHeld w cs l [] (((w.alloc (.cells #[.int .i64 a, .int .u64 b, .int .u64 fl, .slice A l.length c] 61)).alloc (.cells #[.int .i64 0] 27)).alloc (.cells #[.int .i64 a, .int .u64 b, .int .u64 fl, .slice A l.length c] 61)) := by
    rw [← hcs]
    refine ⟨?_, blk_alloc (blk_alloc (blk_new w _) _) _, (boxed_at _ _ _ _ (by simp)).alloc _, rfl, (((Below.refl _ w).alloc (Nat.le_refl _) _).alloc (by simp) _).alloc (by simp; omega) _⟩
    have := blk_new ((w.alloc (.cells cs 61)).alloc (.cells #[.int .i64 0] 27)) (.cells cs 61)
    simpa using this
  have hown : OwnFrom (((w.alloc (.cells #[.int .i64 a, .int .u64 b, .int .u64 fl, .slice A l.length c] 61)).alloc (.cells #[.int .i64 0] 27)).alloc (.cells #[.int .i64 a, .int .u64 b, .int .u64 fl, .slice A l.length c] 61)).heap.size (VHeld w cs l) := VHeld.own (by rw [hn3]; omega)
  refine wpIn_rangeFunc_shared rfl (by decide) (gf := 44) (lb := #[.pointer (some ⟨w.heap.size + 1 + 1, 0, none⟩)]) rfl trivial (enters_of Tryd.func44 (by kernel_rfl) rfl)
    eencs (fun _ => rfl) (EJ (VHeld w cs l) fl (whichF fl 0))
    (EJ1 (VHeld w cs l) fl (whichF fl 0) fun x y => #[.agg #[.int .i64 a, .int .u64 b, .int .u64 fl, .slice A l.length c], .pointer (some ⟨w.heap.size, 0, none⟩), .pointer (some ⟨w.heap.size + 1, 0, none⟩), x, y, undef,
      .agg #[.int .i64 a, .int .u64 b, .int .u64 fl, .slice A l.length c], .func (.func 44) #[] #[.pointer (some ⟨w.heap.size + 1 + 1, 0, none⟩)], x, y, undef, undef, undef, undef, undef, undef, undef, undef, undef, undef, undef, undef, undef])
    (EJ2 (VHeld w cs l) fl (whichF fl 0)) (VX w l (whichF fl 0)) (fun _ W => VHeld w cs l (whichF fl 0) W)
    (EJ1.own hown) (EJ2.own hown) (fun c' => VX.own (by rw [hn3]; omega) c') (fun _ => hown _) ?seq ?assign ?body ?done ?stop
  case stop =>
    rintro D c' s W hD ⟨rfl, e3, e5⟩ hK
    rw [hn3] at hD
    have hBd := e5.trans (belowK_b (w := w) (Nat.le_refl _) W D _ (.deferred none) (by omega) hK rfl rfl)
    gi_wp2
    refine ⟨by simp, .inl ⟨_, _, rfl, run_takeDeferred hK, ?_⟩⟩
    have d3 := (boxed_other e3 (grownBy_putObj' W D (.deferred none)) (fun r e => by cases e; exact ⟨_, hK, rfl⟩)).cell
    exact ⟨_, results_cell1 rfl _ _ _ rfl Tryd.underlying27 rfl d3, rfl, hBd⟩
  case seq =>
    rintro lp B X o1 o2 W1 hW1 _ hB h1 hY
    have hF1 : VHeld w cs l [] W1 := by
      rw [← hW1]
      exact hF0.below (((Below.refl _ _).alloc (Nat.le_refl _) _).alloc (by simp) _)
    exact each_iter 2 a b fl HOK.out.1.2.1.1 HOK.out.1.2.1.2 A c l hc (w.heap.size + 1 + 1) (VHeld w cs l) (fun _ _ _ hb h => h.below hb) (fun _ _ h => hcs ▸ h.1) (fun _ _ h => Kd.C_below HR.out h.2.2.2.2) (whichF fl 0) lp _ B X W1 hB h1 hY hF1 rfl
  case assign =>
    rintro lp s W K hlt hJ hK
    unfold eencs
    gi_wp2
    apply hK
    · exact (KeepsOthers.refl _).from _
    · exact ⟨by simp, hJ⟩
  case done =>
    rintro D W hD ⟨e1, e0, e3, e4, e5⟩ hK
    rw [hn3] at hD
    have c3 := e3.cell
    have f3 := e3.frozen
    have a3 := e3.set (.int .i64 0)
    have hK2 : (W.setCell ⟨w.heap.size + 1, 0, none⟩ (.int .i64 0)).heap[D]? = some (.deferred (some [])) := (KeepsOthers.setCell _ _ _).same D _ hK rfl
    have hB2 := e5.setCell (p := ⟨w.heap.size + 1, 0, none⟩) (by simp) (.int .i64 0)
    obtain ⟨W2, hW2⟩ : ∃ W2, W.setCell ⟨w.heap.size + 1, 0, none⟩ (.int .i64 0) = W2 := ⟨_, rfl⟩
    rw [hW2] at a3 hK2 hB2
    have hBd := hB2.trans (belowK_b (w := w) (Nat.le_refl _) W2 D _ (.deferred none) (by omega) hK2 rfl rfl)
    gi_wp2
    refine ⟨by simp, .inl ⟨_, _, rfl, run_takeDeferred hK2, ?_⟩⟩
    have d3 := (boxed_other a3 (grownBy_putObj' W2 D (.deferred none)) (fun r e => by cases e; exact ⟨_, hK2, rfl⟩)).cell
    have hv : valuesR fl l = 0 := e4
    rw [hv]
    exact ⟨_, results_cell1 rfl _ _ _ rfl Tryd.underlying27 rfl d3, rfl, hBd⟩
  case body =>
    rintro lp s a' W hlt ⟨ha', hJ⟩
    obtain ⟨⟨h1, h0, h2, h5, h8⟩, hx, hh, ht, hle⟩ := hJ
    dsimp only at ha' hx hle ht h5
    subst ha'
    have hv := h2.cell
    have hvf := h2.frozen
    have htot : (whichF fl 0).length ≤ l.length := HOK.out.2
    have hws := whichF_step fl s.2 hx
    rw [hh, if_pos rfl] at hws
    have hnl : s.1.length < l.length := by
      have := congrArg List.length ht
      rw [hws, List.length_append, List.length_cons] at this
      omega
    have hT := Aside0.mk ht
    have hWS := Aside0.mk hws
    clear ht hws
    obtain ⟨hv0, hv1, hv2⟩ := HOK.out.1.at hnl
    obtain ⟨ad, hA, hx0, hx1⟩ := at_T42 (Kd.C_below HR.out h8) (s.1.length : Int) (by omega) (by omega)
    obtain rfl := hA
    subst hcs
    have hrd : rd_T42 l (s.1.length : Int) = l.getD s.1.length z42 := by unfold rd_T42; rw [Int.toNat_natCast]
    rw [hrd] at hx0 hx1
    rw [Int.toNat_natCast] at hx0 hx1
    generalize hvv : l.getD s.1.length z42 = v at hv0 hv1 hv2 hx0 hx1
    have HVV := Aside0.mk hvv
    clear hvv hrd
    have c0 := (blk_cell h0 0).trans rfl
    have c1 := (blk_cell h0 1).trans rfl
    have c2 := (blk_cell h0 2).trans rfl
    have c3 := (blk_cell h0 3).trans rfl
    have hbt : ∀ h, ((lettersB[s.2]'h).toNat : Int) = letN s.2 := fun h => by unfold letN; rw [bt_get lettersB s.2 h]; rfl
    have p0 : (0 : Int) ≤ (s.2 : Int) := by omega
    have q0 : (s.2 : Int) < 14 := by omega
    have q2 : s.2 < lettersB.size := hx
    have p1 : (0 : Int) ≤ (s.1.length : Int) := by omega
    have q1 : (s.1.length : Int) < (l.length : Int) := by omega
    have hmx : Tryd.prog.follows .mixedOrders = true := by kernel_rfl
    have hwide : ∀ f, Fence.wide.fn f := fun _ => trivial
    have hdep : Fence.wide.depth = none := rfl
    have k0 := cell_regrown c0
    have k1 := cell_regrown c1
    have k2 := cell_regrown c2
    have k3 := cell_regrown c3
    have x0 := cell_regrown hx0
    have x1 := cell_regrown hx1
    have cL : ∀ d os, CallsIn (Fence.wide.inRound lp) 1 Tryd.prog 22 #[] (grow (redrawn W d) os) fun e w'' => e = .returned (.string lettersB) ∧ ∃ p : Regrown, w'' = grow (redrawn W p.d) p.os :=
      fun d os => CallsIn.inRound lp (CallsIn.regrown_of (callsIn_wide.2 ((props_Letters.calls lettersB _ rfl).mono fun _ _ ⟨h, hd⟩ => ⟨h, hd.below⟩)))
    have cR : ∀ d os, CallsIn (Fence.wide.inRound lp) 1 Tryd.prog 41 #[.int .u8 (letN s.2), .agg #[.int .u64 v.f0, .string v.f1]] (grow (redrawn W d) os) fun e w'' => e = .returned (.int .i64 (rightR (letN s.2) v.f0 v.f1)) ∧ ∃ p : Regrown, w'' = grow (redrawn W p.d) p.os :=
      fun d os => CallsIn.inRound lp (CallsIn.regrown_of (callsIn_wide.2 (right_calls (letN s.2) (letN_isL s.2 hx) v.f0 hv0 hv1 v.f1 (by omega) _ (HG.out.below (h8.trans ((below_regrown W d os).mono h8.size))))))
    gi_wp2
    refine region_quiet_round (by assumption) (by kernel_rfl) rfl ?_
    repeat (quiet_step_in (first | (gi_at_call 22; exact cL _ _) | (gi_at_call 41; exact cR _ _)))
    refine wpQuietIn_nil ?_
    intro _ hw'
    obtain ⟨⟨dq, osq⟩, hw''⟩ := hw'
    subst hw''
    have hBq := below_regrown W dq osq
    have hgo : valsGo l (s.1 ++ [s.2]) 0 = rightR (letN s.2) v.f0 v.f1 := by
      rw [valsGo_app, if_pos h5, valsGo, Nat.zero_add, HVV.out]
      split
      · rename_i e; rw [e]; rfl
      · rfl
    have hgoT : ∀ rest, valsGo l (s.1 ++ (s.2 :: rest)) 0 = if rightR (letN s.2) v.f0 v.f1 = 0 then valsGo l rest (s.1.length + 1) else rightR (letN s.2) v.f0 v.f1 := by
      intro rest
      rw [valsGo_app, if_pos h5, valsGo, Nat.zero_add, HVV.out]
    clear cL cR k0 k1 k2 k3 x0 x1 c0 c1 c2 c3 hx0 hx1 hbt
    have h1' := blk_below h1 hBq
    have h0' := blk_below h0 hBq
    have h2' := boxed_below h2 hBq
    have h8' := h8.trans (hBq.mono h8.size)
    have hKq : ∀ D, KeepsFrom D W (grow (redrawn W dq) osq) := fun D => keepsFrom_below hBq
    generalize grow (redrawn W dq) osq = W2 at h1' h0' h2' h8' hKq ⊢
    generalize rightR (letN s.2) v.f0 v.f1 = q at hgo hgoT ⊢
    have c5 := h2'.cell
    have f5 := h2'.frozen
    by_cases e : q = 0
    · subst e
      have HGO := Aside0.mk hgo
      clear hgoT hgo
      gi_wp2
      exact ⟨hKq _, ⟨h1', h0', h2', HGO.out, h8'⟩, hx, hh, hT.out, hle⟩
    · have e1 : (q != 0) = true := bne_iff_ne.2 e
      have htt : valsGo l (whichF fl 0) 0 = q := by
        rw [hT.out, hWS.out, hgoT, if_neg e]
      have HTT := Aside0.mk htt
      have hset := h2'.set (.int .i64 q)
      clear hgoT hgo htt e
      gi_wp2
      exact ⟨(hKq _).trans ((KeepsOthers.setCell _ _ _).from _), rfl, by rw [HTT.out]; exact hset, h8'.setCell (p := ⟨w.heap.size + 1, 0, none⟩) (by simp) _⟩
end Go.Proofs.YthpfcplhlhnfeaaDoor.F
namespace Go.Proofs.YthpfcplhlhnfeaaDoor.F
open Go.RowKit Go.Proofs.YthpfcplhlhnfeaaDoorW.PrintWords Go.Proofs.YthpfcplhlhnfeaaDoorW.PrintLast Go.Proofs.YthpfcplhlhnfeaaDoorW.PrintMore
set_option linter.unusedVariables false
set_option linter.unusedSimpArgs false
set_option maxRecDepth 4000
open Go.Sort
attribute [local go_sem] Oper.semAt_some
def props_held_form.f (a b fl : Int) (l : List S42) : Option Int := if a = 60 then (if fl > 65535 then (some 7) else (if (Go.bits .and .u64 fl 3) = 0 then ((props_held_many.f a b fl l).bind fun t => (if t = (l.length : Int) then (some 0) else (some 7))) else (some 7))) else (some 7)
set_option maxHeartbeats 4000000 in
set_option maxRecDepth 100000 in
theorem props_held_form.calls (a b fl : Int) (A : Option Addr) (c : Nat) (l : List S42) (r : Int) (w : World) (hr : Kd.C k42 w A l.length l) (hc : l.length ≤ c) (h : props_held_form.f a b fl l = some r) :
    Calls Tryd.prog 30 #[.agg #[.int .i64 a, .int .u64 b, .int .u64 fl, .slice A l.length c]] w fun e w' => e = .returned (.int .i64 r) ∧ Below w.heap.size w w' := by
  have HR := Aside0.mk hr
  clear hr
  have hu61 := Tryd.underlying61
  have hu25 := Tryd.underlying25
  have hmx : Tryd.prog.follows .mixedOrders = true := by kernel_rfl
  have hwide : ∀ f, Fence.wide.fn f := fun _ => trivial
  have hdep : Fence.wide.depth = none := rfl
  obtain ⟨w4, hw4⟩ : ∃ w4, w.alloc (.cells #[.int .i64 a, .int .u64 b, .int .u64 fl, .slice A l.length c] 61) = w4 := ⟨_, rfl⟩
  have hB4 : Below w.heap.size w w4 := by
    rw [← hw4]
    exact (Below.refl _ w).alloc (Nat.le_refl _) _
  have X0 : w4.heap[w.heap.size]? = some (.cells #[.int .i64 a, .int .u64 b, .int .u64 fl, .slice A l.length c] 61 (0, 0)) := by
    rw [← hw4]
    exact blk_new w _
  have hs4 : w4.heap.size = w.heap.size + 1 := by rw [← hw4]; simp
  have d0 := cell_regrown ((blk_cell X0 0).trans rfl)
  have d1 := cell_regrown ((blk_cell X0 1).trans rfl)
  have d2 := cell_regrown ((blk_cell X0 2).trans rfl)
  have d3 := cell_regrown ((blk_cell X0 3).trans rfl)
  unfold props_held_form.f at h
  by_cases e1 : a = 60
  · have g1 : (a != 60) = false := bne_eq_false_iff_eq.2 e1
    rw [if_pos e1] at h
    clear e1
    by_cases e2 : fl > 65535
    · have g2 : decide (65535 < fl) = true := decide_eq_true e2
      rw [if_pos e2] at h
      obtain rfl := Option.some.inj h
      clear e2 h
      refine (callsIn_wide (n := 4)).1 ?_
      refine callsIn_of_wp_marks Tryd.func30 rfl trivial ?_ rfl
      simp only [Tryd.ntmps30, List.size_toArray, List.length_cons, List.length_nil, Nat.reduceAdd, Nat.reduceSub, Array.replicate_succ, Array.replicate_zero, List.push_toArray, List.append_toArray, List.nil_append, List.cons_append]
      gi_wp2
      try rw [hw4]
      refine region_quiet_round hmx (by kernel_rfl) rfl ?_
      repeat (quiet_step_in (first | (gi_at_call 48; exact cM _ _)))
      refine wpQuietIn_nil ?_
      rintro _ ⟨⟨dq, osq⟩, rfl⟩
      have hBq := below_regrown w4 dq osq
      have hB5 := hB4.trans (hBq.mono (by omega))
      (try clear cM)
      clear d0 d1 d2 d3
      generalize grow (redrawn w4 dq) osq = w5 at hBq hB5 ⊢
      gi_wp2
      exact ⟨_, results_tmp rfl _ _ _, rfl, hB5⟩
    · have g2 : decide (65535 < fl) = false := decide_eq_false e2
      rw [if_neg e2] at h
      clear e2
      by_cases e3 : Go.bits .and .u64 fl 3 = 0
      · have g3 : (Go.bits .and .u64 fl 3 != 0) = false := bne_eq_false_iff_eq.2 e3
        rw [if_pos e3] at h
        clear e3
        obtain ⟨t, hm, h⟩ := Option.bind_eq_some_iff.mp h
        have cM : ∀ d os, CallsIn Fence.wide 3 Tryd.prog 48 #[.agg #[.int .i64 a, .int .u64 b, .int .u64 fl, .slice A l.length c]] (grow (redrawn w4 d) os) fun e w'' => e = .returned (.int .i64 t) ∧ ∃ p : Regrown, w'' = grow (redrawn w4 p.d) p.os :=
          fun d os => CallsIn.regrown_of (callsIn_wide.2 (props_held_many.calls a b fl A c l t _ (Kd.C_below HR.out (hB4.trans ((below_regrown w4 d os).mono (by omega)))) hc hm))
        clear hm
        by_cases e4 : t = (l.length : Int)
        · have g4 : (t != (l.length : Int)) = false := bne_eq_false_iff_eq.2 e4
          rw [if_pos e4] at h
          obtain rfl := Option.some.inj h
          clear e4 h
          refine (callsIn_wide (n := 4)).1 ?_
          refine callsIn_of_wp_marks Tryd.func30 rfl trivial ?_ rfl
          simp only [Tryd.ntmps30, List.size_toArray, List.length_cons, List.length_nil, Nat.reduceAdd, Nat.reduceSub, Array.replicate_succ, Array.replicate_zero, List.push_toArray, List.append_toArray, List.nil_append, List.cons_append]
          gi_wp2
          try rw [hw4]
          refine region_quiet_round hmx (by kernel_rfl) rfl ?_
          repeat (quiet_step_in (first | (gi_at_call 48; exact cM _ _)))
          refine wpQuietIn_nil ?_
          rintro _ ⟨⟨dq, osq⟩, rfl⟩
          have hBq := below_regrown w4 dq osq
          have hB5 := hB4.trans (hBq.mono (by omega))
          (try clear cM)
          clear d0 d1 d2 d3
          generalize grow (redrawn w4 dq) osq = w5 at hBq hB5 ⊢
          gi_wp2
          exact ⟨_, results_tmp rfl _ _ _, rfl, hB5⟩
        · have g4 : (t != (l.length : Int)) = true := bne_iff_ne.2 e4
          rw [if_neg e4] at h
          obtain rfl := Option.some.inj h
          clear e4 h
          refine (callsIn_wide (n := 4)).1 ?_
          refine callsIn_of_wp_marks Tryd.func30 rfl trivial ?_ rfl
          simp only [Tryd.ntmps30, List.size_toArray, List.length_cons, List.length_nil, Nat.reduceAdd, Nat.reduceSub, Array.replicate_succ, Array.replicate_zero, List.push_toArray, List.append_toArray, List.nil_append, List.cons_append]
          gi_wp2
          try rw [hw4]
          refine region_quiet_round hmx (by kernel_rfl) rfl ?_
          repeat (quiet_step_in (first | (gi_at_call 48; exact cM _ _)))
          refine wpQuietIn_nil ?_
          rintro _ ⟨⟨dq, osq⟩, rfl⟩
          have hBq := below_regrown w4 dq osq
          have hB5 := hB4.trans (hBq.mono (by omega))
          (try clear cM)
          clear d0 d1 d2 d3
          generalize grow (redrawn w4 dq) osq = w5 at hBq hB5 ⊢
          gi_wp2
          exact ⟨_, results_tmp rfl _ _ _, rfl, hB5⟩
      · have g3 : (Go.bits .and .u64 fl 3 != 0) = true := bne_iff_ne.2 e3
        rw [if_neg e3] at h
        obtain rfl := Option.some.inj h
        clear e3 h
        refine (callsIn_wide (n := 4)).1 ?_
        refine callsIn_of_wp_marks Tryd.func30 rfl trivial ?_ rfl
        simp only [Tryd.ntmps30, List.size_toArray, List.length_cons, List.length_nil, Nat.reduceAdd, Nat.reduceSub, Array.replicate_succ, Array.replicate_zero, List.push_toArray, List.append_toArray, List.nil_append, List.cons_append]
        gi_wp2
        try rw [hw4]
        refine region_quiet_round hmx (by kernel_rfl) rfl ?_
        repeat (quiet_step_in (first | (gi_at_call 48; exact cM _ _)))
        refine wpQuietIn_nil ?_
        rintro _ ⟨⟨dq, osq⟩, rfl⟩
        have hBq := below_regrown w4 dq osq
        have hB5 := hB4.trans (hBq.mono (by omega))
        (try clear cM)
        clear d0 d1 d2 d3
        generalize grow (redrawn w4 dq) osq = w5 at hBq hB5 ⊢
        gi_wp2
        exact ⟨_, results_tmp rfl _ _ _, rfl, hB5⟩
  · have g1 : (a != 60) = true := bne_iff_ne.2 e1
    rw [if_neg e1] at h
    obtain rfl := Option.some.inj h
    clear e1 h
    refine (callsIn_wide (n := 4)).1 ?_
    refine callsIn_of_wp_marks Tryd.func30 rfl trivial ?_ rfl
    simp only [Tryd.ntmps30, List.size_toArray, List.length_cons, List.length_nil, Nat.reduceAdd, Nat.reduceSub, Array.replicate_succ, Array.replicate_zero, List.push_toArray, List.append_toArray, List.nil_append, List.cons_append]
    gi_wp2
    try rw [hw4]
    refine region_quiet_round hmx (by kernel_rfl) rfl ?_
    repeat (quiet_step_in (first | (gi_at_call 48; exact cM _ _)))
    refine wpQuietIn_nil ?_
    rintro _ ⟨⟨dq, osq⟩, rfl⟩
    have hBq := below_regrown w4 dq osq
    have hB5 := hB4.trans (hBq.mono (by omega))
    (try clear cM)
    clear d0 d1 d2 d3
    generalize grow (redrawn w4 dq) osq = w5 at hBq hB5 ⊢
    gi_wp2
    exact ⟨_, results_tmp rfl _ _ _, rfl, hB5⟩
end Go.Proofs.YthpfcplhlhnfeaaDoor.F
namespace Go.Proofs.YthpfcplhlhnfeaaDoor.F
open Go.RowKit Go.Proofs.YthpfcplhlhnfeaaDoorW.PrintWords Go.Proofs.YthpfcplhlhnfeaaDoorW.PrintLast Go.Proofs.YthpfcplhlhnfeaaDoorW.PrintMore
attribute [local go_sem] max2_int min2_int max_two min_two max_three min_three max_four min_four
set_option linter.unusedVariables false
set_option linter.unusedSimpArgs false
set_option maxRecDepth 4000
set_option linter.unnecessarySimpa false

/-! ### props_Right: function 14 -/
def props_Right.j0 : Nat → Int → Bool → Int → Int → Int → List (S42) → Option (Int)
  | 0, _, _, _, _, _, _ => none
  | k + 1, x4, x9, x116000, x116001, x116002, x116003 => if x9 = true then (some 4) else (if x4 = 0 then ((props_held_values.f x116000 x116001 x116002 x116003).bind fun t117 => (some t117)) else (some x4))
def props_Right.f (k : Nat) (a0_0 : Int) (a0_1 : Int) (a0_2 : Int) (l0_3 : List (S42)) : Option (Int) := (props_held_form.f a0_0 a0_1 a0_2 l0_3).bind fun t116 => (if t116 = 0 then (props_Right.j0 k t116 (decide (a0_1 > 65536)) a0_0 a0_1 a0_2 l0_3) else (props_Right.j0 k t116 false a0_0 a0_1 a0_2 l0_3))
theorem props_Right.mono_l : ∀ k, (∀ y0 y1 y2 y3 y4 y5, LeO (props_Right.j0 k y0 y1 y2 y3 y4 y5) (props_Right.j0 (k + 1) y0 y1 y2 y3 y4 y5))
  | 0 => fun _ _ _ _ _ _ r h => by simp [props_Right.j0] at h
  | k + 1 => by
    have ih0 := props_Right.mono_l k
    · intro y0 y1 y2 y3 y4 y5
      unfold props_Right.j0
      repeat' first
      | (with_reducible exact ih0 _ _ _ _ _ _)
      | (with_reducible exact LeO.refl _)
      | (with_reducible exact LeO.none _)
      | (with_reducible refine LeO.ite ?_ ?_)
      | (with_reducible refine LeO.bind ?_ (fun _ => ?_))
      | exact ih0 _ _ _ _ _ _
      | exact LeO.none _
      | refine LeO.ite ?_ ?_
      | refine LeO.bind ?_ (fun _ => ?_)
theorem props_Right.mono : ∀ a0 a1 a2 a3 k, LeO (props_Right.f k a0 a1 a2 a3) (props_Right.f (k + 1) a0 a1 a2 a3) := by
  intro a0 a1 a2 a3 k
  have ih0 := props_Right.mono_l k
  unfold props_Right.f
  repeat' first
      | (with_reducible exact ih0 _ _ _ _ _ _)
      | (with_reducible exact LeO.refl _)
      | (with_reducible exact LeO.none _)
      | (with_reducible refine LeO.ite ?_ ?_)
      | (with_reducible refine LeO.bind ?_ (fun _ => ?_))
      | exact ih0 _ _ _ _ _ _
      | exact LeO.none _
      | refine LeO.ite ?_ ?_
      | refine LeO.bind ?_ (fun _ => ?_)
set_option maxHeartbeats 8000000 in
set_option maxRecDepth 100000 in
theorem props_Right.calls (k : Nat) (a0_0 : Int) (a0_1 : Int) (a0_2 : Int) (A0_3 : Option Addr) (c0_3 : Nat) (l0_3 : List (S42)) (r : Int) (w : World) (hg : Laid w) (hr0_3 : Kd.C k42 w A0_3 l0_3.length l0_3) (hc0_3 : l0_3.length ≤ c0_3) (h : props_Right.f k a0_0 a0_1 a0_2 l0_3 = some r) :
    Calls Tryd.prog 14 #[.agg #[.int .i64 a0_0, .int .u64 a0_1, .int .u64 a0_2, .slice A0_3 l0_3.length c0_3]] w fun e w' => e = .returned (.int .i64 r) ∧ Below w.heap.size w w' := by
  have HG := Aside0.mk hg
  clear hg
  have hu25 := Tryd.underlying25
  have hu61 := Tryd.underlying61
  have HR0_3 := Aside0.mk hr0_3
  have HC0_3 := Aside0.mk hc0_3
  clear hr0_3 hc0_3
  have HB := Aside0.mk (Below.refl w.heap.size w)
  have H : ((props_held_form.f a0_0 a0_1 a0_2 l0_3).bind fun t116 => (if t116 = 0 then (props_Right.j0 k t116 (decide (a0_1 > 65536)) a0_0 a0_1 a0_2 l0_3) else (props_Right.j0 k t116 false a0_0 a0_1 a0_2 l0_3))) = some r := h
  clear h
  replace H := Option.bind_eq_some_iff.mp H
  obtain ⟨t116, A20, H⟩ := H
  replace H : (if t116 = 0 then (props_Right.j0 k t116 (decide (a0_1 > 65536)) a0_0 a0_1 a0_2 l0_3) else (props_Right.j0 k t116 false a0_0 a0_1 a0_2 l0_3)) = some r := H
  have A2 := Aside0.mk A20
  clear A20
  have HC3 := Aside0.mk H
  clear H
  go_enter Tryd.func14, Tryd.ntmps14
  go_upto_region 3 with (first | ((with_reducible refine gate_dst (N := 1) rfl ?_); refine box_event ?hg (N := 1) ?hd (cs := #[.int .i64 a0_0, .int .u64 a0_1, .int .u64 a0_2, .slice A0_3 l0_3.length c0_3]) (t := 25) ?hr ?_; (case hd => rfl); (case hg => rfl); (case hr => first | (go_simp; done) | (go_simp; rfl)); intro gb114 hg w4 hbox hb; have n0_ := Aside0.mk (below_step (by repeat (first | (with_reducible first | exact HB.out | apply below_alloc | apply pw_below_drewN | apply below_drew1) | exact HB.out)) hb); have n1_ := Aside0.mk (hbox); have n2_ := Aside0.mk ((by rw [hg]; exact (below_size (by repeat (first | (with_reducible first | exact HB.out | apply below_alloc | apply pw_below_drewN | apply below_drew1) | exact HB.out))) : w.heap.size ≤ gb114)); have n3_ := Aside0.mk ((by rw [hg]; exact (below_size (by repeat (first | (with_reducible first | exact HB.out | apply below_alloc | apply pw_below_drewN | apply below_drew1) | exact HB.out))) : w.heap.size ≤ gb114)); clear HB; have HB := n0_; have BK114 := n1_; have GW114 := n2_; have GE114 := n3_; clear n0_ n1_ n2_ n3_; clear hb hbox hg; have hcz5_0 : w4.cell? ⟨gb114, 0, none⟩ = some (.int .i64 a0_0) := (blk_cell BK114.out 0).trans rfl; have hcz5_1 : w4.cell? ⟨gb114, 1, none⟩ = some (.int .u64 a0_1) := (blk_cell BK114.out 1).trans rfl; have hcz5_2 : w4.cell? ⟨gb114, 2, none⟩ = some (.int .u64 a0_2) := (blk_cell BK114.out 2).trans rfl; have hcz5_3 : w4.cell? ⟨gb114, 3, none⟩ = some (.slice A0_3 l0_3.length c0_3) := (blk_cell BK114.out 3).trans rfl; have hfz5_0 := blk_frozen BK114.out 0; have hfz5_1 := blk_frozen BK114.out 1; have hfz5_2 := blk_frozen BK114.out 2; have hfz5_3 := blk_frozen BK114.out 3) | ((with_reducible refine gate_dst (N := 3) rfl ?_); refine box_event ?hg (N := 3) ?hd (cs := #[.int .i64 0, .int .u64 0, .int .u64 0, .slice none 0 0]) (t := 61) ?hr ?_; (case hd => rfl); (case hg => rfl); (case hr => first | (go_simp; done) | (go_simp; rfl)); intro gb115 hg w6 hbox hb; have n0_ := Aside0.mk (blk_below (g := gb114) (o := .cells #[.int .i64 a0_0, .int .u64 a0_1, .int .u64 a0_2, .slice A0_3 l0_3.length c0_3] 25 (0, 0)) (by (with_reducible repeat (first | refine blk_drewN ?_ _ | refine blk_drew ?_ | refine blk_alloc ?_ _)); exact BK114.out) hb); have n1_ := Aside0.mk (below_step (by repeat (first | (with_reducible first | exact HB.out | apply below_alloc | apply pw_below_drewN | apply below_drew1 | refine below_set ?_ GE114.out) | exact HB.out)) hb); have n2_ := Aside0.mk (hbox); have n3_ := Aside0.mk ((by rw [hg]; exact (below_size (by repeat (first | (with_reducible first | exact HB.out | apply below_alloc | apply pw_below_drewN | apply below_drew1 | refine below_set ?_ GE114.out) | exact HB.out))) : w.heap.size ≤ gb115)); have n4_ := Aside0.mk ((by rw [hg]; exact (below_size (by repeat (first | (with_reducible first | exact HB.out | apply below_alloc | apply pw_below_drewN | apply below_drew1 | refine below_set ?_ GE114.out) | exact HB.out))) : w.heap.size ≤ gb115)); have n5_ := Aside0.mk ((by rw [hg]; exact Nat.ne_of_lt (blk_lt (g := gb114) (o := .cells #[.int .i64 a0_0, .int .u64 a0_1, .int .u64 a0_2, .slice A0_3 l0_3.length c0_3] 25 (0, 0)) (by (with_reducible repeat (first | refine blk_drewN ?_ _ | refine blk_drew ?_ | refine blk_alloc ?_ _)); exact BK114.out)) : gb114 ≠ gb115)); have n6_ := Aside0.mk ((by rw [hg]; exact Nat.ne_of_gt (blk_lt (g := gb114) (o := .cells #[.int .i64 a0_0, .int .u64 a0_1, .int .u64 a0_2, .slice A0_3 l0_3.length c0_3] 25 (0, 0)) (by (with_reducible repeat (first | refine blk_drewN ?_ _ | refine blk_drew ?_ | refine blk_alloc ?_ _)); exact BK114.out)) : gb115 ≠ gb114)); clear BK114; clear HB; have BK114 := n0_; have HB := n1_; have BK115 := n2_; have GW115 := n3_; have GE115 := n4_; have NB114_115 := n5_; have NB115_114 := n6_; clear n0_ n1_ n2_ n3_ n4_ n5_ n6_; clear hb hbox hg; have hnb7 := NB115_114.out; have hnc7 := NB114_115.out; have hcz8_0 : w6.cell? ⟨gb115, 0, none⟩ = some (.int .i64 0) := (blk_cell BK115.out 0).trans rfl; have hcz8_1 : w6.cell? ⟨gb115, 1, none⟩ = some (.int .u64 0) := (blk_cell BK115.out 1).trans rfl; have hcz8_2 : w6.cell? ⟨gb115, 2, none⟩ = some (.int .u64 0) := (blk_cell BK115.out 2).trans rfl; have hcz8_3 : w6.cell? ⟨gb115, 3, none⟩ = some (.slice none 0 0) := (blk_cell BK115.out 3).trans rfl; have hfz8_0 := blk_frozen BK115.out 0; have hfz8_1 := blk_frozen BK115.out 1; have hfz8_2 := blk_frozen BK115.out 2; have hfz8_3 := blk_frozen BK115.out 3) | ((with_reducible refine gate_callee (f := 30) rfl ?_); refine goesL_ (some 8) rfl rfl Tryd.func30 (by kernel_rfl) rfl #[.agg #[.int .i64 a0_0, .int .u64 a0_1, .int .u64 a0_2, .slice A0_3 l0_3.length c0_3]] rfl (by (try simp only [List.map_toArray, List.map_cons, List.map_nil]); first | done | rfl | (simp only [List.length_drop, List.length_take]; rfl)) ?_; (with_reducible refine (props_held_form.calls a0_0 a0_1 a0_2 _ _ l0_3 t116 _ ?side1 ?side2 A2.out).mono ?_); (case side1 => exact Kd.C_below HR0_3.out (by repeat (first | (with_reducible first | exact HB.out | apply below_alloc | apply pw_below_drewN | apply below_drew1 | refine below_set ?_ GE114.out | refine below_set ?_ GE115.out) | exact HB.out))); (case side2 => exact HC0_3.out); rintro e w9 ⟨rfl, hb⟩; refine ⟨_, rfl, ?_⟩; have n0_ := Aside0.mk (blk_below (g := gb114) (o := .cells #[.int .i64 a0_0, .int .u64 a0_1, .int .u64 a0_2, .slice A0_3 l0_3.length c0_3] 25 (0, 0)) (by (with_reducible repeat (first | refine blk_drewN ?_ _ | refine blk_drew ?_ | refine blk_alloc ?_ _)); refine blk_far ?_ NB114_115.out _; (with_reducible repeat (first | refine blk_drewN ?_ _ | refine blk_drew ?_ | refine blk_alloc ?_ _)); refine blk_far ?_ NB114_115.out _; (with_reducible repeat (first | refine blk_drewN ?_ _ | refine blk_drew ?_ | refine blk_alloc ?_ _)); refine blk_far ?_ NB114_115.out _; (with_reducible repeat (first | refine blk_drewN ?_ _ | refine blk_drew ?_ | refine blk_alloc ?_ _)); refine blk_far ?_ NB114_115.out _; (with_reducible repeat (first | refine blk_drewN ?_ _ | refine blk_drew ?_ | refine blk_alloc ?_ _)); exact BK114.out) hb); have n1_ := Aside0.mk (blk_below (g := gb115) (o := .cells #[.int .i64 a0_0, .int .u64 a0_1, .int .u64 a0_2, .slice A0_3 l0_3.length c0_3] 61 (0, 0)) (by (with_reducible repeat (first | refine blk_drewN ?_ _ | refine blk_drew ?_ | refine blk_alloc ?_ _)); refine blk_put (cs := #[.int .i64 a0_0, .int .u64 a0_1, .int .u64 a0_2, .slice none 0 0]) ?_ 3 _ rfl; (with_reducible repeat (first | refine blk_drewN ?_ _ | refine blk_drew ?_ | refine blk_alloc ?_ _)); refine blk_put (cs := #[.int .i64 a0_0, .int .u64 a0_1, .int .u64 0, .slice none 0 0]) ?_ 2 _ rfl; (with_reducible repeat (first | refine blk_drewN ?_ _ | refine blk_drew ?_ | refine blk_alloc ?_ _)); refine blk_put (cs := #[.int .i64 a0_0, .int .u64 0, .int .u64 0, .slice none 0 0]) ?_ 1 _ rfl; (with_reducible repeat (first | refine blk_drewN ?_ _ | refine blk_drew ?_ | refine blk_alloc ?_ _)); refine blk_put (cs := #[.int .i64 0, .int .u64 0, .int .u64 0, .slice none 0 0]) ?_ 0 _ rfl; (with_reducible repeat (first | refine blk_drewN ?_ _ | refine blk_drew ?_ | refine blk_alloc ?_ _)); exact BK115.out) hb); have n2_ := Aside0.mk (below_step (by repeat (first | (with_reducible first | exact HB.out | apply below_alloc | apply pw_below_drewN | apply below_drew1 | refine below_set ?_ GE114.out | refine below_set ?_ GE115.out) | exact HB.out)) hb); clear BK114; clear BK115; clear HB; have BK114 := n0_; have BK115 := n1_; have HB := n2_; clear n0_ n1_ n2_; (try clear hb); (try clear hb2); (try clear hk); (try clear hi)))
  (try simp only [Act.put, List.setIfInBounds_toArray, List.set_cons_zero, List.set_cons_succ])
  go_cut [9] (fun v9 wc => ∃ (kq : Nat) (x9_2 : Bool), v9 = .bool x9_2 ∧ Aside0 (props_Right.j0 kq t116 x9_2 a0_0 a0_1 a0_2 l0_3 = some r) ∧ Aside0 (kq ≤ k) ∧ Aside0 (wc.heap[gb114]? = some (.cells #[.int .i64 a0_0, .int .u64 a0_1, .int .u64 a0_2, (.slice A0_3 l0_3.length c0_3)] 25 (0, 0))) ∧ Aside0 (wc.heap[gb115]? = some (.cells #[.int .i64 a0_0, .int .u64 a0_1, .int .u64 a0_2, (.slice A0_3 l0_3.length c0_3)] 61 (0, 0))) ∧ Aside0 (Below w.heap.size w wc))
  case first =>
    have H := HC3.out
    clear HC3
    by_cases c10 : t116 = 0
    · rw [if_pos c10] at H
      have c10b0 : (t116 == 0) = true := beq_iff_eq.mpr c10
      have c10b1 : (t116 != 0) = false := bne_eq_false_iff_eq.mpr c10
      clear c10
      (first | rw [c10b0] | (simp only [i64_w, i32_w]; rw [c10b0]) | skip)
      have H' := Aside0.mk H
      clear H
      have hnb11 := NB114_115.out
      have hnc11 := NB115_114.out
      have hcz12_0 : w9.cell? ⟨gb114, 0, none⟩ = some (.int .i64 a0_0) := (blk_cell BK114.out 0).trans rfl
      have hcz12_1 : w9.cell? ⟨gb114, 1, none⟩ = some (.int .u64 a0_1) := (blk_cell BK114.out 1).trans rfl
      have hcz12_2 : w9.cell? ⟨gb114, 2, none⟩ = some (.int .u64 a0_2) := (blk_cell BK114.out 2).trans rfl
      have hcz12_3 : w9.cell? ⟨gb114, 3, none⟩ = some (.slice A0_3 l0_3.length c0_3) := (blk_cell BK114.out 3).trans rfl
      have hfz12_0 := blk_frozen BK114.out 0
      have hfz12_1 := blk_frozen BK114.out 1
      have hfz12_2 := blk_frozen BK114.out 2
      have hfz12_3 := blk_frozen BK114.out 3
      go_wp2
      go_meet
      case rel => exact ⟨_, (decide (a0_1 > 65536)), (by first | rfl | (simp; done) | (simp [*]; done)), H', ⟨by first | omega | exact Nat.le_refl _⟩, ⟨by (with_reducible repeat (first | refine blk_drewN ?_ _ | refine blk_drew ?_ | refine blk_alloc ?_ _)); exact BK114.out⟩, ⟨by (with_reducible repeat (first | refine blk_drewN ?_ _ | refine blk_drew ?_ | refine blk_alloc ?_ _)); exact BK115.out⟩, ⟨by repeat (first | (with_reducible first | exact HB.out | apply below_alloc | apply pw_below_drewN | apply below_drew1 | refine below_set ?_ GE114.out | refine below_set ?_ GE115.out) | exact HB.out)⟩⟩
    · rw [if_neg c10] at H
      have c10b0 : (t116 == 0) = false := beq_eq_false_iff_ne.mpr c10
      have c10b1 : (t116 != 0) = true := bne_iff_ne.mpr c10
      (first | rw [c10b0] | (simp only [i64_w, i32_w]; rw [c10b0]) | skip)
      have H' := Aside0.mk H
      clear H
      go_wp2
      go_meet
      case rel => exact ⟨_, (false), (by first | rfl | (simp; done) | (simp [*]; done)), H', ⟨by first | omega | exact Nat.le_refl _⟩, ⟨by (with_reducible repeat (first | refine blk_drewN ?_ _ | refine blk_drew ?_ | refine blk_alloc ?_ _)); exact BK114.out⟩, ⟨by (with_reducible repeat (first | refine blk_drewN ?_ _ | refine blk_drew ?_ | refine blk_alloc ?_ _)); exact BK115.out⟩, ⟨by repeat (first | (with_reducible first | exact HB.out | apply below_alloc | apply pw_below_drewN | apply below_drew1 | refine below_set ?_ GE114.out | refine below_set ?_ GE115.out) | exact HB.out)⟩⟩
  case rest =>
    clear HC3
    try clear c1
    try clear p2
    try clear c3
    try clear c7
    try clear c10
    try clear c10b0
    try clear c10b1
    try clear c11
    try clear hcz12_0
    try clear hcz12_1
    try clear hcz12_2
    try clear hcz12_3
    try clear hcz5_0
    try clear hcz5_1
    try clear hcz5_2
    try clear hcz5_3
    try clear hcz8_0
    try clear hcz8_1
    try clear hcz8_2
    try clear hcz8_3
    try clear hfz12_0
    try clear hfz12_1
    try clear hfz12_2
    try clear hfz12_3
    try clear hfz5_0
    try clear hfz5_1
    try clear hfz5_2
    try clear hfz5_3
    try clear hfz8_0
    try clear hfz8_1
    try clear hfz8_2
    try clear hfz8_3
    obtain ⟨kq, x9_2, rfl, HA, HJ2, BK114, BK115, HB⟩ := hcut
    cases kq with
    | zero => exact absurd HA.out (by simp [props_Right.j0])
    | succ kj2 =>
      have H := HA.out
      clear HA
      simp only [props_Right.j0] at H
      by_cases c13 : x9_2 = true
      · subst c13
        have H1 : (some 4) = some r := by rw [if_pos rfl] at H; exact H
        clear H
        have H := H1
        clear H1
        obtain rfl := Option.some.inj H
        go_wp2
        go_ret
        exact ⟨by first | rfl | (simp [errW_none, errW_some] <;> rfl) | (simp [*, errW_none, errW_some] <;> rfl), by repeat (first | (with_reducible first | exact HB.out | apply below_alloc | apply pw_below_drewN | apply below_drew1 | refine below_set ?_ GE114.out | refine below_set ?_ GE115.out) | exact HB.out)⟩
      · replace c13 := Bool.eq_false_iff.mpr c13
        subst c13
        have H1 : (if t116 = 0 then ((props_held_values.f a0_0 a0_1 a0_2 l0_3).bind fun t117 => (some t117)) else (some t116)) = some r := by rw [if_neg (show ¬ (false = true) by decide)] at H; exact H
        clear H
        have H := H1
        clear H1
        by_cases c14 : t116 = 0
        · rw [if_pos c14] at H
          have c14b0 : (t116 == 0) = true := beq_iff_eq.mpr c14
          have c14b1 : (t116 != 0) = false := bne_eq_false_iff_eq.mpr c14
          clear c14
          replace H := Option.bind_eq_some_iff.mp H
          obtain ⟨t117, A150, H⟩ := H
          replace H : (some t117) = some r := H
          have A15 := Aside0.mk A150
          clear A150
          obtain rfl := Option.some.inj H
          have hnb16 := NB115_114.out
          have hnc16 := NB114_115.out
          have hcz17_0 : wc.cell? ⟨gb115, 0, none⟩ = some (.int .i64 a0_0) := (blk_cell BK115.out 0).trans rfl
          have hcz17_1 : wc.cell? ⟨gb115, 1, none⟩ = some (.int .u64 a0_1) := (blk_cell BK115.out 1).trans rfl
          have hcz17_2 : wc.cell? ⟨gb115, 2, none⟩ = some (.int .u64 a0_2) := (blk_cell BK115.out 2).trans rfl
          have hcz17_3 : wc.cell? ⟨gb115, 3, none⟩ = some (.slice A0_3 l0_3.length c0_3) := (blk_cell BK115.out 3).trans rfl
          have hfz17_0 := blk_frozen BK115.out 0
          have hfz17_1 := blk_frozen BK115.out 1
          have hfz17_2 := blk_frozen BK115.out 2
          have hfz17_3 := blk_frozen BK115.out 3
          go_wp2_with (first | ((with_reducible refine gate_callee (f := 31) rfl ?_); refine goesL_ (some 22) rfl rfl Tryd.func31 (by kernel_rfl) rfl #[.agg #[.int .i64 a0_0, .int .u64 a0_1, .int .u64 a0_2, .slice A0_3 l0_3.length c0_3]] rfl (by (try simp only [List.map_toArray, List.map_cons, List.map_nil]); first | done | rfl | (simp only [List.length_drop, List.length_take]; rfl)) ?_; (with_reducible refine (props_held_values.calls a0_0 a0_1 a0_2 _ _ l0_3 t117 _ ?lg ?side1 ?side2 A15.out).mono ?_); (case lg => exact (HG.out.below (by repeat (first | (with_reducible first | exact HB.out | apply below_alloc | apply pw_below_drewN | apply below_drew1 | refine below_set ?_ GE114.out | refine below_set ?_ GE115.out) | exact HB.out)))); (case side1 => repeat (first | exact (Kd.C_below HR0_3.out HB.out) | (with_reducible refine Kd.C_alloc ?_ _) | (with_reducible refine Kd.C_drewN ?_ _) | (with_reducible refine Kd.C_drew ?_))); (case side2 => exact HC0_3.out); rintro e w18 ⟨rfl, hb⟩; refine ⟨_, rfl, ?_⟩; have n0_ := Aside0.mk (blk_below (g := gb114) (o := .cells #[.int .i64 a0_0, .int .u64 a0_1, .int .u64 a0_2, .slice A0_3 l0_3.length c0_3] 25 (0, 0)) (by (with_reducible repeat (first | refine blk_drewN ?_ _ | refine blk_drew ?_ | refine blk_alloc ?_ _)); exact BK114.out) hb); have n1_ := Aside0.mk (blk_below (g := gb115) (o := .cells #[.int .i64 a0_0, .int .u64 a0_1, .int .u64 a0_2, .slice A0_3 l0_3.length c0_3] 61 (0, 0)) (by (with_reducible repeat (first | refine blk_drewN ?_ _ | refine blk_drew ?_ | refine blk_alloc ?_ _)); exact BK115.out) hb); have n2_ := Aside0.mk (below_step (by repeat (first | (with_reducible first | exact HB.out | apply below_alloc | apply pw_below_drewN | apply below_drew1 | refine below_set ?_ GE114.out | refine below_set ?_ GE115.out) | exact HB.out)) hb); clear BK114; clear BK115; clear HB; have BK114 := n0_; have BK115 := n1_; have HB := n2_; clear n0_ n1_ n2_; (try clear hb); (try clear hb2); (try clear hk); (try clear hi)))
          go_ret
          exact ⟨by first | rfl | (simp [errW_none, errW_some] <;> rfl) | (simp [*, errW_none, errW_some] <;> rfl), by repeat (first | (with_reducible first | exact HB.out | apply below_alloc | apply pw_below_drewN | apply below_drew1 | refine below_set ?_ GE114.out | refine below_set ?_ GE115.out) | exact HB.out)⟩
        · rw [if_neg c14] at H
          have c14b0 : (t116 == 0) = false := beq_eq_false_iff_ne.mpr c14
          have c14b1 : (t116 != 0) = true := bne_iff_ne.mpr c14
          obtain rfl := Option.some.inj H
          go_wp2
          go_ret
          exact ⟨by first | rfl | (simp [errW_none, errW_some] <;> rfl) | (simp [*, errW_none, errW_some] <;> rfl), by repeat (first | (with_reducible first | exact HB.out | apply below_alloc | apply pw_below_drewN | apply below_drew1 | refine below_set ?_ GE114.out | refine below_set ?_ GE115.out) | exact HB.out)⟩


end Go.Proofs.YthpfcplhlhnfeaaDoor.F
namespace Go.Proofs.YthpfcplhlhnfeaaDoor.F
open Go.RowKit Go.Proofs.YthpfcplhlhnfeaaDoorW.PrintWords Go.Proofs.YthpfcplhlhnfeaaDoorW.PrintLast Go.Proofs.YthpfcplhlhnfeaaDoorW.PrintMore
set_option linter.unusedVariables false
set_option linter.unusedSimpArgs false
set_option maxRecDepth 4000
/-- is it right, but for its size and values? -/
def FormR (a fl : Int) (l : List S42) : Prop := a = 60 ∧ fl ≤ 65535 ∧ fl % 4 = 0 ∧ (whichF fl 0).length = l.length
instance (a fl : Int) (l : List S42) : Decidable (FormR a fl l) := inferInstanceAs (Decidable (_ ∧ _))
def RightR (a b fl : Int) (l : List S42) : Int := if FormR a fl l then (if 65536 < b then 4 else valuesR fl l) else 7
theorem u64_and3 (x : Int) (h0 : 0 ≤ x) (h1 : x < 18446744073709551616) : Go.bits .and .u64 x 3 = x % 4 := by
  have h := bits_mask .u64 64 (by decide) (fun n h0 h1 => IntWalk.u64_in _ (by omega)) 2 (by decide) x h0 (by omega)
  have h1 : ((2 : Int) ^ 2 - 1) = 3 := by decide
  rw [h1] at h
  rw [h]
  rfl
theorem form_f (a b fl : Int) (l : List S42) (h : okH b fl l) : props_held_form.f a b fl l = some (if FormR a fl l then 0 else 7) := by
  unfold props_held_form.f
  by_cases e1 : a = 60
  · rw [if_pos e1]
    by_cases e2 : fl > 65535
    · rw [if_pos e2, if_neg (show ¬ FormR a fl l from fun hh => by have := hh.2.1; omega)]
    · rw [if_neg e2, u64_and3 fl h.2.1.1 h.2.1.2]
      by_cases e3 : fl % 4 = 0
      · have hm : props_held_many.f a b fl l = some ((whichF fl 0).length : Int) := by unfold props_held_many.f; rw [if_pos h]
        rw [if_pos e3, hm, Option.bind_some]
        by_cases e4 : (whichF fl 0).length = l.length
        · rw [if_pos (by omega), if_pos (show FormR a fl l from ⟨e1, by omega, e3, e4⟩)]
        · rw [if_neg (by omega), if_neg (show ¬ FormR a fl l from fun hh => e4 hh.2.2.2)]
      · rw [if_neg e3, if_neg (show ¬ FormR a fl l from fun hh => e3 hh.2.2.1)]
  · rw [if_neg e1, if_neg (show ¬ FormR a fl l from fun hh => e1 hh.1)]
theorem Right_k {k : Nat} (hk : 1 ≤ k) (a b fl : Int) (l : List S42) (h : okH b fl l) : props_Right.f k a b fl l = some (RightR a b fl l) := by
  obtain ⟨k, rfl⟩ : ∃ j, k = j + 1 := ⟨k - 1, by omega⟩
  unfold props_Right.f RightR
  rw [form_f a b fl l h, Option.bind_some]
  by_cases e : FormR a fl l
  · rw [if_pos e, if_pos e, if_pos rfl, props_Right.j0]
    by_cases e2 : b > 65536
    · rw [decide_eq_true e2, if_pos rfl, if_pos (show 65536 < b from e2)]
    · have hv : props_held_values.f a b fl l = some (valuesR fl l) := by unfold props_held_values.f; rw [if_pos ⟨h, by rw [e.2.2.2]; exact Nat.le_refl _⟩]
      rw [decide_eq_false e2, if_neg (by decide), if_neg (show ¬ 65536 < b from e2), if_pos rfl, hv, Option.bind_some]
  · rw [if_neg e, if_neg e, if_neg (by decide), props_Right.j0, if_neg (by decide), if_neg (by decide)]
end Go.Proofs.YthpfcplhlhnfeaaDoor.F
